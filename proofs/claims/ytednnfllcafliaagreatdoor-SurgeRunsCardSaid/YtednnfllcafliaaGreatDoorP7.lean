/- Runs told by what the slots tell: what is behind an index of a row, and its clearing. No condition. Stable sorting, in plain lists: what a sorted list with the same equal elements in the same order is. No condition. Stable sorting, in plain lists: parts change places; two sorted parts are merged in place. No condition. Runs told by what the slots tell: halves by shifts, elements by 'getD'. No condition. -/
import Derived.Test.YtednnfllcafliaaGreatDoorP6
set_option linter.all false
namespace Go.Proofs
open Go.Fs Ieee
set_option linter.unusedVariables false
theorem vt208 : ValT Tryz.prog 208 y208 := valT_of (by kernel_rfl)
theorem zt208 : ZerT Tryz.prog 208 y208 := zerT_of (z := .map none) (by kernel_rfl) rfl rfl
/-! ## What is missing, by the program -/
theorem sSlots_ok {d : Int × Int × Int × (List (ByteArray × Int))} : VF Tryz.prog OA 174 [.v y106 d] (.clo 205 [] [.p y106 d]) := by
  refine VF.enter Tryz.func174 rfl (fun _ _ => rfl) rfl ?_
  show VC _ _ _ _ _ [(0, .v y106 d)] [] _
  refine VC.seq ?_
  refine VC.text ?_
  refine VO.new (.box) ?_
  refine VO.c (.assign rfl) ?_
  refine VO.go ?_
  refine VC.seq ?_
  refine VC.text ?_
  refine VO.c (.func) ?_
  refine VO.c (.assign rfl) ?_
  refine VO.go ?_
  refine VC.ret ?_
  exact VEnd.one rfl evT rfl
theorem nm_dist {d : Dom} (hd : domE d = 0) {i k : Nat} (hi : i < d.2.2.2.length) (hk : k < d.2.2.2.length) (e : nmE d.2.2.2 i = nmE d.2.2.2 k) : i = k := by
  have hz := (dom_ok hd).2.2.2.2.2
  rcases Nat.lt_trichotomy i k with h | h | h
  · exact absurd e (mem_dist (hz k hk) h)
  · exact h
  · exact absurd e.symm (mem_dist (hz i hi) h)
theorem slAll_nodup {d : Dom} (hd : domE d = 0) : (slAll d).Nodup := by
  unfold slAll preM preT List.Nodup
  rw [List.pairwise_flatMap]
  refine ⟨fun m hm => ?_, List.Pairwise.imp_of_mem (fun {m k} hm hk hlt x hx y hy e => ?_) List.pairwise_lt_range⟩
  · rw [List.pairwise_flatMap]
    refine ⟨fun t _ => ?_, List.pairwise_lt_range.imp fun {t u} hlt x hx y hy e => ?_⟩
    · rw [List.pairwise_map]
      refine List.pairwise_lt_range.imp fun {r q} hlt e => ?_
      have : (r : Int) = q := congrArg (·.2.2) e
      omega
    · obtain ⟨r, _, rfl⟩ := List.mem_map.1 hx
      obtain ⟨q, _, rfl⟩ := List.mem_map.1 hy
      have : (t : Int) = u := congrArg (·.2.1) e
      omega
  · obtain ⟨t, _, hx⟩ := List.mem_flatMap.1 hx
    obtain ⟨u, _, hy⟩ := List.mem_flatMap.1 hy
    obtain ⟨r, _, rfl⟩ := List.mem_map.1 hx
    obtain ⟨q, _, rfl⟩ := List.mem_map.1 hy
    have := nm_dist hd (List.mem_range.1 hm) (List.mem_range.1 hk) (congrArg (·.1) e)
    omega
theorem mset_keys {α β : Type} [DecidableEq α] (m : List (α × β)) (x : α) (y : β) : (mset m x y).map (·.1) = if (mget m x).isSome then m.map (·.1) else m.map (·.1) ++ [x] := by
  induction m with
  | nil => rfl
  | cons p r ih =>
    obtain ⟨k, v⟩ := p
    by_cases h : x = k
    · subst h; simp [mset, mget]
    · simp only [mset, if_neg h, mget, List.map_cons, ih]
      split <;> simp
theorem mget_mem {α β : Type} [DecidableEq α] {m : List (α × β)} {x : α} : x ∈ m.map (·.1) ↔ (mget m x).isSome = true := by
  induction m with
  | nil => simp [mget]
  | cons p r ih =>
    obtain ⟨k, v⟩ := p
    by_cases h : x = k
    · subst h; simp [mget]
    · rw [List.map_cons, List.mem_cons, ih, mget, if_neg h]; simp [h]
theorem runM_nodup (l : List Pc) (n : Int) : ∀ i, ((runM l n i).map (·.1)).Nodup
  | 0 => List.nodup_nil
  | i + 1 => by
    rw [runM]
    split
    · rw [mset_keys]
      split
      · exact runM_nodup l n i
      · rename_i h
        refine List.nodup_append.2 ⟨runM_nodup l n i, by simp, fun a ha b hb e => ?_⟩
        rw [List.mem_singleton] at hb
        subst hb; subst e
        exact h (mget_mem.1 ha)
    · exact runM_nodup l n i
theorem slot_in {d : Dom} {p : Pc} (hd : domE d = 0) (h : pcE d p = 0) : slotE p ∈ slAll d := by
  have h1 := (pc_lv h).1
  rw [pcPre_eq hd] at h1
  split at h1
  · contradiction
  · split at h1
    · cases h1
    · rename_i h2
      split at h1
      · contradiction
      · rename_i h3
        have h4 : firstE [rangeE p.2.2.1 0 (d.2.2.1 - 1), rangeE p.2.2.2.1 0 (d.1 - 1)] = 0 := by simpa using h3
        rw [firstE_zero] at h4
        have h5 := rangeE_zero.1 (h4 _ List.mem_cons_self)
        have h6 := rangeE_zero.1 (h4 _ (List.mem_cons_of_mem _ List.mem_cons_self))
        have h7 : d.2.2.2.findIdx (fun m => decide (m.1 = p.2.1)) < d.2.2.2.length := by
          unfold memAt at h2
          split at h2
          · assumption
          · omega
        have h8 := List.findIdx_getElem (w := h7)
        have h9 := of_decide_eq_true h8
        rw [nmE_eq h7] at h9
        refine mem_preM.2 ⟨_, h7, p.2.2.1.toNat, by omega, p.2.2.2.1.toNat, by omega, ?_⟩
        unfold slM slotE
        rw [h9, Int.toNat_of_nonneg h5.1, Int.toNat_of_nonneg h6.1]
theorem has_len {d : Dom} {l : List Pc} {n : Int} (hs : storeE d l = 0) : (runM l n l.length).length + (missL d l n).length = (slAll d).length := by
  obtain ⟨hd, _, hz⟩ := store_dom hs
  have hp : ((runM l n l.length).map (·.1)).Perm ((slAll d).filter (fun s => !lost l n s)) := by
    refine (List.perm_ext_iff_of_nodup (runM_nodup l n _) (List.Pairwise.filter _ (slAll_nodup hd))).2 fun s => ?_
    rw [mget_mem, fnd_run hz, List.mem_filter]
    unfold lost
    by_cases h : fndE l n s < 0
    · rw [if_pos h]; simp [h]
    · rw [if_neg h]
      refine ⟨fun _ => ⟨?_, by simp [h]⟩, fun _ => rfl⟩
      cases hg : mget (runM l n l.length) s with
      | none => rw [fnd_run hz, if_neg h] at hg; cases hg
      | some p =>
        obtain ⟨j, j1, rfl, _, j3⟩ := runM_some _ hg
        rw [← j3]; exact slot_in hd (piece_zero (hz j j1))
  have h1 := hp.length_eq
  rw [List.length_map] at h1
  have h2 : ∀ xs : List Sl, (xs.filter (fun s => !lost l n s)).length + (xs.filter (lost l n)).length = xs.length := fun xs => by
    induction xs with
    | nil => rfl
    | cons a r ih => cases hb : lost l n a <;> simp [List.filter_cons, hb] <;> omega
  rw [h1]
  exact h2 _
theorem slAll_len {d : Dom} (hd : domE d = 0) : ((slAll d).length : Int) = (d.2.2.2.length : Int) * d.2.2.1 * d.1 := by
  have h := dom_ok hd
  have h1 : ∀ k, (preM d k).length = k * (d.2.2.1.toNat * d.1.toNat) := fun k => by
    induction k with
    | zero => simp [preM]
    | succ k ih => rw [preM_succ, List.length_append, ih, preT_len, Nat.succ_mul]
  unfold slAll
  rw [h1, Int.natCast_mul, Int.natCast_mul, Int.toNat_of_nonneg (by omega), Int.toNat_of_nonneg (by omega), Int.mul_assoc]
theorem miss_ne {d : Dom} {l : List Pc} {n : Int} (hd : domE d = 0) {y : Sl} {q : List Sl} (h : missL d l n = y :: q) : ¬ (y.1, y.2.1, y.2.2) = (ByteArray.empty, (0 : Int), (0 : Int)) := fun e => by
  have hm : y ∈ missL d l n := by rw [h]; exact List.mem_cons_self
  obtain ⟨m, hm1, t, _, r, _, rfl⟩ := mem_preM.1 (List.mem_filter.1 hm).1
  have h1 : nmE d.2.2.2 m = ByteArray.empty := congrArg (·.1) e
  have h2 := (dom_ok hd).2.2.2.2.2 m hm1
  unfold memE at h2
  rw [firstE_zero] at h2
  have h3 := h2 _ List.mem_cons_self
  rw [h1] at h3
  have h4 : nameB ByteArray.empty = false := decide_eq_false fun hh => hh.1 rfl
  rw [h4] at h3
  cases h3
theorem lost_look {d : Dom} {l : List Pc} {n : Int} (hs : storeE d l = 0) {x : Sl} : (mget (runM l n l.length) x).isSome = !lost l n x := by
  rw [fnd_run (store_dom hs).2.2]
  unfold lost
  by_cases h : fndE l n x < 0
  · rw [if_pos h, decide_eq_true h] <;> rfl
  · rw [if_neg h, decide_eq_false h] <;> rfl
theorem fil_keep {l : List Pc} {n : Int} {x : Sl} {r : List Sl} (h : lost l n x = true) : (x :: r).filter (lost l n) = x :: r.filter (lost l n) := by rw [List.filter_cons, if_pos h]
theorem fil_skip {l : List Pc} {n : Int} {x : Sl} {r : List Sl} (h : lost l n x = false) : (x :: r).filter (lost l n) = r.filter (lost l n) := by rw [List.filter_cons, if_neg (by rw [h]; exact Bool.false_ne_true)]
theorem miss_num {d : Dom} {l : List Pc} {n : Int} (hs : storeE d l = 0) : (d.2.2.2.length : Int) * d.2.2.1 * d.1 - ((runM l n l.length).length : Nat) = ((missL d l n).length : Nat) := by
  have h1 := has_len (n := n) hs
  have h2 := slAll_len (store_dom hs).1
  omega
theorem sMiss_ok {d : Int × Int × Int × (List (ByteArray × Int))} {l : List (Int × ByteArray × Int × Int × (List Nat))} {n : Int} (hs : storeE d l = 0) (hl : l.length < 100000) : VF Tryz.prog OA 142 [.v y106 d, .v y108 l, I n] (.tup [I ((missL d l n).length : Nat), .v y141 ((missL d l n).headD z3)]) := by
  refine VF.enter Tryz.func142 rfl (fun _ _ => rfl) rfl ?_
  show VC _ _ _ _ _ [(0, .v y106 d), (1, .v y108 l), (2, I n)] [] _
  refine VC.seq ?_
  refine VC.text ?_
  have hd := (store_dom hs).1
  have hdd := dom_ok hd
  have hb1 := mul_bound (a := (d.2.2.2.length : Int)) (b := d.2.2.1) (A := 16) (B := 96) (by omega) (by omega)
  have hb2 := mul_bound (a := (d.2.2.2.length : Int) * d.2.2.1) (b := d.1) (A := 16 * 96) (B := 8) hb1 (by omega)
  have hnum := miss_num (n := n) hs
  refine VO.new (.box) ?_
  refine VO.c (.assign rfl) ?_
  refine VO.cell (.alloc zt141) ?_
  intro ww1
  refine VO.go ?_
  refine VC.scope ?_
  refine VC.seq ?_
  refine VC.text ?_
  refine VO.c (.move rfl) ?_
  refine VO.c (.move rfl) ?_
  refine VO.call rfl rfl (VF.call (sRun_ok hl)) ?_
  refine VO.cell (.alloc zt208) ?_
  intro ww2
  refine VO.setV (cs' := [.v y208 (runM l n l.length)]) vt208 .v ?_
  refine VO.shut [(8, .p y208 (runM l n l.length))] (.cons rfl (.var m0 .refl) .nil) ?_
  refine VO.go ?_
  refine VC.seq ?_
  refine VC.text ?_
  refine VO.cell (.alloc zt141) ?_
  intro ww3
  refine VO.go ?_
  refine VC.seq ?_
  refine VC.label ?_
  show VC _ _ _ _ _ _ _ _
  refine VC.seq ?_
  refine VC.seq ?_
  refine VC.text ?_
  refine VO.r (.ld vt106) ?_
  refine VO.call rfl rfl (VF.call (sSlots_ok )) ?_
  refine VO.go ?_
  refine VC.block ?_
  refine VC.keep [(3, .p y106 d), (7, .raw ww1), (8, .p y208 (runM l n l.length)), (9, .raw ww3), (17, .clo 205 [] [.p y106 d])] ⟨rfl, rfl, rfl, rfl, rfl, trivial⟩ ?_
  refine VC.rangeFunc rfl (sSlots1_ok hd) (fun _ => rfl) rfl rfl (fun rest ss => ss = [(ww3, .var [St z3.1, I z3.2.1, I z3.2.2]), (ww1, .var [St ByteArray.empty, I (0 : Int), I (0 : Int)])] ∧ (missL d l n = rest.filter (lost l n))) (fun ee ss => (ee = .exit 0 ∧ ∃ (y : Sl), ss = [(ww3, .var [St y.1, I y.2.1, I y.2.2]), (ww1, .var [St ByteArray.empty, I (0 : Int), I (0 : Int)])] ∧ (∃ q, missL d l n = y :: q))) ⟨rfl, (by rfl)⟩ ?_ ?_ ?_
  · rintro jj x rest _ ⟨rfl, hr⟩
    show VC _ _ _ _ _ [(18, .v y141 x), (3, .p y106 d), (7, .raw ww1), (8, .p y208 (runM l n l.length)), (9, .raw ww3), (17, .clo 205 [] [.p y106 d])] [(ww3, .var [St z3.1, I z3.2.1, I z3.2.2]), (ww1, .var [St ByteArray.empty, I (0 : Int), I (0 : Int)])] _
    refine VC.text ?_
    refine VO.cell (.alloc zt141) ?_
    intro ww4
    refine VO.setV (cs' := [St x.1, I x.2.1, I x.2.2]) vt141 .v ?_
    refine VO.shut [(10, .p y141 x)] (.cons rfl (.var m0 .refl) .nil) ?_
    refine VO.nil ?_
    refine ⟨rfl, ?_⟩
    refine VC.block ?_
    refine VC.seq ?_
    refine VC.text ?_
    refine VO.r (.ld vt208) ?_
    refine VO.r (.ld vt141) ?_
    refine VO.r (.lookOk mt208) ?_
    refine VO.c (.move rfl) ?_
    refine VO.c (.extract) ?_
    refine VO.c (.extract) ?_
    refine VO.cell (.alloc zt160) ?_
    intro ww5
    refine VO.setV (cs' := [I (((mget (runM l n l.length) x).getD (0, ByteArray.empty, 0, 0, [])).1), St (((mget (runM l n l.length) x).getD (0, ByteArray.empty, 0, 0, [])).2.1), I (((mget (runM l n l.length) x).getD (0, ByteArray.empty, 0, 0, [])).2.2.1), I (((mget (runM l n l.length) x).getD (0, ByteArray.empty, 0, 0, [])).2.2.2.1), .v y124 (((mget (runM l n l.length) x).getD (0, ByteArray.empty, 0, 0, [])).2.2.2.2)]) vt160 .v ?_
    refine VO.shut [(11, .p y160 ((mget (runM l n l.length) x).getD (0, ByteArray.empty, 0, 0, [])))] (.cons rfl (.var m0 .refl) .nil) ?_
    refine VO.c (.assign rfl) ?_
    refine VO.go ?_
    refine VC.seq ?_
    refine VC.text ?_
    refine VO.c (.move rfl) ?_
    refine VO.c (.not) ?_
    refine VO.go ?_
    refine VC.condB rfl (fun c6 => ?_) (fun c6 => ?_)
    · try simp only [Bool.and_eq_true, Bool.or_eq_true, Bool.and_eq_false_iff, Bool.or_eq_false_iff, Bool.not_eq_true', Bool.not_eq_false', decide_eq_true_eq, decide_eq_false_iff_not] at c6
      have hlx : lost l n x = true := by have := lost_look (n := n) hs (x := x); rw [show (mget (runM l n l.length) x).isSome = false from c6] at this; simpa using this.symm
      refine VC.seq ?_
      refine VC.text ?_
      refine VO.r (.ld vt141) ?_
      refine VO.setV (cs' := [St x.1, I x.2.1, I x.2.2]) vt141 .v ?_
      refine VO.go ?_
      refine VC.exit ?_
      exact .inr ⟨(by intro h; cases h), ⟨rfl, x, rfl, (by exact ⟨_, by rw [hr, fil_keep hlx]⟩)⟩⟩
    · try simp only [Bool.and_eq_true, Bool.or_eq_true, Bool.and_eq_false_iff, Bool.or_eq_false_iff, Bool.not_eq_true', Bool.not_eq_false', decide_eq_true_eq, decide_eq_false_iff_not] at c6
      have hlx : lost l n x = false := by have := lost_look (n := n) hs (x := x); rw [show (mget (runM l n l.length) x).isSome = true from c6] at this; simpa using this.symm
      refine VC.skip ?_
      exact .inl ⟨rfl, rfl, (by rw [hr, fil_skip hlx])⟩
  · rintro _ ⟨rfl, hr⟩
    show VC _ _ _ _ _ _ _ _
    refine VC.seq ?_
    refine VC.seq ?_
    refine VC.text ?_
    refine VO.r (.ldA (dx := (z3.1, z3.2.1, z3.2.2)) m0 vt141) ?_
    refine VO.c (.build (ByteArray.empty, 0, 0) bt141) ?_
    refine VO.c (.eeql eq141) ?_
    refine VO.go ?_
    refine VC.condD rfl (fun c8 => ?_) (fun c8 => ?_)
    · refine VC.seq ?_
      refine VC.drawn ?_
      refine VD.r [(ww3, .var [St z3.1, I z3.2.1, I z3.2.2]), (ww1, .var [St ByteArray.empty, I (0 : Int), I (0 : Int)])] (.ldA (dx := (z3.1, z3.2.1, z3.2.2)) m0 vt141) (.inr ⟨rfl, rfl⟩) ?_
      refine VD.c (.assign rfl) ?_
      refine VD.perm swap1 ?_
      refine VD.mk0 (MakeV.setF (k := 0) vt141 .v (by decide) (.inr ⟨rfl, rfl⟩) rfl rfl) ?_
      rintro _ _ tl6 ⟨rfl, rfl⟩
      refine VD.go ?_
      refine VC.ret ?_
      exact VEnd.two rfl evT (.cell (x := (z3.1, z3.2.1, z3.2.2)) rfl m0 vt141 .refl) (pvI (by first | (rw [hr]; rfl) | exact absurd c8 (miss_ne hd he.choose_spec))) (pvE (by first | (rw [hr]; rfl) | exact absurd c8 (miss_ne hd he.choose_spec)))
    · refine VC.skip ?_
      show VC _ _ _ _ _ _ _ _
      refine VC.seq ?_
      refine VC.drawn ?_
      refine VD.c (.fa (.r (.r (.r .o)))) ?_
      refine VD.r [] (.ld vt104) (.inl rfl) ?_
      refine VD.r [] (.len el104) (.inl rfl) ?_
      refine VD.c (.fa (.r (.r (.l .o)))) ?_
      refine VD.r [] (.ld vt3) (.inl rfl) ?_
      refine VD.c (.mul rfl rfl (by exact ⟨by omega, by omega⟩)) ?_
      refine VD.nw [] ?_
      refine VD.c (.fa (.l .o)) ?_
      refine VD.r [] (.ld vt3) (.inl rfl) ?_
      refine VD.c (.mul rfl rfl (by exact ⟨by omega, by omega⟩)) ?_
      refine VD.r [] (.ld vt208) (.inl rfl) ?_
      refine VD.r [] (.lenM mt208) (.inl rfl) ?_
      refine VD.c (.sub rfl rfl (by rw [hnum]; have h1 := has_len (n := n) hs; have h2 := slAll_len hd; exact ⟨by omega, by omega⟩)) ?_
      refine VD.r [(ww3, .var [St z3.1, I z3.2.1, I z3.2.2]), (ww1, .var [St ByteArray.empty, I (0 : Int), I (0 : Int)])] (.ldA (dx := (z3.1, z3.2.1, z3.2.2)) m0 vt141) (.inr ⟨rfl, rfl⟩) ?_
      refine VD.nw [] ?_
      refine VD.c (.assign rfl) ?_
      refine VD.perm swap1 ?_
      refine VD.mk0 (MakeV.setF (k := 0) vt141 .v (by decide) (.inr ⟨rfl, rfl⟩) rfl rfl) ?_
      rintro _ _ tl7 ⟨rfl, rfl⟩
      refine VD.go ?_
      refine VC.ret ?_
      exact VEnd.two rfl evT (.cell (x := (z3.1, z3.2.1, z3.2.2)) rfl m0 vt141 .refl) (pvI (by first | exact absurd rfl c8 | exact hnum)) (pvE (by first | exact absurd rfl c8 | (rw [he.choose_spec]; rfl)))
  · rintro _ _ _ (⟨rfl, y, rfl, he⟩)
    · show VC _ _ _ _ _ _ _ _
      refine VC.seq ?_
      refine VC.seq ?_
      refine VC.text ?_
      refine VO.r (.ldA (dx := (y.1, y.2.1, y.2.2)) m0 vt141) ?_
      refine VO.c (.build (ByteArray.empty, 0, 0) bt141) ?_
      refine VO.c (.eeql eq141) ?_
      refine VO.go ?_
      refine VC.condD rfl (fun c8 => ?_) (fun c8 => ?_)
      · refine VC.seq ?_
        refine VC.drawn ?_
        refine VD.r [(ww3, .var [St y.1, I y.2.1, I y.2.2]), (ww1, .var [St ByteArray.empty, I (0 : Int), I (0 : Int)])] (.ldA (dx := (y.1, y.2.1, y.2.2)) m0 vt141) (.inr ⟨rfl, rfl⟩) ?_
        refine VD.c (.assign rfl) ?_
        refine VD.perm swap1 ?_
        refine VD.mk0 (MakeV.setF (k := 0) vt141 .v (by decide) (.inr ⟨rfl, rfl⟩) rfl rfl) ?_
        rintro _ _ tl8 ⟨rfl, rfl⟩
        refine VD.go ?_
        refine VC.ret ?_
        exact VEnd.two rfl evT (.cell (x := (y.1, y.2.1, y.2.2)) rfl m0 vt141 .refl) (pvI (by first | (rw [hr]; rfl) | exact absurd c8 (miss_ne hd he.choose_spec))) (pvE (by first | (rw [hr]; rfl) | exact absurd c8 (miss_ne hd he.choose_spec)))
      · refine VC.skip ?_
        show VC _ _ _ _ _ _ _ _
        refine VC.seq ?_
        refine VC.drawn ?_
        refine VD.c (.fa (.r (.r (.r .o)))) ?_
        refine VD.r [] (.ld vt104) (.inl rfl) ?_
        refine VD.r [] (.len el104) (.inl rfl) ?_
        refine VD.c (.fa (.r (.r (.l .o)))) ?_
        refine VD.r [] (.ld vt3) (.inl rfl) ?_
        refine VD.c (.mul rfl rfl (by exact ⟨by omega, by omega⟩)) ?_
        refine VD.nw [] ?_
        refine VD.c (.fa (.l .o)) ?_
        refine VD.r [] (.ld vt3) (.inl rfl) ?_
        refine VD.c (.mul rfl rfl (by exact ⟨by omega, by omega⟩)) ?_
        refine VD.r [] (.ld vt208) (.inl rfl) ?_
        refine VD.r [] (.lenM mt208) (.inl rfl) ?_
        refine VD.c (.sub rfl rfl (by rw [hnum]; have h1 := has_len (n := n) hs; have h2 := slAll_len hd; exact ⟨by omega, by omega⟩)) ?_
        refine VD.r [(ww3, .var [St y.1, I y.2.1, I y.2.2]), (ww1, .var [St ByteArray.empty, I (0 : Int), I (0 : Int)])] (.ldA (dx := (y.1, y.2.1, y.2.2)) m0 vt141) (.inr ⟨rfl, rfl⟩) ?_
        refine VD.nw [] ?_
        refine VD.c (.assign rfl) ?_
        refine VD.perm swap1 ?_
        refine VD.mk0 (MakeV.setF (k := 0) vt141 .v (by decide) (.inr ⟨rfl, rfl⟩) rfl rfl) ?_
        rintro _ _ tl9 ⟨rfl, rfl⟩
        refine VD.go ?_
        refine VC.ret ?_
        exact VEnd.two rfl evT (.cell (x := (y.1, y.2.1, y.2.2)) rfl m0 vt141 .refl) (pvI (by first | exact absurd rfl c8 | exact hnum)) (pvE (by first | exact absurd rfl c8 | (rw [he.choose_spec]; rfl)))
end Go.Proofs
namespace Go.Fs
variable {P : Program} {orc : FuncId → List Value → Heap → Option (Value × Heap)} {h h' h0 h1 h2 : Heap} {S S' S0 B G : List Nat} {σ σ' σr : Sto} {t t' : Tr} {ms : List Nat} {fl : VL} {ops : Array Oper} {n i mem : Nat} {l : List Oper} {K : VL → Sto → Prop} {Q : Ex → VL → Sto → Prop}
  {d : Tmp} {ty : TypeId} {pos : String} {after : Array Edge} {op : Op} {v pv : PV} {g : Option (Nat × Bool)} {x y z : Operand} {T T' e : TypeId} {τ τ' : Ty} {w : Value}

def rowFrom (w : Value) (sz k : Nat) : Value :=
  match w with
  | .slice (some ⟨b, o, none⟩) n mk => cutAt sz b o k n mk
  | u => u
theorem rest_run {xs : List τ.den} {k b : Nat} {rs : List Value} {m : Bool} {H : Heap} (hT : ElT P T e τ) (hk : k ≤ xs.length) (hg : H.get b = some (.row e rs true m)) : fsSlice P T (.slice (some ⟨b, 0, none⟩) xs.length 0) (some (.int .i64 (k : Nat))) none none H = some (rowFrom (.slice (some ⟨b, 0, none⟩) xs.length 0) τ.size k) := by
  obtain ⟨i, z, hi1, hi2, _⟩ := hT.sl.info
  have e1 : Nat.ble k xs.length = true := by rw [Nat.ble_eq]; exact hk
  have e2 : Nat.ble xs.length xs.length = true := by rw [Nat.ble_eq]; exact Nat.le_refl _
  have e3 : Nat.beq e e = true := Nat.beq_refl _
  have e4 : Nat.beq 0 1 = false := rfl
  have e5 : Nat.beq 0 0 = true := rfl
  have h0 : (0 : Int) ≤ (k : Nat) := Int.natCast_nonneg _
  have hmk : markOf e b k 0 H = 0 := by
    unfold markOf
    rw [hg]
    cases Nat.beq k 0 <;> simp [e3, e5]
  simp only [fsSlice, hT.sl.sl, hi1, boundOf, if_pos h0, Int.toNat_natCast, e1, e2, e4, Bool.and_self, cond_true, cond_false, hmk, hi2, rowFrom]
theorem ReadV.restO {xs : List τ.den} {k : Nat} {lo : Operand} (hx : evV fl x = some (.raw w)) (hl : evV fl lo = some (.v (.int .i64) ((k : Nat) : Int))) (hm : (w, Cell.row e τ xs) ∈ σ) (hT : ElT P T e τ) (h0 : 0 < xs.length) (hk : k ≤ xs.length) : ReadV P fl σ (.slice T x (some lo) none none) (.raw (rowFrom w τ.size k)) :=
  ⟨rfl, fun h S t hs hc => by
    have h1 : evalO t x = w := hs x (by simp [Op.operands]) _ hx
    have h2 := RepV.int (hs lo (by simp [Op.operands]) _ hl)
    rcases hc _ hm with ⟨_, rfl⟩ | ⟨b, rs, m, h3, h4, h5, h6⟩
    · simp at h0
    have hw : w = _ := h3
    refine ⟨_, rfl, fun H hH _ _ _ _ _ => ?_⟩
    show (fsSlice P T (evalO t x) (some (evalO t lo)) none none H).map _ = _
    rw [h1, h2, hw, rest_run hT hk (hH _ _ h5)]; rfl⟩
theorem rest_eq {xs : List τ.den} {k b : Nat} (hk : k < xs.length) : rowFrom (.slice (some ⟨b, 0, none⟩) xs.length 0) τ.size k = .slice (some ⟨b, 0 + k * τ.size, none⟩) (xs.length - k) 0 := by
  have e1 : Nat.blt k xs.length = true := by show Nat.ble (k + 1) xs.length = true; rw [Nat.ble_eq]; exact hk
  simp [rowFrom, cutAt, e1]
theorem ReadV.lenF {xs : List τ.den} {k : Nat} (hm : (w, Cell.row e τ xs) ∈ σ) (hT : ElT P T e τ) (hk : k < xs.length) (hx : evV fl x = some (.raw (rowFrom w τ.size k)) := by rfl) : ReadV P fl σ (.call { callee := .builtin .len, args := #[x], argTypes := #[T] }) (.v (.int .i64) ((xs.length - k : Nat) : Int)) :=
  ⟨rfl, fun h S t hs hc => by
    have h1 : evalO t x = rowFrom w τ.size k := hs x (by simp [Op.operands, Call.operands]) _ hx
    refine ⟨_, RepV.ofInt _ _, fun H _ _ _ _ _ _ => ?_⟩
    show (fsLen P #[T] (evalO t x) H).map _ = _
    rw [h1]
    rcases hc _ hm with ⟨_, rfl⟩ | ⟨b, rs, m, h3, h4, h5, h6⟩
    · simp at hk
    · have hw : w = _ := h3
      rw [hw, rest_eq hk]
      simp [fsLen, hT.sl.sl]⟩
theorem CalmV.ixF {xs : List τ.den} {j k : Nat} (hx : evV fl x = some (.raw (rowFrom w τ.size k))) (hy : evV fl y = some (.v (.int .i64) ((j : Nat) : Int))) (hm : (w, Cell.row e τ xs) ∈ σ) (hT : ElT P T e τ) (hj : j < xs.length - k) : CalmV P fl σ (.indexAddr T x y) (.raw (ptrAt w τ.size (k + j))) :=
  ⟨rfl, fun h S t hs hc => by
    have h1 : evalO t x = rowFrom w τ.size k := hs x (by simp [Op.operands]) _ hx
    have h2 := RepV.int (hs y (by simp [Op.operands]) _ hy)
    refine ⟨_, rfl, fun _ _ _ _ _ H => ?_⟩
    show (if af (evalO t y) then (runPure P (Instr.indexAt T (evalO t x) (evalO t y))).map fun v => (v, H) else none) = _
    rcases hc _ hm with ⟨_, rfl⟩ | ⟨b, rs, m, h3, h4, h5, h6⟩
    · simp at hj
    · have hw : w = _ := h3
      obtain ⟨i, z, hinf, hsz, _⟩ := hT.sl.info
      rw [h1, h2, hw, rest_eq (by omega), if_pos (show af (Value.int .i64 ((j : Nat) : Int)) = true from rfl)]
      have h7 : (0 : Int) ≤ (j : Int) ∧ (j : Int) < ((xs.length - k : Nat) : Int) := by omega
      unfold Instr.indexAt
      simp only [runPure_bind, asIntOf, runPure_pure, Option.bind_some, runPure_underlying hT.sl.sl, if_pos h7, runPure_sizeOf hinf, hsz, add_none, Int.toNat_natCast, ptrAt, Option.map_some]
      rw [Nat.add_mul, Nat.zero_add, Nat.zero_add]⟩
theorem CalmV.ixFZ {xs : List τ.den} {k : Nat} {z : Int} (hx : evV fl x = some (.raw (rowFrom w τ.size k))) (hy : evV fl y = some (.v (.int .i64) z)) (hm : (w, Cell.row e τ xs) ∈ σ) (hT : ElT P T e τ) (h0 : 0 ≤ z) (hz : z < ((xs.length - k : Nat) : Int)) : CalmV P fl σ (.indexAddr T x y) (.raw (ptrAt w τ.size (k + z.toNat))) := by
  obtain ⟨j, rfl⟩ := Int.eq_ofNat_of_zero_le h0
  exact CalmV.ixF hx hy hm hT (by omega)
theorem splice_zero {rs : List Value} {xs : List τ.den} {k : Nat} {cs : List Value} {dx : τ.den} (he : Elems h S τ rs xs) (hk : k ≤ xs.length) (hx : RepC h S τ cs dx) : Elems h S τ (splice rs (k * τ.size) (List.replicate (xs.length - k) cs).flatten) (xs.take k ++ List.replicate (xs.length - k) dx) := by
  have hrl := he.1
  have hk2 : k * τ.size ≤ xs.length * τ.size := Nat.mul_le_mul_right _ hk
  have hel : Elems h S τ (rs.take (k * τ.size)) (xs.take k) := ⟨by rw [List.length_take, List.length_take, Nat.min_eq_left hk, Nat.min_eq_left (by omega)], fun i hi => by
    have hi1 : i < k := by rw [List.length_take] at hi; omega
    have h2 : (i + 1) * τ.size ≤ k * τ.size := Nat.mul_le_mul_right _ hi1
    rw [Nat.add_mul, Nat.one_mul] at h2
    rw [List.drop_take, List.take_take, Nat.min_eq_left (by omega), List.getElem_take]
    exact he.2 i (by omega)⟩
  have hrep := elems_rep hx (xs.length - k)
  have hlen := hrep.1
  rw [List.length_replicate] at hlen
  have hdrop : rs.drop (k * τ.size + (List.replicate (xs.length - k) cs).flatten.length) = [] := List.drop_eq_nil_of_le (by
    rw [hlen, hrl, ← Nat.add_mul]
    exact Nat.mul_le_mul_right _ (by omega))
  unfold splice
  rw [hdrop, List.append_nil]
  exact hel.append hrep
theorem MakeV.clearF {xs : List τ.den} {k : Nat} (hT : ElT P T e τ) (hZ : ZerT P e τ) (hk : k ≤ xs.length) (h0 : 0 < xs.length) (hx : evV fl x = some (.raw (rowFrom w τ.size k))) :
    MakeV P fl ((w, .row e τ xs) :: σ) (.call { callee := .builtin .clear, args := #[x], argTypes := #[T] }) fun v σ' => v = .raw undef ∧ σ' = (w, .row e τ (xs.take k ++ List.replicate (xs.length - k) (zeroD τ))) :: σ :=
  ⟨rfl, fun S0 h t L => by
    have h1 : evalO t x = rowFrom w τ.size k := evV_ok L.slots hx
    rcases L.cells _ List.mem_cons_self with ⟨_, rfl⟩ | ⟨b, rs, m, h3, h4, h5, h6⟩
    · simp at h0
    have hw : w = _ := h3
    have hbk : blk w = [b] := by rw [hw]; rfl
    obtain ⟨z, z1, z2, z3⟩ := hZ.zero
    obtain ⟨i, z', hi1, hi2, hi3, hi3', hi4, hi5, hi6⟩ := hT.sl.info
    obtain rfl : z' = z := by
      rw [hi1] at z1
      simpa [hi4] using z1
    have hpos := hT.sl.pos
    have hrl := h6.1
    rcases Nat.lt_or_eq_of_le hk with hk1 | hk1
    · refine ⟨undef, h.set b (.row e (splice rs (k * τ.size) (List.replicate (xs.length - k) z'.cells.toList).flatten) true m), .raw undef, _, ⟨rfl, rfl⟩, Made.head L (Aft.set h5 (by rw [hbk]; simp)) (fun b hb => .inl hb) (by rw [hbk]; simp) fun hN => ?_, rfl, fun _ _ _ _ _ => ?_⟩
      · refine .inr ⟨b, _, m, by rw [List.length_append, List.length_take, List.length_replicate, Nat.min_eq_left hk]; rw [show k + (xs.length - k) = xs.length by omega]; exact h3, ?_, by rw [Heap.get_set h5, if_pos rfl], ?_⟩
        · rw [own_cons]; exact List.mem_append_left _ (List.mem_append_left _ (by rw [hbk]; simp))
        · exact splice_zero (h6.nx hN) hk (by rw [z2]; exact (zero_rep _ _ τ).1)
      · show (fsClear P #[T] (evalO t x) h).map _ = _
        have e1 : Nat.beq (xs.length - k) 0 = false := beq_no (by omega)
        have hf : zeros z' (xs.length - k) = (List.replicate (xs.length - k) z'.cells.toList).flatten := zeros_flat (by omega) _
        have e2 : (zeros z' (xs.length - k)).all af0 = true := by
          rw [hf, List.all_eq_true]
          intro q hq
          obtain ⟨r, hr, hqr⟩ := List.mem_flatten.1 hq
          rw [(List.mem_replicate.1 hr).2] at hqr
          exact List.all_eq_true.1 hi6 q hqr
        have e3 : Nat.ble (0 + k * τ.size + (zeros z' (xs.length - k)).length) rs.length = true := by
          rw [Nat.ble_eq, zeros_len, hi5, hrl, Nat.zero_add, ← Nat.add_mul]
          exact Nat.mul_le_mul_right _ (by omega)
        rw [h1, hw, rest_eq hk1]
        simp only [fsClear, List.getElem?_toArray, List.getElem?_cons_zero, hT.sl.sl, e1, cond_false, hi1, h5, hi4, e2, e3, Bool.and_self, cond_true, Option.map_some]
        rw [hf, Nat.zero_add]; rfl
    · subst hk1
      refine ⟨undef, h, .raw undef, _, ⟨rfl, rfl⟩, ?_, rfl, fun _ _ _ _ _ => ?_⟩
      · rw [List.take_length, Nat.sub_self, List.replicate_zero, List.append_nil]
        exact Made.same L (Aft.refl _ _)
      · show (fsClear P #[T] (evalO t x) h).map _ = _
        have e0 : Nat.blt xs.length xs.length = false := by show Nat.ble (xs.length + 1) xs.length = false; exact Bool.eq_false_iff.2 fun hh => by rw [Nat.ble_eq] at hh; omega
        have e1 : Nat.beq xs.length 0 = false := beq_no (by omega)
        have e2 : Nat.beq 0 0 = true := rfl
        rw [h1, hw]
        simp only [rowFrom, cutAt, e0, e1, Bool.or_self, cond_false, fsClear, List.getElem?_toArray, List.getElem?_cons_zero, hT.sl.sl, e2, cond_true, Option.map_some]; rfl⟩
theorem VO.clear0 {xs : List τ.den} {k : Nat} (hT : ElT P T e τ) (hZ : ZerT P e τ) (hk : k ≤ xs.length) (h0 : 0 < xs.length) (hK : VO P orc ops n l fl ((w, .row e τ (xs.take k ++ List.replicate (xs.length - k) (zeroD τ))) :: σ) K) (hx : evV fl x = some (.raw (rowFrom w τ.size k)) := by rfl) (hw : wantV ops fl g = some true := by rfl) :
    VO P orc ops n (⟨none, .call { callee := .builtin .clear, args := #[x], argTypes := #[T] }, ty, pos, after, g⟩ :: l) fl ((w, .row e τ xs) :: σ) K :=
  VO.mk0 (MakeV.clearF hT hZ hk h0 hx) (by rintro _ _ ⟨rfl, rfl⟩; exact hK) hw
theorem VFG.enterC {γ : Sto} {f : FuncId} {args : List PV} {fn : Func} {c : Code} {r : PV} (hfn : P.funcs[f]? = some fn) (hc : fn.body = some c) (ho : ∀ us h, orc f us h = none) (hn : (Nat.blt 4000 fn.ntmps || Nat.blt fn.ntmps args.length) = false)
    (hb : VC P orc none c fn.ntmps (argVL 0 args) γ (VEnd P fn r)) : VFG P orc f args γ (fun r' g => r' = r ∧ g = []) := fun h S us hok hS hcells hnd hsep ha => by
  have hl := ha.len
  have hn2 : Nat.blt 4000 fn.ntmps = false ∧ Nat.blt fn.ntmps args.length = false := by simpa using hn
  have n3 := nble_no hn2.1
  have n4 := nble_no hn2.2
  have ha' : RepL (entry h) (own γ ++ S) args us := RepL.nx (h := h) (h' := entry h) (fun _ _ a b => ⟨a, b⟩) ha
  have I0 : Iv (entry h) (own γ) S (entry h) γ (fillTr .leaf 0 us) [] (argVL 0 args) := {
    ok := hok
    s0 := hS
    aft := Aft.refl _ _
    cells := fun c hc => (hcells c hc).keep (fun _ _ => rfl) (fun _ _ a b => ⟨a, b⟩) fun b hb => List.mem_append_left _ (List.mem_flatMap.2 ⟨c, hc, hb⟩)
    new := fun b hb => ⟨.inl hb, hsep b hb⟩
    apart := hnd
    mark := fun d hd => by cases hd
    marks := List.nodup_nil
    slots := slots_args ha' (by omega) }
  refine EvF.enter hfn hc (ho us h) (by rw [hl]; exact hn) ((hb (entry h) (own γ) S _ (entry h) [] I0).mono fun e fr h1 hq => ?_)
  obtain ⟨_, fl', σ', I, he, ps, hps, rfl⟩ := hq
  obtain ⟨h2, d1, d2, d3⟩ := drops_ok I.marks fun d hd => (I.mark d hd).2
  have hgd : ∀ b o, h1.get b = some o → o ≠ .defd → h2.get b = some o := fun b o hg hne => by
    rw [d3 b (fun hm => hne (by have := (I.mark b hm).2; rw [hg] at this; exact Option.some.inj this))]; exact hg
  have a2 : Aft (entry h) h2 (own γ) := I.aft.trans d2 fun i hi => .inr (I.mark i hi).1
  have hN : GoesR h1 S h2 S := fun b _ hg hne hbS => ⟨hgd b _ hg hne, hbS⟩
  obtain ⟨us', e1, e2⟩ := hps.ok I.lc hgd hN
  have hrep := tup_rep e2
  refine ⟨he, h2, us', d1, e1, ?_⟩
  unfold leftOf
  cases haf : (af (tupled us') && Nat.ble h.next h2.low) with
  | true => exact ⟨_, [], ⟨rfl, rfl⟩, ⟨Aft.refl _ _, fun b hb => (by cases hb), List.nodup_nil, fun c hc => (by cases hc)⟩, hrep.anyAf (band haf).1⟩
  | false =>
    refine ⟨_, [], ⟨rfl, rfl⟩, ⟨⟨a2.next, a2.get, fun x => a2.ok x, fun e h3 h4 h5 => Nat.le_min.2 ⟨h3, a2.low e (Nat.le_trans h4 (Nat.le_refl _)) h4 h5⟩, fun b hb => ?_, Nat.min_le_left _ _⟩, fun b hb => (by cases hb), List.nodup_nil, fun c hc => (by cases hc)⟩, RepPV.nx (h := h2) (h' := { next := h2.next, low := min h.low h2.low, objs := h2.objs }) (fun _ _ a b => ⟨a, b⟩) hrep⟩
    rcases a2.chg b hb with h3 | h3
    · exact .inl h3
    · exact .inr (Nat.le_trans (Nat.min_le_right _ _) h3)

theorem getDg {α : Type} (xs : List α) (d : α) {i : Nat} (h : i < xs.length) : xs.getD i d = xs[i] := by rw [List.getD_eq_getElem?_getD, List.getElem?_eq_getElem h]; rfl
/-! ## Each once of those that stand side by side -/
def cptA {α : Type} [DecidableEq α] (d : α) (xs : List α) : Nat → List α
  | 0 => []
  | i + 1 => if 0 < i ∧ xs.getD i d = xs.getD (i - 1) d then cptA d xs i else cptA d xs i ++ [xs.getD i d]
def cptR {α : Type} [DecidableEq α] (d : α) (xs : List α) (m : Nat) : List α := cptA d xs m ++ xs.drop (cptA d xs m).length
section
variable {α : Type} [DecidableEq α] {dd : α} {xs : List α}
theorem cptA_len : ∀ {i : Nat}, (cptA dd xs i).length ≤ i
  | 0 => Nat.le_refl _
  | i + 1 => by
    unfold cptA
    have := cptA_len (i := i)
    split
    · omega
    · rw [List.length_append, List.length_singleton]; omega
theorem cptA_all : ∀ {i : Nat}, i ≤ xs.length → (∀ j, 0 < j → j < i → xs.getD j dd ≠ xs.getD (j - 1) dd) → cptA dd xs i = xs.take i
  | 0, _, _ => by simp [cptA]
  | i + 1, hi, h => by
    unfold cptA
    rw [if_neg fun hh => h i hh.1 (Nat.lt_succ_self _) hh.2, cptA_all (by omega) fun j h1 h2 => h j h1 (by omega), List.take_succ_eq_append_getElem (by omega), getDg _ _ (by omega)]
theorem cptA_eq {i : Nat} (h0 : 0 < i) (h : xs.getD i dd = xs.getD (i - 1) dd) : cptA dd xs (i + 1) = cptA dd xs i := by rw [cptA, if_pos ⟨h0, h⟩]
theorem cptA_ne {i : Nat} (h : xs.getD i dd ≠ xs.getD (i - 1) dd) : cptA dd xs (i + 1) = cptA dd xs i ++ [xs.getD i dd] := by rw [cptA, if_neg fun hh => h hh.2]
theorem cptR_len {m : Nat} (hm : m ≤ xs.length) : (cptR dd xs m).length = xs.length := by
  have := cptA_len (dd := dd) (xs := xs) (i := m)
  rw [cptR, List.length_append, List.length_drop]; omega
theorem cptR_at {m i : Nat} (h : (cptA dd xs m).length ≤ i) : (cptR dd xs m).getD i dd = xs.getD i dd := by
  rw [cptR, List.getD_eq_getElem?_getD, List.getElem?_append_right h, List.getElem?_drop, List.getD_eq_getElem?_getD]
  congr 2; omega
theorem cptR_eq {i : Nat} (h0 : 0 < i) (h : xs.getD i dd = xs.getD (i - 1) dd) : cptR dd xs (i + 1) = cptR dd xs i := by rw [cptR, cptA_eq h0 h]; rfl
theorem cptR_ne {i : Nat} (hi : i < xs.length) (h : xs.getD i dd ≠ xs.getD (i - 1) dd) : cptR dd xs (i + 1) = (cptR dd xs i).set (cptA dd xs i).length (xs.getD i dd) := by
  have := cptA_len (dd := dd) (xs := xs) (i := i)
  unfold cptR
  rw [cptA_ne h, List.length_append, List.length_singleton, List.set_append_right _ _ (Nat.le_refl _), Nat.sub_self, List.drop_eq_getElem_cons (i := (cptA dd xs i).length) (by omega), List.set_cons_zero, List.append_assoc]
  rfl
theorem cptR_start {k : Nat} (hk : k ≤ xs.length) (hall : ∀ j, 0 < j → j < k → xs.getD j dd ≠ xs.getD (j - 1) dd) : cptR dd xs k = xs := by
  rw [cptR, cptA_all hk hall, List.length_take, Nat.min_eq_left hk, List.take_append_drop]
theorem cptR_take {m : Nat} : (cptR dd xs m).take (cptA dd xs m).length = cptA dd xs m := by rw [cptR, List.take_left]
end
end Go.Fs
namespace Go.Fs
variable {α : Type}

/-! ## The order -/
structure Weak (lt : α → α → Bool) : Prop where
  asym : ∀ a b, lt a b = true → lt b a = false
  neg : ∀ a b c, lt a b = false → lt b c = false → lt a c = false
variable {lt : α → α → Bool}
def eqv (lt : α → α → Bool) (a b : α) : Bool := !lt a b && !lt b a
def SameEq (lt : α → α → Bool) (xs ys : List α) : Prop := ∀ a, xs.filter (eqv lt a) = ys.filter (eqv lt a)
def Srt (lt : α → α → Bool) (xs : List α) : Prop := xs.Pairwise (fun x y => lt y x = false)
def insS (lt : α → α → Bool) (x : α) : List α → List α
  | [] => [x]
  | y :: ys => if lt y x then y :: insS lt x ys else x :: y :: ys
def sortS (lt : α → α → Bool) : List α → List α
  | [] => []
  | x :: xs => insS lt x (sortS lt xs)
/-! ## A part of a list, by indices -/
variable {d : α}
abbrev at_ (xs : List α) (i : Nat) (d : α) : α := xs.getD i d
def SrtI (lt : α → α → Bool) (d : α) (ys : List α) (a b : Nat) : Prop := ∀ p q, a ≤ p → p < q → q < b → lt (ys.getD q d) (ys.getD p d) = false
def srtSeg (lt : α → α → Bool) (xs : List α) (a b : Nat) : List α := xs.take a ++ (sortS lt ((xs.take b).drop a) ++ xs.drop b)
structure Seg (lt : α → α → Bool) (xs ys : List α) (a b : Nat) : Prop where
  len : ys.length = xs.length
  lo : ys.take a = xs.take a
  hi : ys.drop b = xs.drop b
  same : SameEq lt xs ys
theorem three (xs : List α) {a b : Nat} (h : a ≤ b) : xs = xs.take a ++ ((xs.take b).drop a ++ xs.drop b) := by
  conv => lhs; rw [← List.take_append_drop b xs]
  rw [← List.append_assoc]
  congr 1
  conv => lhs; rw [← List.take_append_drop a (xs.take b)]
  rw [List.take_take, Nat.min_eq_left h]
/-! ## Two elements change places -/
def swp (ys : List α) (i j : Nat) (d : α) : List α := (ys.set i (ys.getD j d)).set j (ys.getD i d)
/-! ## Sorting by insertion -/
structure Insd (lt : α → α → Bool) (d : α) (ys : List α) (a j i : Nat) : Prop where
  srt : ∀ p q, a ≤ p → p < q → q ≤ i → q ≠ j → p ≠ j → lt (ys.getD q d) (ys.getD p d) = false
  less : ∀ q, j < q → q ≤ i → lt (ys.getD j d) (ys.getD q d) = true
end Go.Fs
namespace Go.Fs
variable {α : Type} {lt : α → α → Bool} {d : α} {ys : List α} {a b m n s e i j k : Nat}

/-! ## Two parts of one length change places -/
def swR (ys : List α) (a b : Nat) (d : α) : Nat → List α
  | 0 => ys
  | n + 1 => swp (swR ys a b d n) (a + n) (b + n) d
/-! ## Two neighbouring parts change places -/
def rotE (ys : List α) (a m b : Nat) : List α := ys.take a ++ ((ys.drop m).take (b - m) ++ ((ys.drop a).take (m - a) ++ ys.drop b))
theorem four (h1 : s ≤ m) (h2 : m ≤ e) : ys = ys.take s ++ ((ys.drop s).take (m - s) ++ ((ys.drop m).take (e - m) ++ ys.drop e)) := by
  conv => lhs; rw [← List.take_append_drop s ys, ← List.take_append_drop (m - s) (ys.drop s), List.drop_drop, show s + (m - s) = m by omega, ← List.take_append_drop (e - m) (ys.drop m), List.drop_drop, show m + (e - m) = e by omega]
/-! ## Two sorted parts become one -/
structure Cut (lt : α → α → Bool) (d : α) (ys : List α) (a m b s e : Nat) : Prop where
  le : s ≤ m ∧ m ≤ e ∧ a ≤ s ∧ e ≤ b
  lo : a < s → e < b → lt (ys.getD e d) (ys.getD (s - 1) d) = false
  hi : s < m → m < e → lt (ys.getD (e - 1) d) (ys.getD s d) = true
/-! ## Blocks -/
def Blk (lt : α → α → Bool) (d : α) (ys : List α) (z n : Nat) : Prop := ∀ p q, p < q → q < n → p / z = q / z → lt (ys.getD q d) (ys.getD p d) = false
end Go.Fs
namespace Go.Fs
variable {P : Program} {orc : FuncId → List Value → Heap → Option (Value × Heap)} {h h' h0 h1 h2 : Heap} {S S' S0 B G : List Nat} {σ σ' σr : Sto} {t t' : Tr} {ms : List Nat} {fl : VL} {ops : Array Oper} {n i mem : Nat} {l : List Oper} {K : VL → Sto → Prop} {Q : Ex → VL → Sto → Prop}
  {d : Tmp} {ty : TypeId} {pos : String} {after : Array Edge} {op : Op} {v pv : PV} {g : Option (Nat × Bool)} {x y z : Operand} {T T' e : TypeId} {τ τ' : Ty} {w : Value}
/-! ## What the same cells tell -/
/-! ## Functions that turn a row in place -/
def VEndW (fn : Func) (w : Value) (e : TypeId) (τ : Ty) (zs : List τ.den) : Ex → VL → Sto → Prop := fun ex _ σ => ex.goes = true ∧ fn.results = #[] ∧ σ = [(w, .row e τ zs)]
end Go.Fs
namespace Go.Proofs
open Go.Fs Ieee
set_option linter.unusedVariables false

/-! ## Runs, each once -/
theorem cCompact_ok {w_xs : Value} {xs : List Int} (hn : xs.length < 1000000) : VFG Tryz.prog OA 139 [.raw w_xs] [(w_xs, .row 3 (.int .i64) xs)] (fun r' g => r' = (.v y22 (cptA 0 xs xs.length)) ∧ g = []) := by
  refine VFG.enterC Tryz.func139 rfl (fun _ _ => rfl) rfl ?_
  show VC _ _ _ _ _ [(0, .raw w_xs)] [(w_xs, .row 3 (.int .i64) xs)] _
  refine VC.seq ?_
  refine VC.text ?_
  refine VO.c (.assign rfl) ?_
  refine VO.go ?_
  refine VC.seq ?_
  refine VC.seq ?_
  refine VC.text ?_
  refine VO.c (.move rfl) ?_
  refine VO.r (.lenO m0 el22) ?_
  refine VO.c (.lss) ?_
  refine VO.go ?_
  refine VC.condD rfl (fun c1 => ?_) (fun c1 => ?_)
  · refine VC.seq ?_
    refine VC.text ?_
    refine VO.c (.move rfl) ?_
    refine VO.c (.assign rfl) ?_
    refine VO.go ?_
    refine VC.ret ?_
    exact VEnd.one rfl (evC (.row m0)) (pvE (by (have h1 : xs.length < 2 := by omega); rw [cptA_all (Nat.le_refl _) (fun j h2 h3 => by omega), List.take_length]))
  · refine VC.skip ?_
    show VC _ _ _ _ _ _ _ _
    refine VC.seq ?_
    refine VC.seq ?_
    refine VC.text ?_
    refine VO.c (.assign rfl) ?_
    refine VO.go ?_
    refine VC.block ?_
    refine VC.keep [(0, .raw w_xs), (3, I ((1 : Nat) : Int))] ⟨rfl, rfl, trivial⟩ ?_
    refine VC.loop (I := fun kk ff ss => ∃ (k : Nat), kk = xs.length - k ∧ ff = [(0, .raw w_xs), (3, I ((k : Nat) : Int))] ∧ ss = [(w_xs, .row 3 (.int .i64) xs)] ∧ (1 ≤ k ∧ k ≤ xs.length) ∧ (∀ j, 0 < j → j < k → xs.getD j 0 ≠ xs.getD (j - 1) 0)) ?_ _ _ _ ⟨1, rfl, rfl, rfl, (by omega), (by intro j h1 h2; omega)⟩
    rintro kk ff ss ⟨k, hk0, rfl, rfl, hk, hall⟩
    refine VC.seq ?_
    refine VC.seq ?_
    refine VC.text ?_
    refine VO.c (.move rfl) ?_
    refine VO.c (.move rfl) ?_
    refine VO.r (.lenO m0 el22) ?_
    refine VO.c (.lss) ?_
    refine VO.go ?_
    refine VC.condD rfl (fun c4 => ?_) (fun c4 => ?_)
    · have hk2 : k < xs.length := by omega
      refine VC.skip ?_
      show VC _ _ _ _ _ _ _ _
      refine VC.seq ?_
      refine VC.block ?_
      refine VC.seq ?_
      refine VC.drawn ?_
      refine VD.c (.move rfl) ?_
      refine VD.c (.move rfl) ?_
      refine VD.co (.ixO (j := k) rfl rfl m0 el22 (by omega)) ?_
      refine VD.r [(w_xs, .row 3 (.int .i64) xs)] (.ldO rfl m0 vt3 (by omega)) (.inr ⟨rfl, rfl⟩) ?_
      refine VD.c (.move rfl) ?_
      refine VD.c (.move rfl) ?_
      refine VD.nw [] ?_
      refine VD.c (.sub rfl rfl (by omega)) ?_
      refine VD.co (.ixO (j := k - 1) rfl (congrArg (fun z : Int => some (PV.v (.int .i64) z)) (show (((k : Nat) : Int) - (1 : Int)) = ((k - 1 : Nat) : Int) by omega)) m0 el22 (by omega)) ?_
      refine VD.r [(w_xs, .row 3 (.int .i64) xs)] (.ldO rfl m0 vt3 (by omega)) (.inr ⟨rfl, rfl⟩) ?_
      refine VD.c (.eql) ?_
      refine VD.go ?_
      refine VC.condD rfl (fun c6 => ?_) (fun c6 => ?_)
      · have c6' : xs.getD k 0 = xs.getD (k - 1) 0 := by rw [getDg _ _ hk2, getDg _ _ (by omega)]; exact c6
        have hs0 : cptR 0 xs (k + 1) = xs := by rw [cptR_eq (by omega) c6', cptR_start (by omega) hall]
        have hc0 : (cptA 0 xs (k + 1)).length = k := by rw [cptA_eq (by omega) c6', cptA_all (by omega) hall, List.length_take]; omega
        refine VC.seq ?_
        refine VC.text ?_
        refine VO.c (.move rfl) ?_
        refine VO.c (.move rfl) ?_
        refine VO.r (.restO (k := k) rfl rfl m0 el22 (by omega) (by omega)) ?_
        refine VO.c (.assign rfl) ?_
        refine VO.go ?_
        refine VC.seq ?_
        refine VC.seq ?_
        refine VC.text ?_
        refine VO.c (.assign rfl) ?_
        refine VO.go ?_
        refine VC.block ?_
        refine VC.keep [(0, .raw w_xs), (3, I (((cptA 0 xs (k + 1)).length : Nat) : Int)), (4, .raw (rowFrom w_xs 1 k)), (5, I ((1 : Nat) : Int))] ⟨rfl, slI rfl (by rw [hc0]), rfl, rfl, trivial⟩ ?_
        refine VC.loop (I := fun kk ff ss => ∃ (m : Nat), kk = xs.length - k - m ∧ ff = [(0, .raw w_xs), (3, I (((cptA 0 xs (k + m)).length : Nat) : Int)), (4, .raw (rowFrom w_xs 1 k)), (5, I ((m : Nat) : Int))] ∧ ss = [(w_xs, .row 3 (.int .i64) (cptR 0 xs (k + m)))] ∧ (1 ≤ m ∧ k + m ≤ xs.length) ∧ ((cptA 0 xs (k + m)).length + 1 ≤ k + m)) ?_ _ _ _ ⟨1, rfl, rfl, (by rw [hs0]), (by omega), (by rw [hc0]; omega)⟩
        rintro kk ff ss ⟨m, hk2, rfl, rfl, hm, hc⟩
        have hR : (cptR 0 xs (k + m)).length = xs.length := cptR_len hm.2
        refine VC.seq ?_
        refine VC.seq ?_
        refine VC.text ?_
        refine VO.c (.move rfl) ?_
        refine VO.c (.move rfl) ?_
        refine VO.r (.lenF (k := k) m0 el22 (by omega)) ?_
        refine VO.c (.lss) ?_
        refine VO.go ?_
        refine VC.condD rfl (fun c9 => ?_) (fun c9 => ?_)
        · have hm' : k + m < xs.length := by omega
          have he : (cptR 0 xs (k + m))[k + m]'(by omega) = xs.getD (k + m) 0 := by rw [← getDg _ 0 (by omega), cptR_at (by omega)]
          have he2 : (cptR 0 xs (k + m))[k + Int.toNat (((m : Nat) : Int) - (1 : Int))]'(by omega) = xs.getD (k + m - 1) 0 := by rw [← getDg _ 0 (by omega), cptR_at (by omega)]; congr 1; omega
          refine VC.skip ?_
          show VC _ _ _ _ _ _ _ _
          refine VC.seq ?_
          refine VC.block ?_
          refine VC.seq ?_
          refine VC.drawn ?_
          refine VD.c (.move rfl) ?_
          refine VD.c (.move rfl) ?_
          refine VD.co (.ixF (j := m) (k := k) rfl rfl m0 el22 (by omega)) ?_
          refine VD.r [(w_xs, .row 3 (.int .i64) (cptR 0 xs (k + m)))] (.ldO rfl m0 vt3 (by omega)) (.inr ⟨rfl, rfl⟩) ?_
          refine VD.c (.move rfl) ?_
          refine VD.c (.move rfl) ?_
          refine VD.nw [] ?_
          refine VD.c (.sub rfl rfl (by omega)) ?_
          refine VD.co (.ixFZ (z := (((m : Nat) : Int) - (1 : Int))) (k := k) rfl rfl m0 el22 (by omega) (by omega)) ?_
          refine VD.r [(w_xs, .row 3 (.int .i64) (cptR 0 xs (k + m)))] (.ldO rfl m0 vt3 (by omega)) (.inr ⟨rfl, rfl⟩) ?_
          refine VD.c (.neq) ?_
          refine VD.go ?_
          refine VC.condD rfl (fun c11 => ?_) (fun c11 => ?_)
          · have c11' : xs.getD (k + m) 0 ≠ xs.getD (k + m - 1) 0 := by rw [← he, ← he2]; exact c11
            refine VC.seq ?_
            refine VC.text ?_
            refine VO.c (.move rfl) ?_
            refine VO.c (.move rfl) ?_
            refine VO.c (.move rfl) ?_
            refine VO.c (.move rfl) ?_
            refine VO.c (.ixF (j := m) (k := k) rfl rfl m0 el22 (by omega)) ?_
            refine VO.r (.ldO rfl m0 vt3 (by omega)) ?_
            refine VO.c (.ixO (j := ((cptA 0 xs (k + m)).length)) rfl rfl m0 el22 (by omega)) ?_
            refine VO.setE ((cptA 0 xs (k + m)).length) rfl rfl vt3 (by omega) ?_
            refine VO.go ?_
            refine VC.text ?_
            refine VO.c (.move rfl) ?_
            refine VO.c (.add rfl rfl (by omega)) ?_
            refine VO.c (.assign rfl) ?_
            refine VO.nil ?_
            show VC _ _ _ _ _ _ _ _
            refine VC.text ?_
            refine VO.c (.move rfl) ?_
            refine VO.c (.add rfl rfl (by omega)) ?_
            refine VO.c (.assign rfl) ?_
            refine VO.nil ?_
            refine ⟨_, [(0, .raw w_xs), (3, I (((cptA 0 xs (k + (m + 1))).length : Nat) : Int)), (4, .raw (rowFrom w_xs 1 k)), (5, I (((m + 1) : Nat) : Int))], ?_, ⟨rfl, slI rfl (by first | (rw [← Nat.add_assoc, cptA_ne c11', List.length_append]; rfl) | rw [← Nat.add_assoc, cptA_eq (by omega) c11']), rfl, rfl, trivial⟩, (m + 1), rfl, rfl, (by first | (rw [← Nat.add_assoc, cptR_ne (by omega) c11', he]) | rw [← Nat.add_assoc, cptR_eq (by omega) c11']), (by omega), (by first | (rw [← Nat.add_assoc, cptA_ne c11', List.length_append, List.length_singleton]; omega) | (rw [← Nat.add_assoc, cptA_eq (by omega) c11']; omega))⟩
            omega
          · have c11' : xs.getD (k + m) 0 = xs.getD (k + m - 1) 0 := by rw [← he, ← he2]; simpa using c11
            refine VC.skip ?_
            show VC _ _ _ _ _ _ _ _
            refine VC.text ?_
            refine VO.c (.move rfl) ?_
            refine VO.c (.add rfl rfl (by omega)) ?_
            refine VO.c (.assign rfl) ?_
            refine VO.nil ?_
            refine ⟨_, [(0, .raw w_xs), (3, I (((cptA 0 xs (k + (m + 1))).length : Nat) : Int)), (4, .raw (rowFrom w_xs 1 k)), (5, I (((m + 1) : Nat) : Int))], ?_, ⟨rfl, slI rfl (by first | (rw [← Nat.add_assoc, cptA_ne c11', List.length_append]; rfl) | rw [← Nat.add_assoc, cptA_eq (by omega) c11']), rfl, rfl, trivial⟩, (m + 1), rfl, rfl, (by first | (rw [← Nat.add_assoc, cptR_ne (by omega) c11', he]) | rw [← Nat.add_assoc, cptR_eq (by omega) c11']), (by omega), (by first | (rw [← Nat.add_assoc, cptA_ne c11', List.length_append, List.length_singleton]; omega) | (rw [← Nat.add_assoc, cptA_eq (by omega) c11']; omega))⟩
            omega
        · refine VC.exit ?_
          show VC _ _ _ _ _ _ _ _
          refine VC.seq ?_
          refine VC.text ?_
          refine VO.c (.move rfl) ?_
          refine VO.c (.move rfl) ?_
          refine VO.r (.restO (k := ((cptA 0 xs (k + m)).length)) rfl rfl m0 el22 (by omega) (by omega)) ?_
          refine VO.clear0 (k := ((cptA 0 xs (k + m)).length)) el22 zt3 (by omega) (by omega) ?_
          refine VO.go ?_
          refine VC.seq ?_
          refine VC.text ?_
          refine VO.c (.move rfl) ?_
          refine VO.c (.move rfl) ?_
          refine VO.shut [(0, .v y22 ((cptR 0 xs (k + m)).take ((cptA 0 xs (k + m)).length) ++ List.replicate ((cptR 0 xs (k + m)).length - ((cptA 0 xs (k + m)).length)) 0)), (54, .v y22 ((cptR 0 xs (k + m)).take ((cptA 0 xs (k + m)).length) ++ List.replicate ((cptR 0 xs (k + m)).length - ((cptA 0 xs (k + m)).length)) 0)), (57, .v y22 ((cptR 0 xs (k + m)).take ((cptA 0 xs (k + m)).length) ++ List.replicate ((cptR 0 xs (k + m)).length - ((cptA 0 xs (k + m)).length)) 0))] (.cons rfl (.row m0) (.cons rfl (.row m0) (.cons rfl (.row m0) .nil))) ?_
          refine VO.r (.cutH rfl rfl el22 (by simp; omega)) ?_
          refine VO.c (.assign rfl) ?_
          refine VO.go ?_
          refine VC.ret ?_
          exact VEnd.one rfl evT (pvE (by rw [Int.toNat_natCast, show k + m = xs.length by omega, cptR_take, List.take_left]))
      · have c6' : xs.getD k 0 ≠ xs.getD (k - 1) 0 := by rw [getDg _ _ hk2, getDg _ _ (by omega)]; exact c6
        refine VC.skip ?_
        show VC _ _ _ _ _ _ _ _
        refine VC.text ?_
        refine VO.c (.move rfl) ?_
        refine VO.c (.add rfl rfl (by omega)) ?_
        refine VO.c (.assign rfl) ?_
        refine VO.nil ?_
        refine ⟨_, [(0, .raw w_xs), (3, I (((k + 1) : Nat) : Int))], ?_, ⟨rfl, rfl, trivial⟩, (k + 1), rfl, rfl, rfl, (by omega), (by intro j h1 h2; rcases Nat.lt_succ_iff_lt_or_eq.1 h2 with h | h; exact hall j h1 h; subst h; exact c6')⟩
        omega
    · refine VC.exit ?_
      show VC _ _ _ _ _ _ _ _
      refine VC.seq ?_
      refine VC.text ?_
      refine VO.c (.move rfl) ?_
      refine VO.c (.assign rfl) ?_
      refine VO.go ?_
      refine VC.ret ?_
      exact VEnd.one rfl (evC (.row m0)) (pvE (by rw [cptA_all (Nat.le_refl _) (fun j h1 h2 => hall j h1 (by omega)), List.take_length]))
theorem sMapPI_ok {F : Int × ByteArray × Int × Int × List Nat → Int} {l : List (Int × ByteArray × Int × Int × (List Nat))} {f : PV} (hl : l.length < 100000) (hf : ∀ x ∈ l, VCall Tryz.prog OA f [.v y160 x] (I (F x))) : VFG Tryz.prog OA 140 [.v y108 l, f] [] (fun r g => ∃ w, r = .raw w ∧ g = [(w, .row 3 (.int .i64) (l.map F))]) := by
  refine VFG.enter Tryz.func140 rfl (fun _ _ => rfl) rfl ?_
  show VC _ _ _ _ _ [(0, .v y108 l), (1, f)] [] _
  refine VC.seq ?_
  refine VC.text ?_
  refine VO.c (.assign rfl) ?_
  refine VO.go ?_
  refine VC.seq ?_
  refine VC.text ?_
  refine VO.c (.assign rfl) ?_
  refine VO.go ?_
  refine VC.seq ?_
  refine VC.seq ?_
  refine VC.text ?_
  refine VO.c (.move rfl) ?_
  refine VO.r (.len el108) ?_
  refine VO.c (.move rfl) ?_
  refine VO.go ?_
  refine VC.block ?_
  refine VC.cell0 3 (.int .i64) ?_
  refine VC.keep [(1, f), (5, .raw (.slice none 0 0)), (8, .v y108 l), (9, I ((l.length : Nat) : Int)), (10, I ((0 : Nat) : Int))] ⟨rfl, rfl, rfl, rfl, rfl, trivial⟩ ?_
  refine VC.loop (I := fun kk ff ss => ∃ (j : Nat) (out : Value), kk = l.length - j ∧ ff = [(1, f), (5, .raw out), (8, .v y108 l), (9, I ((l.length : Nat) : Int)), (10, I ((j : Nat) : Int))] ∧ ss = [(out, .row 3 (.int .i64) ((l.take j).map F))] ∧ (j ≤ l.length)) ?_ _ _ _ ⟨0, (.slice none 0 0), rfl, rfl, rfl, Nat.zero_le _⟩
  rintro kk ff ss ⟨j, out, hk0, rfl, rfl, hj⟩
  refine VC.seq ?_
  refine VC.text ?_
  refine VO.c (.lss) ?_
  refine VO.go ?_
  refine VC.seq ?_
  refine VC.condD rfl (fun c3 => ?_) (fun c3 => ?_)
  · refine VC.skip ?_
    show VC _ _ _ _ _ _ _ _
    refine VC.seq ?_
    refine VC.block ?_
    refine VC.seq ?_
    refine VC.text ?_
    refine VO.c (.ix (j := j) rfl rfl el108 (by omega)) ?_
    refine VO.r (.ld vt160) ?_
    refine VO.cell (.alloc zt160) ?_
    intro ww1
    refine VO.setV (cs' := [I ((l[j]).1), St ((l[j]).2.1), I ((l[j]).2.2.1), I ((l[j]).2.2.2.1), .v y124 ((l[j]).2.2.2.2)]) vt160 .v ?_
    refine VO.shut [(7, .p y160 (l[j]))] (.cons rfl (.var m0 .refl) .nil) ?_
    refine VO.go ?_
    refine VC.text ?_
    refine VO.c (.move rfl) ?_
    refine VO.c (.move rfl) ?_
    refine VO.r (.ld vt160) ?_
    refine VO.call rfl rfl ((hf _ (List.getElem_mem _)) ) ?_
    refine VO.new (.lit [F (l[j])] el22) ?_
    refine VO.app rfl rfl el22 el22 (by simp; omega) ?_
    intro ww2
    refine VO.c (.assign rfl) ?_
    refine VO.nil ?_
    show VC _ _ _ _ _ _ _ _
    refine VC.text ?_
    refine VO.c (.add rfl rfl (by omega)) ?_
    refine VO.c (.move rfl) ?_
    refine VO.nil ?_
    refine ⟨_, [(1, f), (5, .raw ww2), (8, .v y108 l), (9, I ((l.length : Nat) : Int)), (10, I (((j + 1) : Nat) : Int))], ?_, ⟨rfl, rfl, rfl, rfl, rfl, trivial⟩, (j + 1), ww2, rfl, rfl, (by rw [List.take_succ_eq_append_getElem (by omega), List.map_append] <;> rfl), (by omega)⟩
    omega
  · refine VC.exit ?_
    show VC _ _ _ _ _ _ _ _
    refine VC.seq ?_
    refine VC.text ?_
    refine VO.c (.move rfl) ?_
    refine VO.c (.assign rfl) ?_
    refine VO.go ?_
    refine VC.ret ?_
    exact VEndG.row rfl evT ⟨out, rfl, (by rw [List.take_of_length_le (by omega)])⟩
theorem sRuns1_ok {p : Int × ByteArray × Int × Int × (List Nat)} : VF Tryz.prog OA 141 [.v y160 p] (I p.1) := by
  refine VF.enter Tryz.func141 rfl (fun _ _ => rfl) rfl ?_
  show VC _ _ _ _ _ [(0, .v y160 p)] [] _
  refine VC.seq ?_
  refine VC.text ?_
  refine VO.new (.box) ?_
  refine VO.c (.assign rfl) ?_
  refine VO.go ?_
  refine VC.seq ?_
  refine VC.text ?_
  refine VO.c (.fa (.l .o)) ?_
  refine VO.r (.ld vt3) ?_
  refine VO.c (.assign rfl) ?_
  refine VO.go ?_
  refine VC.ret ?_
  exact VEnd.one rfl evT (pvI (by first | rfl | simp))
def rnL (l : List Pc) : List Int := l.map (·.1)
def runsE (l : List Pc) : List Int := cptA 0 (rnL l) (rnL l).length
def runsV (d : Dom) (l : List Pc) : List Int × Int := if storeE d l ≠ 0 then ([], storeE d l) else (runsE l, 0)
theorem sRuns_ok {d : Int × Int × Int × (List (ByteArray × Int))} {l : List (Int × ByteArray × Int × Int × (List Nat))} (hl : l.length < 100000) (hr : ∀ r ∈ l, r.2.2.2.2.length < 100000) : VF Tryz.prog OA 72 [.v y106 d, .v y108 l] (.tup [.v y22 ((runsV d l).1), I ((runsV d l).2)]) := by
  refine VF.enter Tryz.func72 rfl (fun _ _ => rfl) rfl ?_
  show VC _ _ _ _ _ [(0, .v y106 d), (1, .v y108 l)] [] _
  refine VC.seq ?_
  refine VC.text ?_
  refine VO.new (.box) ?_
  refine VO.c (.assign rfl) ?_
  refine VO.c (.assign rfl) ?_
  refine VO.go ?_
  refine VC.seq ?_
  refine VC.seq ?_
  refine VC.text ?_
  refine VO.r (.ld vt106) ?_
  refine VO.c (.move rfl) ?_
  refine VO.call rfl rfl (VF.call (sStore_ok hl hr)) ?_
  refine VO.c (.assign rfl) ?_
  refine VO.go ?_
  refine VC.seq ?_
  refine VC.text ?_
  refine VO.c (.move rfl) ?_
  refine VO.c (.neq) ?_
  refine VO.go ?_
  refine VC.condD rfl (fun c2 => ?_) (fun c2 => ?_)
  · refine VC.seq ?_
    refine VC.text ?_
    refine VO.c (.move rfl) ?_
    refine VO.c (.assign rfl) ?_
    refine VO.c (.assign rfl) ?_
    refine VO.go ?_
    refine VC.ret ?_
    exact VEnd.two rfl (evC .nil) evT (pvE (by rw [runsV, if_pos c2])) (pvI (by rw [runsV, if_pos c2]))
  · refine VC.skip ?_
    show VC _ _ _ _ _ _ _ _
    refine VC.seq ?_
    refine VC.text ?_
    refine VO.c (.move rfl) ?_
    refine VO.callG [] rfl rfl rfl (VFG.call (sMapPI_ok (F := fun p => p.1) hl (fun _ _ => VF.call sRuns1_ok))) ?_
    rintro _ _ ⟨ww3, rfl, rfl⟩
    show VO _ _ _ _ _ _ [(ww3, .row 3 (.int .i64) (l.map (fun p => p.1)))] _
    refine VO.callG [(ww3, .row 3 (.int .i64) (l.map (fun p => p.1)))] rfl rfl rfl (VFG.call (cCompact_ok (by simp; omega))) ?_
    rintro _ _ ⟨rfl, rfl⟩
    show VO _ _ _ _ _ _ [] _
    refine VO.c (.assign rfl) ?_
    refine VO.c (.assign rfl) ?_
    refine VO.go ?_
    refine VC.ret ?_
    exact VEnd.two rfl evT evT (pvE (by rw [runsV, if_neg c2]; rfl)) (pvI (by rw [runsV, if_neg c2]))
end Go.Proofs
namespace Go.Proofs
open Go.Fs Ieee
set_option linter.unusedVariables false
theorem vt108 : ValT Tryz.prog 108 y108 := valT_of (by kernel_rfl)
theorem zt26 : ZerT Tryz.prog 26 (.int .i64) := zerT_of (z := .int .i64 0) (by kernel_rfl) rfl rfl
/-! ## The latest run -/
def fndL (p : Int → Bool) : List (Int × Int) → Int × Int
  | [] => (0, 7)
  | x :: r => if p x.2 then (x.2, 0) else fndL p r
def bwL (xs : List Int) : Nat → List (Int × Int)
  | 0 => []
  | i + 1 => ((i : Int), xs.getD i 0) :: bwL xs i
def bstE (p : Int → Bool) (xs : List Int) : Nat → Int
  | 0 => -1
  | i + 1 => if p (xs.getD i 0) = true then max (bstE p xs i) (xs.getD i 0) else bstE p xs i
def dedE (xs : List Int) : Nat → List Int
  | 0 => []
  | i + 1 => if xs.getD i 0 ∈ dedE xs i then dedE xs i else dedE xs i ++ [xs.getD i 0]
theorem dedE_succ {xs : List Int} {i : Nat} : dedE xs (i + 1) = if xs.getD i 0 ∈ dedE xs i then dedE xs i else dedE xs i ++ [xs.getD i 0] := rfl
theorem ded_mem {xs : List Int} {x : Int} : ∀ {i : Nat}, x ∈ dedE xs i ↔ ∃ j, j < i ∧ xs.getD j 0 = x
  | 0 => by simp [dedE]
  | i + 1 => by
    have ih := ded_mem (xs := xs) (x := x) (i := i)
    have key : x ∈ dedE xs (i + 1) ↔ x ∈ dedE xs i ∨ xs.getD i 0 = x := by
      rw [dedE_succ]
      by_cases h : xs.getD i 0 ∈ dedE xs i
      · rw [if_pos h]; exact ⟨.inl, fun hh => hh.elim id fun e => e ▸ h⟩
      · rw [if_neg h, List.mem_append, List.mem_singleton]; exact or_congr Iff.rfl eq_comm
    rw [key, ih]
    constructor
    · rintro (⟨j, h1, h2⟩ | h)
      · exact ⟨j, by omega, h2⟩
      · exact ⟨i, by omega, h⟩
    · rintro ⟨j, h1, h2⟩
      rcases Nat.lt_succ_iff_lt_or_eq.1 h1 with h | h
      · exact .inl ⟨j, h, h2⟩
      · subst h; exact .inr h2
theorem asc_le {xs : List Int} (hs : ∀ i, i + 1 < xs.length → xs.getD i 0 ≤ xs.getD (i + 1) 0) {j : Nat} : ∀ {i : Nat}, j ≤ i → i < xs.length → xs.getD j 0 ≤ xs.getD i 0
  | 0, h, _ => by rw [show j = 0 by omega]; exact Int.le_refl _
  | i + 1, h, hi => by
    rcases Nat.lt_or_eq_of_le h with h1 | h1
    · exact Int.le_trans (asc_le hs (by omega) (by omega)) (hs i hi)
    · rw [h1]; exact Int.le_refl _
theorem cpt_ded {xs : List Int} (hs : ∀ i, i + 1 < xs.length → xs.getD i 0 ≤ xs.getD (i + 1) 0) : ∀ {i : Nat}, i ≤ xs.length → cptA 0 xs i = dedE xs i
  | 0, _ => rfl
  | i + 1, hi => by
    have e : (0 < i ∧ xs.getD i 0 = xs.getD (i - 1) 0) ↔ xs.getD i 0 ∈ dedE xs i := by
      rw [ded_mem]
      constructor
      · rintro ⟨h0, h⟩; exact ⟨i - 1, by omega, h.symm⟩
      · rintro ⟨j, h1, h2⟩
        have h3 := asc_le hs (show j ≤ i - 1 by omega) (by omega)
        have h4 := asc_le hs (show i - 1 ≤ i by omega) (by omega)
        exact ⟨by omega, by omega⟩
    unfold cptA dedE
    rw [cpt_ded hs (by omega)]
    by_cases h : xs.getD i 0 ∈ dedE xs i
    · rw [if_pos (e.2 h), if_pos h]
    · rw [if_neg (fun hh => h (e.1 hh)), if_neg h]
theorem cpt_sub {xs : List Int} : ∀ {i : Nat}, i ≤ xs.length → (cptA 0 xs i).Sublist (xs.take i)
  | 0, _ => by simp [cptA]
  | i + 1, hi => by
    have ih := cpt_sub (xs := xs) (i := i) (by omega)
    rw [List.take_succ_eq_append_getElem (by omega)]
    unfold cptA
    split
    · exact ih.trans (List.sublist_append_left _ _)
    · rw [getDg _ _ (by omega)]; exact ih.append (List.Sublist.refl _)
theorem asc_pair {xs : List Int} (hs : ∀ i, i + 1 < xs.length → xs.getD i 0 ≤ xs.getD (i + 1) 0) : xs.Pairwise (· ≤ ·) := List.pairwise_iff_getElem.2 fun i j hi hj h => by
  have := asc_le hs (Nat.le_of_lt h) hj
  rwa [getDg _ _ hi, getDg _ _ hj] at this
theorem bst_fnd {p : Int → Bool} {xs : List Int} (hs : xs.Pairwise (· ≤ ·)) (h0 : ∀ x ∈ xs, 0 ≤ x) : ∀ {i : Nat}, i ≤ xs.length → (bstE p xs i = -1 ∧ fndL p (bwL xs i) = (0, 7)) ∨ (0 ≤ bstE p xs i ∧ fndL p (bwL xs i) = (bstE p xs i, 0) ∧ ∃ j, j < i ∧ bstE p xs i = xs.getD j 0)
  | 0, _ => .inl ⟨rfl, rfl⟩
  | i + 1, hi => by
    have ih := bst_fnd (p := p) hs h0 (i := i) (by omega)
    have hx0 : 0 ≤ xs.getD i 0 := by rw [getDg _ _ hi]; exact h0 _ (List.getElem_mem _)
    unfold bstE bwL fndL
    by_cases h : p (xs.getD i 0) = true
    · have hm : max (bstE p xs i) (xs.getD i 0) = xs.getD i 0 := by
        rcases ih with ⟨e, _⟩ | ⟨_, _, j, h1, h2⟩
        · rw [e]; omega
        · have h3 := List.pairwise_iff_getElem.1 hs j i (by omega) hi h1
          rw [← getDg _ 0 (by omega), ← getDg _ 0 hi] at h3
          omega
      simp only [if_pos h, hm]
      exact .inr ⟨hx0, by trivial, i, by omega, by trivial⟩
    · simp only [if_neg h]
      rcases ih with h1 | ⟨h1, h2, j, h3, h4⟩
      · exact .inl h1
      · exact .inr ⟨h1, h2, j, by omega, h4⟩
theorem rn_asc {d : Dom} {l : List Pc} (hz : ∀ k, k < l.length → pieceE d l k = 0) : ∀ i, i + 1 < (rnL l).length → (rnL l).getD i 0 ≤ (rnL l).getD (i + 1) 0 := fun i hi => by
  have hl : (rnL l).length = l.length := by simp [rnL]
  have h1 := step_lt (hz (i + 1) (by omega))
  have e : ∀ k, k < l.length → (rnL l).getD k 0 = (pcA l k).1 := fun k hk => by rw [getDg _ _ (by omega), ← pcA_eq hk]; simp [rnL]
  rw [e i (by omega), e (i + 1) (by omega)]
  unfold cmpP at h1
  have e3 : 0 ≤ firstE [] := by decide
  simp only [firstE_cmp, e3, and_true] at h1
  unfold plE at h1
  simp only at h1
  omega
def latP (d : Dom) (l : List Pc) (now r : Int) : Bool := decide (missL d l r = []) && decide (r ≤ now)
def latE (d : Dom) (l : List Pc) (now : Int) : Int × Int := fndL (latP d l now) (bwL (runsE l) (runsE l).length)
def latV (d : Dom) (l : List Pc) (now : Int) : Int × Int := if fieldA d l now ≠ 0 then (0, fieldA d l now) else latE d l now
def latR (d : Dom) (l : List Pc) (now : Int) : Int := bstE (latP d l now) (runsE l) (runsE l).length
theorem lat_same {d : Dom} {l : List Pc} {now : Int} (hs : storeE d l = 0) : latE d l now = if latR d l now < 0 then (0, 7) else (latR d l now, 0) := by
  obtain ⟨_, _, hz⟩ := store_dom hs
  have h1 := asc_pair (rn_asc hz)
  have h2 : (runsE l).Pairwise (· ≤ ·) := by
    have := cpt_sub (xs := rnL l) (Nat.le_refl _)
    rw [List.take_length] at this
    exact h1.sublist this
  have h3 : ∀ x ∈ runsE l, 0 ≤ x := fun x hx => by
    have h4 := (cpt_sub (xs := rnL l) (Nat.le_refl _)).subset hx
    rw [List.take_length] at h4
    obtain ⟨p, hp, rfl⟩ := List.mem_map.1 h4
    obtain ⟨i, hi, rfl⟩ := List.getElem_of_mem hp
    have h5 := (pc_lv (piece_zero (hz i hi))).1
    rw [pcA_eq hi]
    unfold pcPre at h5
    rw [firstE_zero] at h5
    exact (rangeE_zero.1 (h5 _ List.mem_cons_self)).1
  unfold latE latR
  rcases bst_fnd (p := latP d l now) h2 h3 (Nat.le_refl _) with ⟨e1, e2⟩ | ⟨e1, e2, _⟩
  · rw [e1, e2] <;> rfl
  · rw [e2, if_neg (by omega)]
theorem runs_ded {d : Dom} {l : List Pc} (hs : storeE d l = 0) : runsE l = dedE (rnL l) (rnL l).length := cpt_ded (rn_asc (store_dom hs).2.2) (Nat.le_refl _)
theorem bw_cons {xs : List Int} {k : Nat} (h : 0 < k) (hk : k ≤ xs.length) {i : Int} (hi : i = (k : Int) - 1) (h' : i.toNat < xs.length) : (i, xs[i.toNat]) :: bwL xs (k - 1) = bwL xs k := by
  obtain ⟨q, rfl⟩ : ∃ q, k = q + 1 := ⟨k - 1, by omega⟩
  subst hi
  rw [bwL, getDg _ _ (show q < xs.length by omega)]
  simp
theorem fndL_skip {p : Int → Bool} {x : Int × Int} {r : List (Int × Int)} (h : p x.2 = false) : fndL p (x :: r) = fndL p r := by rw [fndL, h] <;> rfl
theorem fndL_hit {p : Int → Bool} {x : Int × Int} {r : List (Int × Int)} (h : p x.2 = true) : fndL p (x :: r) = (x.2, 0) := by rw [fndL, h] <;> rfl
theorem ded_len {xs : List Int} : ∀ {i : Nat}, (dedE xs i).length ≤ i
  | 0 => Nat.le_refl _
  | i + 1 => by
    unfold dedE
    have := ded_len (xs := xs) (i := i)
    split
    · omega
    · rw [List.length_append, List.length_singleton]; omega
theorem runsV_2 {d : Dom} {l : List Pc} : (runsV d l).2 = storeE d l := by
  unfold runsV
  split
  · rfl
  · rename_i h; exact (by simpa using h : storeE d l = 0).symm
theorem runsV_1 {d : Dom} {l : List Pc} (h : storeE d l = 0) : (runsV d l).1 = runsE l := by rw [runsV, if_neg (by simpa using h)]
def missV (d : Dom) (l : List Pc) (n : Int) : Int × Sl × Int := if fieldA d l n ≠ 0 then (0, z3, fieldA d l n) else (((missL d l n).length : Nat), (missL d l n).headD z3, 0)
theorem cBack1_ok {xs : List Int} (hn : xs.length < 1000000) : IterC Tryz.prog OA 175 [] [.p y22 xs] (fun x : Int × Int => [I x.1, I x.2]) (bwL xs xs.length) := by
  refine IterC.enter Tryz.func175 rfl rfl (fun _ => rfl) fun yv II EE γ hy hI => ?_
  show VC _ _ _ _ _ [(0, .raw yv), (1, .p y22 xs)] γ _
  refine VC.seq ?_
  refine VC.text ?_
  refine VO.r (.ld vt22) ?_
  refine VO.r (.len el22) ?_
  refine VO.c (.sub rfl rfl (by omega)) ?_
  refine VO.c (.assign rfl) ?_
  refine VO.go ?_
  refine VC.block ?_
  refine VC.keep [(0, .raw yv), (1, .p y22 xs), (3, I (((xs.length : Nat) : Int) - 1))] ⟨rfl, rfl, rfl, trivial⟩ ?_
  refine VC.loop (I := fun kk ff ss => ∃ (k : Nat), kk = k ∧ ff = [(0, .raw yv), (1, .p y22 xs), (3, I (((k : Nat) : Int) - 1))] ∧ (k ≤ xs.length) ∧ II (bwL xs k) ss) ?_ _ _ _ ⟨xs.length, rfl, rfl, (by omega), (by exact hI)⟩
  rintro kk ff ss ⟨k, hk0, rfl, hk, hI⟩
  refine VC.seq ?_
  refine VC.seq ?_
  refine VC.text ?_
  refine VO.c (.move rfl) ?_
  refine VO.c (.geq) ?_
  refine VO.go ?_
  refine VC.condD rfl (fun c1 => ?_) (fun c1 => ?_)
  · have hk0 : 0 < k := by omega
    refine VC.skip ?_
    show VC _ _ _ _ _ _ _ _
    refine VC.seq ?_
    refine VC.block ?_
    refine VC.seq ?_
    refine VC.text ?_
    refine VO.c (.move rfl) ?_
    refine VO.c (.move rfl) ?_
    refine VO.r (.ld vt22) ?_
    refine VO.c (.move rfl) ?_
    refine VO.c (.ixZ (k := (((k : Nat) : Int) - 1)) rfl rfl el22 (by omega) (by omega)) ?_
    refine VO.r (.ld vt3) ?_
    refine VO.callY0 rfl rfl (hy ((((k : Nat) : Int) - 1), xs[Int.toNat (((k : Nat) : Int) - 1)]) (bwL xs (k - 1)) _ (by rw [bw_cons hk0 hk rfl]; exact hI)) ?_
    rintro _ ss (⟨rfl, hI⟩ | ⟨rfl, hE⟩)
    · refine VO.c (.not) ?_
      refine VO.go ?_
      refine VC.condF rfl ?_
      refine VC.skip ?_
      show VC _ _ _ _ _ _ _ _
      refine VC.text ?_
      refine VO.c (.move rfl) ?_
      refine VO.c (.sub rfl rfl (by omega)) ?_
      refine VO.c (.assign rfl) ?_
      refine VO.nil ?_
      refine ⟨_, [(0, .raw yv), (1, .p y22 xs), (3, I ((((k - 1) : Nat) : Int) - 1))], ?_, ⟨rfl, rfl, slI rfl (by omega), trivial⟩, (k - 1), rfl, rfl, (by omega), (by exact hI)⟩
      omega
    · refine VO.c (.not) ?_
      refine VO.go ?_
      refine VC.condT rfl ?_
      refine VC.ret ?_
      exact ⟨rfl, .inr hE⟩
  · refine VC.exit ?_
    exact ⟨rfl, .inl (by rw [show k = 0 by omega] at hI; exact hI)⟩
theorem cBack_ok {xs : List Int} : VF Tryz.prog OA 143 [.v y22 xs] (.clo 175 [] [.p y22 xs]) := by
  refine VF.enter Tryz.func143 rfl (fun _ _ => rfl) rfl ?_
  show VC _ _ _ _ _ [(0, .v y22 xs)] [] _
  refine VC.seq ?_
  refine VC.text ?_
  refine VO.new (.box) ?_
  refine VO.c (.assign rfl) ?_
  refine VO.go ?_
  refine VC.seq ?_
  refine VC.text ?_
  refine VO.c (.func) ?_
  refine VO.c (.assign rfl) ?_
  refine VO.go ?_
  refine VC.ret ?_
  exact VEnd.one rfl evT rfl
theorem sMissing_ok {d : Int × Int × Int × (List (ByteArray × Int))} {l : List (Int × ByteArray × Int × Int × (List Nat))} {n : Int} (hl : l.length < 100000) (hr : ∀ r ∈ l, r.2.2.2.2.length < 100000) : VF Tryz.prog OA 73 [.v y106 d, .v y108 l, I n] (.tup [I ((missV d l n).1), .v y141 ((missV d l n).2.1), I ((missV d l n).2.2)]) := by
  refine VF.enter Tryz.func73 rfl (fun _ _ => rfl) rfl ?_
  show VC _ _ _ _ _ [(0, .v y106 d), (1, .v y108 l), (2, I n)] [] _
  refine VC.seq ?_
  refine VC.text ?_
  refine VO.new (.box) ?_
  refine VO.c (.assign rfl) ?_
  refine VO.cell (.alloc zt141) ?_
  intro ww1
  refine VO.c (.assign rfl) ?_
  refine VO.go ?_
  refine VC.seq ?_
  refine VC.seq ?_
  refine VC.text ?_
  refine VO.r (.ld vt106) ?_
  refine VO.c (.move rfl) ?_
  refine VO.call rfl rfl (VF.call (sStore_ok hl hr)) ?_
  refine VO.c (.move rfl) ?_
  refine VO.call rfl rfl (VF.call (sTime_ok )) ?_
  refine VO.new (.lit [storeE d l, rangeE n 0 100000] el179) ?_
  refine VO.call rfl rfl (VF.call (sFirst_ok (by first | assumption | omega | simp))) ?_
  refine VO.c (.assign rfl) ?_
  refine VO.go ?_
  refine VC.seq ?_
  refine VC.text ?_
  refine VO.c (.move rfl) ?_
  refine VO.c (.neq) ?_
  refine VO.go ?_
  refine VC.condD rfl (fun c2 => ?_) (fun c2 => ?_)
  · have hf : fieldA d l n ≠ 0 := c2
    refine VC.seq ?_
    refine VC.text ?_
    refine VO.c (.build (ByteArray.empty, 0, 0) bt141) ?_
    refine VO.c (.move rfl) ?_
    refine VO.c (.assign rfl) ?_
    refine VO.setV (cs' := [St ByteArray.empty, I 0, I 0]) vt141 .v ?_
    refine VO.c (.assign rfl) ?_
    refine VO.go ?_
    refine VC.ret ?_
    exact VEnd.three rfl evT (.cell (x := (ByteArray.empty, 0, 0)) rfl m0 vt141 .refl) evT (pvI (by rw [missV, if_pos hf])) (pvE (by rw [missV, if_pos hf]; rfl)) (pvI (by rw [missV, if_pos hf] <;> rfl))
  · have hf : fieldA d l n = 0 := by simpa [fieldA] using c2
    refine VC.skip ?_
    show VC _ _ _ _ _ _ _ _
    refine VC.seq ?_
    refine VC.text ?_
    refine VO.r (.ld vt106) ?_
    refine VO.c (.move rfl) ?_
    refine VO.c (.move rfl) ?_
    refine VO.call rfl rfl (VF.call (sMiss_ok (fieldA_ok hf).1 hl)) ?_
    refine VO.c (.move rfl) ?_
    refine VO.c (.extract) ?_
    refine VO.c (.extract) ?_
    refine VO.cell (.alloc zt141) ?_
    intro ww2
    refine VO.c (.assign rfl) ?_
    refine VO.setV (cs' := [St (((missL d l n).headD z3).1), I (((missL d l n).headD z3).2.1), I (((missL d l n).headD z3).2.2)]) vt141 .v ?_
    refine VO.shut [(11, .p y141 ((missL d l n).headD z3))] (.cons rfl (.var m0 .refl) .nil) ?_
    refine VO.go ?_
    refine VC.seq ?_
    refine VC.drawn ?_
    refine VD.c (.move rfl) ?_
    refine VD.r [] (.ld vt141) (.inl rfl) ?_
    refine VD.c (.assign rfl) ?_
    refine VD.mk0 (MakeV.setF (k := 0) vt141 .v (by decide) (.inr ⟨rfl, rfl⟩) rfl rfl) ?_
    rintro _ _ tl3 ⟨rfl, rfl⟩
    refine VD.c (.assign rfl) ?_
    refine VD.go ?_
    refine VC.ret ?_
    exact VEnd.three rfl evT (.cell (x := (missL d l n).headD z3) rfl m0 vt141 .refl) evT (pvI (by rw [missV, if_neg (by simpa using hf)])) (pvE (by rw [missV, if_neg (by simpa using hf)])) (pvI (by rw [missV, if_neg (by simpa using hf)]))
theorem sLatest_ok {d : Int × Int × Int × (List (ByteArray × Int))} {l : List (Int × ByteArray × Int × Int × (List Nat))} {now : Int} (hl : l.length < 100000) (hr : ∀ r ∈ l, r.2.2.2.2.length < 100000) : VF Tryz.prog OA 74 [.v y106 d, .v y108 l, I now] (.tup [I ((latV d l now).1), I ((latV d l now).2)]) := by
  refine VF.enter Tryz.func74 rfl (fun _ _ => rfl) rfl ?_
  show VC _ _ _ _ _ [(0, .v y106 d), (1, .v y108 l), (2, I now)] [] _
  refine VC.seq ?_
  refine VC.text ?_
  refine VO.new (.box) ?_
  refine VO.new (.box) ?_
  refine VO.new (.box) ?_
  refine VO.cell (.alloc zt3) ?_
  intro ww4
  refine VO.cell (.alloc zt26) ?_
  intro ww5
  refine VO.go ?_
  refine VC.seq ?_
  refine VC.text ?_
  refine VO.r (.ld vt106) ?_
  refine VO.r (.ld vt108) ?_
  refine VO.call rfl rfl (VF.call (sRuns_ok hl hr)) ?_
  refine VO.c (.move rfl) ?_
  refine VO.c (.extract) ?_
  refine VO.c (.extract) ?_
  refine VO.c (.assign rfl) ?_
  refine VO.c (.assign rfl) ?_
  refine VO.go ?_
  refine VC.seq ?_
  refine VC.seq ?_
  refine VC.text ?_
  refine VO.c (.move rfl) ?_
  refine VO.r (.ld vt3) ?_
  refine VO.call rfl rfl (VF.call (sTime_ok )) ?_
  refine VO.new (.lit [(runsV d l).2, rangeE now 0 100000] el179) ?_
  refine VO.call rfl rfl (VF.call (sFirst_ok (by first | assumption | omega | simp))) ?_
  refine VO.c (.assign rfl) ?_
  refine VO.go ?_
  refine VC.seq ?_
  refine VC.text ?_
  refine VO.c (.move rfl) ?_
  refine VO.c (.neq) ?_
  refine VO.go ?_
  refine VC.condD rfl (fun c3 => ?_) (fun c3 => ?_)
  · have hf : fieldA d l now ≠ 0 := by rw [fieldA, ← runsV_2]; exact c3
    refine VC.seq ?_
    refine VC.text ?_
    refine VO.c (.move rfl) ?_
    refine VO.perm swap1 ?_
    refine VO.setV (cs' := [I (0 : Int)]) vt3 .v ?_
    refine VO.perm swap1 ?_
    refine VO.setV (cs' := [I (firstE [(runsV d l).2, rangeE now 0 100000])]) vt26 .v ?_
    refine VO.go ?_
    refine VC.ret ?_
    exact VEnd.two rfl (.cell (x := (0 : Int)) rfl m1 vt3 .refl) (.cell (x := firstE [(runsV d l).2, rangeE now 0 100000]) rfl m0 vt26 .refl) (pvI (by rw [latV, if_pos hf])) (pvI (by rw [latV, if_pos hf]; rw [fieldA, runsV_2]))
  · have hf : fieldA d l now = 0 := by rw [fieldA, ← runsV_2]; simpa using c3
    have hst := (fieldA_ok hf).1
    have hru := runsV_1 hst
    have hrl : (runsE l).length < 100000 := Nat.lt_of_le_of_lt cptA_len (by rw [rnL, List.length_map]; exact hl)
    have hle : latE d l now = fndL (latP d l now) (bwL (runsV d l).1 (runsV d l).1.length) := by rw [hru] <;> rfl
    refine VC.skip ?_
    show VC _ _ _ _ _ _ _ _
    refine VC.seq ?_
    refine VC.seq ?_
    refine VC.text ?_
    refine VO.c (.move rfl) ?_
    refine VO.call rfl rfl (VF.call (cBack_ok )) ?_
    refine VO.go ?_
    refine VC.block ?_
    refine VC.keep [(3, .p y106 d), (4, .p y108 l), (5, .p (.int .i64) now), (6, .raw ww4), (7, .raw ww5), (30, .clo 175 [] [.p y22 ((runsV d l).1)])] ⟨rfl, rfl, rfl, rfl, rfl, rfl, trivial⟩ ?_
    refine VC.rangeFunc rfl (cBack1_ok (by rw [hru]; omega)) (fun _ => rfl) rfl rfl (fun rest ss => ss = [(ww5, .var [I (0 : Int)]), (ww4, .var [I (0 : Int)])] ∧ (latE d l now = fndL (latP d l now) rest)) (fun ee ss => (ee = .ret ∧ ∃ (y : Int × Int), ss = [(ww5, .var [I (0 : Int)]), (ww4, .var [I y.2])] ∧ (latE d l now = (y.2, 0)))) ⟨rfl, (by exact hle)⟩ ?_ ?_ ?_
    · rintro jj x rest _ ⟨rfl, hq⟩
      show VC _ _ _ _ _ [(32, I x.2), (31, I x.1), (3, .p y106 d), (4, .p y108 l), (5, .p (.int .i64) now), (6, .raw ww4), (7, .raw ww5), (30, .clo 175 [] [.p y22 ((runsV d l).1)])] [(ww5, .var [I (0 : Int)]), (ww4, .var [I (0 : Int)])] _
      refine VC.text ?_
      refine VO.c (.assign rfl) ?_
      refine VO.nil ?_
      refine ⟨rfl, ?_⟩
      refine VC.block ?_
      refine VC.seq ?_
      refine VC.seq ?_
      refine VC.text ?_
      refine VO.c (.move rfl) ?_
      refine VO.r (.ld vt3) ?_
      refine VO.c (.gtr) ?_
      refine VO.go ?_
      refine VC.condD rfl (fun c7 => ?_) (fun c7 => ?_)
      · have hlx : latP d l now x.2 = false := by rw [latP, decide_eq_false (show ¬ x.2 ≤ now by omega), Bool.and_false]
        refine VC.exit ?_
        exact .inl ⟨rfl, rfl, (by rw [hq, fndL_skip hlx])⟩
      · refine VC.skip ?_
        show VC _ _ _ _ _ _ _ _
        refine VC.seq ?_
        refine VC.text ?_
        refine VO.r (.ld vt106) ?_
        refine VO.r (.ld vt108) ?_
        refine VO.c (.move rfl) ?_
        refine VO.call rfl rfl (VF.call (sMiss_ok hst hl)) ?_
        refine VO.c (.move rfl) ?_
        refine VO.c (.extract) ?_
        refine VO.c (.extract) ?_
        refine VO.cell (.alloc zt141) ?_
        intro ww6
        refine VO.c (.assign rfl) ?_
        refine VO.setV (cs' := [St (((missL d l x.2).headD z3).1), I (((missL d l x.2).headD z3).2.1), I (((missL d l x.2).headD z3).2.2)]) vt141 .v ?_
        refine VO.shut [(14, .p y141 ((missL d l x.2).headD z3))] (.cons rfl (.var m0 .refl) .nil) ?_
        refine VO.go ?_
        refine VC.seq ?_
        refine VC.keep [(6, .raw ww4), (7, .raw ww5), (12, I x.2), (13, I ((missL d l x.2).length : Nat))] ⟨rfl, rfl, rfl, rfl, trivial⟩ ?_
        refine VC.text ?_
        refine VO.c (.move rfl) ?_
        refine VO.c (.eql) ?_
        refine VO.go ?_
        refine VC.condD rfl (fun c9 => ?_) (fun c9 => ?_)
        · have hlx : latP d l now x.2 = true := by rw [latP, decide_eq_true (show x.2 ≤ now by omega), decide_eq_true (List.eq_nil_of_length_eq_zero (by omega))] <;> rfl
          refine VC.seq ?_
          refine VC.text ?_
          refine VO.c (.move rfl) ?_
          refine VO.perm swap1 ?_
          refine VO.setV (cs' := [I x.2]) vt3 .v ?_
          refine VO.perm swap1 ?_
          refine VO.setV (cs' := [I (0 : Int)]) vt26 .v ?_
          refine VO.go ?_
          refine VC.ret ?_
          exact .inr ⟨(by intro h; cases h), ⟨rfl, x, rfl, (by rw [hq, fndL_hit hlx])⟩⟩
        · have hlx : latP d l now x.2 = false := by rw [latP, decide_eq_false (fun e => c9 (by rw [e]; rfl)), Bool.false_and]
          refine VC.skip ?_
          exact .inl ⟨rfl, rfl, (by rw [hq, fndL_skip hlx])⟩
    · rintro _ ⟨rfl, hq⟩
      show VC _ _ _ _ _ _ _ _
      refine VC.seq ?_
      refine VC.text ?_
      refine VO.perm swap1 ?_
      refine VO.setV (cs' := [I (0 : Int)]) vt3 .v ?_
      refine VO.perm swap1 ?_
      refine VO.setV (cs' := [I (7 : Int)]) vt26 .v ?_
      refine VO.go ?_
      refine VC.ret ?_
      exact VEnd.two rfl (.cell (x := (0 : Int)) rfl m1 vt3 .refl) (.cell (x := (7 : Int)) rfl m0 vt26 .refl) (pvI (by rw [latV, if_neg (by simpa using hf), hq]; rfl)) (pvI (by rw [latV, if_neg (by simpa using hf), hq] <;> rfl))
    · rintro _ _ _ (⟨rfl, y, rfl, he⟩)
      · exact VEnd.two rfl (.cell (x := y.2) rfl m1 vt3 .refl) (.cell (x := (0 : Int)) rfl m0 vt26 .refl) (pvI (by rw [latV, if_neg (by simpa using hf), he])) (pvI (by rw [latV, if_neg (by simpa using hf), he]))
theorem rHasInt_ok {l : List Int} {n : Int} (hl : l.length < 1000000) : VF Tryz.prog OA 144 [.v y22 l, I n] (B (decide (n ∈ l))) := by
  refine VF.enter Tryz.func144 rfl (fun _ _ => rfl) rfl ?_
  show VC _ _ _ _ _ [(0, .v y22 l), (1, I n)] [] _
  refine VC.seq ?_
  refine VC.text ?_
  refine VO.c (.assign rfl) ?_
  refine VO.go ?_
  refine VC.seq ?_
  refine VC.seq ?_
  refine VC.text ?_
  refine VO.c (.assign rfl) ?_
  refine VO.go ?_
  refine VC.block ?_
  refine VC.keep [(0, .v y22 l), (1, I n), (5, I ((0 : Nat) : Int))] ⟨rfl, rfl, rfl, trivial⟩ ?_
  refine VC.loop (I := fun kk ff ss => ∃ (i : Nat), kk = l.length - i ∧ ff = [(0, .v y22 l), (1, I n), (5, I ((i : Nat) : Int))] ∧ ss = [] ∧ (i ≤ l.length) ∧ (∀ j, j < i → l.getD j 0 ≠ n)) ?_ _ _ _ ⟨0, rfl, rfl, rfl, Nat.zero_le _, (by intro j hj; omega)⟩
  rintro kk ff ss ⟨i, hk0, rfl, rfl, hi, hn⟩
  refine VC.seq ?_
  refine VC.seq ?_
  refine VC.text ?_
  refine VO.c (.move rfl) ?_
  refine VO.c (.move rfl) ?_
  refine VO.r (.len el22) ?_
  refine VO.c (.lss) ?_
  refine VO.go ?_
  refine VC.condD rfl (fun c2 => ?_) (fun c2 => ?_)
  · have hi' : i < l.length := by omega
    refine VC.skip ?_
    show VC _ _ _ _ _ _ _ _
    refine VC.seq ?_
    refine VC.block ?_
    refine VC.seq ?_
    refine VC.text ?_
    refine VO.c (.move rfl) ?_
    refine VO.c (.move rfl) ?_
    refine VO.c (.ix (j := i) rfl rfl el22 (by omega)) ?_
    refine VO.r (.ld vt3) ?_
    refine VO.c (.move rfl) ?_
    refine VO.c (.eql) ?_
    refine VO.go ?_
    refine VC.condD rfl (fun c4 => ?_) (fun c4 => ?_)
    · refine VC.seq ?_
      refine VC.text ?_
      refine VO.c (.assign rfl) ?_
      refine VO.go ?_
      refine VC.ret ?_
      exact VEnd.one rfl evT (pvE (by exact (decide_eq_true (c4 ▸ List.getElem_mem _)).symm))
    · refine VC.skip ?_
      show VC _ _ _ _ _ _ _ _
      refine VC.text ?_
      refine VO.c (.move rfl) ?_
      refine VO.c (.add rfl rfl (by omega)) ?_
      refine VO.c (.assign rfl) ?_
      refine VO.nil ?_
      refine ⟨_, [(0, .v y22 l), (1, I n), (5, I (((i + 1) : Nat) : Int))], ?_, ⟨rfl, rfl, rfl, trivial⟩, (i + 1), rfl, rfl, rfl, (by omega), (by intro j hj; rcases Nat.lt_succ_iff_lt_or_eq.1 hj with h | h; exact hn j h; subst h; rw [getDg _ _ hi']; exact c4)⟩
      omega
  · refine VC.exit ?_
    show VC _ _ _ _ _ _ _ _
    refine VC.seq ?_
    refine VC.text ?_
    refine VO.c (.assign rfl) ?_
    refine VO.go ?_
    refine VC.ret ?_
    exact VEnd.one rfl evT (pvE (by exact (decide_eq_false fun hm => by obtain ⟨j, hj, e⟩ := List.getElem_of_mem hm; exact hn j (by omega) (by rw [getDg _ _ hj]; exact e)).symm))
theorem rRuns_ok {l : List (Int × ByteArray × Int × Int × (List Nat))} (hl : l.length < 100000) : VF Tryz.prog OA 75 [.v y96 l] (.v y22 (dedE (rnL l) (rnL l).length)) := by
  refine VF.enter Tryz.func75 rfl (fun _ _ => rfl) rfl ?_
  show VC _ _ _ _ _ [(0, .v y96 l)] [] _
  refine VC.seq ?_
  refine VC.text ?_
  refine VO.c (.assign rfl) ?_
  refine VO.go ?_
  refine VC.seq ?_
  refine VC.text ?_
  refine VO.c (.assign rfl) ?_
  refine VO.go ?_
  refine VC.seq ?_
  refine VC.seq ?_
  refine VC.text ?_
  refine VO.c (.assign rfl) ?_
  refine VO.go ?_
  refine VC.block ?_
  refine VC.cell0 3 (.int .i64) ?_
  refine VC.keep [(0, .v y96 l), (3, .raw (.slice none 0 0)), (4, I ((0 : Nat) : Int))] ⟨rfl, rfl, rfl, trivial⟩ ?_
  refine VC.loop (I := fun kk ff ss => ∃ (i : Nat) (out : Value), kk = l.length - i ∧ ff = [(0, .v y96 l), (3, .raw out), (4, I ((i : Nat) : Int))] ∧ ss = [(out, .row 3 (.int .i64) (dedE (rnL l) i))] ∧ (i ≤ l.length)) ?_ _ _ _ ⟨0, (.slice none 0 0), rfl, rfl, rfl, Nat.zero_le _⟩
  rintro kk ff ss ⟨i, out, hk0, rfl, rfl, hi⟩
  refine VC.seq ?_
  refine VC.seq ?_
  refine VC.text ?_
  refine VO.c (.move rfl) ?_
  refine VO.c (.move rfl) ?_
  refine VO.r (.len el96) ?_
  refine VO.c (.lss) ?_
  refine VO.go ?_
  refine VC.condD rfl (fun c3 => ?_) (fun c3 => ?_)
  · have hi' : i < l.length := by omega
    have hg : (rnL l).getD i 0 = l[i].1 := by rw [getDg _ _ (by rw [rnL, List.length_map]; exact hi')]; simp [rnL]
    have hdl := ded_len (xs := rnL l) (i := i)
    refine VC.skip ?_
    show VC _ _ _ _ _ _ _ _
    refine VC.seq ?_
    refine VC.block ?_
    refine VC.seq ?_
    refine VC.text ?_
    refine VO.c (.move rfl) ?_
    refine VO.c (.move rfl) ?_
    refine VO.c (.move rfl) ?_
    refine VO.c (.ix (j := i) rfl rfl el96 (by omega)) ?_
    refine VO.c (.fa (.l .o)) ?_
    refine VO.r (.ld vt3) ?_
    refine VO.callC rfl rfl .same (.cons (.row m0) (.cons .same .nil)) rfl (VF.call (rHasInt_ok (by omega))) ?_
    refine VO.c (.not) ?_
    refine VO.go ?_
    refine VC.condB rfl (fun c5 => ?_) (fun c5 => ?_)
    · try simp only [Bool.and_eq_true, Bool.or_eq_true, Bool.and_eq_false_iff, Bool.or_eq_false_iff, Bool.not_eq_true', Bool.not_eq_false', decide_eq_true_eq, decide_eq_false_iff_not] at c5
      refine VC.text ?_
      refine VO.c (.move rfl) ?_
      refine VO.c (.move rfl) ?_
      refine VO.c (.move rfl) ?_
      refine VO.c (.ix (j := i) rfl rfl el96 (by omega)) ?_
      refine VO.c (.fa (.l .o)) ?_
      refine VO.r (.ld vt3) ?_
      refine VO.new (.lit [(l[i]).1] el22) ?_
      refine VO.app rfl rfl el22 el22 (by simp; omega) ?_
      intro ww7
      refine VO.c (.assign rfl) ?_
      refine VO.nil ?_
      show VC _ _ _ _ _ _ _ _
      refine VC.text ?_
      refine VO.c (.move rfl) ?_
      refine VO.c (.add rfl rfl (by omega)) ?_
      refine VO.c (.assign rfl) ?_
      refine VO.nil ?_
      refine ⟨_, [(0, .v y96 l), (3, .raw ww7), (4, I (((i + 1) : Nat) : Int))], ?_, ⟨rfl, rfl, rfl, trivial⟩, (i + 1), ww7, rfl, rfl, (by rw [dedE, hg]; first | rw [if_neg (by simpa using c5)] | rw [if_pos (by simpa using c5)]), (by omega)⟩
      omega
    · try simp only [Bool.and_eq_true, Bool.or_eq_true, Bool.and_eq_false_iff, Bool.or_eq_false_iff, Bool.not_eq_true', Bool.not_eq_false', decide_eq_true_eq, decide_eq_false_iff_not] at c5
      refine VC.skip ?_
      show VC _ _ _ _ _ _ _ _
      refine VC.text ?_
      refine VO.c (.move rfl) ?_
      refine VO.c (.add rfl rfl (by omega)) ?_
      refine VO.c (.assign rfl) ?_
      refine VO.nil ?_
      refine ⟨_, [(0, .v y96 l), (3, .raw out), (4, I (((i + 1) : Nat) : Int))], ?_, ⟨rfl, rfl, rfl, trivial⟩, (i + 1), out, rfl, rfl, (by rw [dedE, hg]; first | rw [if_neg (by simpa using c5)] | rw [if_pos (by simpa using c5)]), (by omega)⟩
      omega
  · refine VC.exit ?_
    show VC _ _ _ _ _ _ _ _
    refine VC.seq ?_
    refine VC.text ?_
    refine VO.c (.move rfl) ?_
    refine VO.c (.assign rfl) ?_
    refine VO.go ?_
    refine VC.ret ?_
    exact VEnd.one rfl (evC (.row m0)) (pvE (by rw [show (rnL l).length = i by rw [rnL, List.length_map]; omega]))
theorem rLatest_ok {d : Int × Int × Int × (List (ByteArray × Int))} {l : List (Int × ByteArray × Int × Int × (List Nat))} {now : Int} (hs : storeE d l = 0) (hl : l.length < 100000) : VF Tryz.prog OA 77 [.v y95 d, .v y96 l, I now] (I (latR d l now)) := by
  refine VF.enter Tryz.func77 rfl (fun _ _ => rfl) rfl ?_
  show VC _ _ _ _ _ [(0, .v y95 d), (1, .v y96 l), (2, I now)] [] _
  refine VC.seq ?_
  refine VC.text ?_
  have hrd := runs_ded hs
  refine VO.new (.box) ?_
  refine VO.c (.assign rfl) ?_
  refine VO.go ?_
  refine VC.seq ?_
  refine VC.text ?_
  refine VO.c (.assign rfl) ?_
  refine VO.go ?_
  refine VC.seq ?_
  refine VC.text ?_
  refine VO.c (.move rfl) ?_
  refine VO.call rfl rfl (VF.call (rRuns_ok hl)) ?_
  refine VO.c (.assign rfl) ?_
  refine VO.go ?_
  refine VC.seq ?_
  refine VC.seq ?_
  refine VC.text ?_
  have hdl : (dedE (rnL l) (rnL l).length).length < 100000 := Nat.lt_of_le_of_lt ded_len (by rw [rnL, List.length_map]; exact hl)
  refine VO.c (.assign rfl) ?_
  refine VO.go ?_
  refine VC.block ?_
  refine VC.keep [(1, .v y96 l), (2, I now), (3, .p y95 d), (7, I (bstE (latP d l now) (dedE (rnL l) (rnL l).length) 0)), (8, .v y22 (dedE (rnL l) (rnL l).length)), (9, I ((0 : Nat) : Int))] ⟨rfl, rfl, rfl, rfl, rfl, rfl, trivial⟩ ?_
  refine VC.loop (I := fun kk ff ss => ∃ (i : Nat), kk = (dedE (rnL l) (rnL l).length).length - i ∧ ff = [(1, .v y96 l), (2, I now), (3, .p y95 d), (7, I (bstE (latP d l now) (dedE (rnL l) (rnL l).length) i)), (8, .v y22 (dedE (rnL l) (rnL l).length)), (9, I ((i : Nat) : Int))] ∧ ss = [] ∧ (i ≤ (dedE (rnL l) (rnL l).length).length)) ?_ _ _ _ ⟨0, rfl, rfl, rfl, (by omega)⟩
  rintro kk ff ss ⟨i, hk0, rfl, rfl, hi⟩
  refine VC.seq ?_
  refine VC.seq ?_
  refine VC.text ?_
  refine VO.c (.move rfl) ?_
  refine VO.c (.move rfl) ?_
  refine VO.r (.len el22) ?_
  refine VO.c (.lss) ?_
  refine VO.go ?_
  refine VC.condD rfl (fun c4 => ?_) (fun c4 => ?_)
  · have hi' : i < (dedE (rnL l) (rnL l).length).length := by omega
    refine VC.skip ?_
    show VC _ _ _ _ _ _ _ _
    refine VC.seq ?_
    refine VC.block ?_
    refine VC.seq ?_
    refine VC.drawn ?_
    refine VD.r [] (.ld vt95) (.inl rfl) ?_
    refine VD.c (.move rfl) ?_
    refine VD.c (.move rfl) ?_
    refine VD.c (.move rfl) ?_
    refine VD.c (.ix (j := i) rfl rfl el22 (by omega)) ?_
    refine VD.r [] (.ld vt3) (.inl rfl) ?_
    refine VD.nw [] ?_
    refine VD.call rfl rfl (VF.call (rMiss_ok (store_dom hs).1 hl)) ?_
    refine VD.c (.move rfl) ?_
    refine VD.c (.extract) ?_
    refine VD.c (.extract) ?_
    refine VD.cell (.alloc zt145) ?_
    intro ww8
    refine VD.c (.assign rfl) ?_
    refine VD.mk0 (MakeV.setF (k := 0) vt145 .v (by decide) (.inr ⟨rfl, rfl⟩) rfl rfl) ?_
    rintro _ _ tl9 ⟨rfl, rfl⟩
    refine VD.go ?_
    refine VC.seq ?_
    refine VC.shutL [(ww8, .var [St (((missL d l ((dedE (rnL l) (rnL l).length)[i])).headD z3).1), I (((missL d l ((dedE (rnL l) (rnL l).length)[i])).headD z3).2.1), I (((missL d l ((dedE (rnL l) (rnL l).length)[i])).headD z3).2.2)])] [(11, .p y145 ((missL d l ((dedE (rnL l) (rnL l).length)[i])).headD z3))] rfl (.cons rfl (.var m0 .refl) .nil) ?_
    refine VC.text ?_
    refine VO.c (.move rfl) ?_
    refine VO.c (.eql) ?_
    refine VO.c (.move rfl) ?_
    refine VO.cg (r := decide (((missL d l ((dedE (rnL l) (rnL l).length)[i])).length : Nat) = (0 : Int))) (w := true) [] trivial (fun hgd => have g7_2 : ((missL d l ((dedE (rnL l) (rnL l).length)[i])).length : Nat) = (0 : Int) := (by simpa using hgd); (.move rfl)) ?_
    refine VO.cg (r := decide (((missL d l ((dedE (rnL l) (rnL l).length)[i])).length : Nat) = (0 : Int))) (w := true) [] trivial (fun hgd => have g7_2 : ((missL d l ((dedE (rnL l) (rnL l).length)[i])).length : Nat) = (0 : Int) := (by simpa using hgd); (.move rfl)) ?_
    refine VO.cg (r := decide (((missL d l ((dedE (rnL l) (rnL l).length)[i])).length : Nat) = (0 : Int))) (w := true) [(33, .v y22 (dedE (rnL l) (rnL l).length)), (34, I ((i : Nat) : Int))] ⟨rfl, rfl, trivial⟩ (fun hgd => have g7_2 : ((missL d l ((dedE (rnL l) (rnL l).length)[i])).length : Nat) = (0 : Int) := (by simpa using hgd); (.ixD rfl rfl 0 el22 (by omega))) ?_
    refine VO.rg (r := decide (((missL d l ((dedE (rnL l) (rnL l).length)[i])).length : Nat) = (0 : Int))) (w := true) [(35, .p (.int .i64) ((dedE (rnL l) (rnL l).length).getD i 0))] ⟨rfl, trivial⟩ (fun hgd => have g7_2 : ((missL d l ((dedE (rnL l) (rnL l).length)[i])).length : Nat) = (0 : Int) := (by simpa using hgd); (.ld vt3)) ?_
    refine VO.cg (r := decide (((missL d l ((dedE (rnL l) (rnL l).length)[i])).length : Nat) = (0 : Int))) (w := true) [] trivial (fun hgd => have g7_2 : ((missL d l ((dedE (rnL l) (rnL l).length)[i])).length : Nat) = (0 : Int) := (by simpa using hgd); (.move rfl)) ?_
    refine VO.cg (r := decide (((missL d l ((dedE (rnL l) (rnL l).length)[i])).length : Nat) = (0 : Int))) (w := true) [(36, I ((dedE (rnL l) (rnL l).length).getD i 0)), (37, I now)] ⟨rfl, rfl, trivial⟩ (fun hgd => have g7_2 : ((missL d l ((dedE (rnL l) (rnL l).length)[i])).length : Nat) = (0 : Int) := (by simpa using hgd); (.leq)) ?_
    refine VO.c (.and) ?_
    refine VO.go ?_
    refine VC.condB rfl (fun c7 => ?_) (fun c7 => ?_)
    · try simp only [Bool.and_eq_true, Bool.or_eq_true, Bool.and_eq_false_iff, Bool.or_eq_false_iff, Bool.not_eq_true', Bool.not_eq_false', decide_eq_true_eq, decide_eq_false_iff_not] at c7
      have hlx : latP d l now (dedE (rnL l) (rnL l).length)[i] = true := by unfold latP; simp only [Bool.and_eq_true, decide_eq_true_eq] at c7 ⊢; exact ⟨List.eq_nil_of_length_eq_zero (by omega), by simpa [hi'] using c7.2⟩
      refine VC.text ?_
      refine VO.c (.move rfl) ?_
      refine VO.c (.move rfl) ?_
      refine VO.c (.move rfl) ?_
      refine VO.c (.ix (j := i) rfl rfl el22 (by omega)) ?_
      refine VO.r (.ld vt3) ?_
      refine VO.r (.max) ?_
      refine VO.c (.assign rfl) ?_
      refine VO.nil ?_
      show VC _ _ _ _ _ _ _ _
      refine VC.text ?_
      refine VO.c (.move rfl) ?_
      refine VO.c (.add rfl rfl (by omega)) ?_
      refine VO.c (.assign rfl) ?_
      refine VO.nil ?_
      refine ⟨_, [(1, .v y96 l), (2, I now), (3, .p y95 d), (7, I (bstE (latP d l now) (dedE (rnL l) (rnL l).length) (i + 1))), (8, .v y22 (dedE (rnL l) (rnL l).length)), (9, I (((i + 1) : Nat) : Int))], ?_, ⟨rfl, rfl, rfl, slI rfl (by first | rw [bstE, getDg _ _ hi', if_pos hlx] | rw [bstE, getDg _ _ hi', if_neg (by rw [hlx]; exact Bool.false_ne_true)]), rfl, rfl, trivial⟩, (i + 1), rfl, rfl, rfl, (by omega)⟩
      omega
    · try simp only [Bool.and_eq_true, Bool.or_eq_true, Bool.and_eq_false_iff, Bool.or_eq_false_iff, Bool.not_eq_true', Bool.not_eq_false', decide_eq_true_eq, decide_eq_false_iff_not] at c7
      have hlx : latP d l now (dedE (rnL l) (rnL l).length)[i] = false := by unfold latP; rw [Bool.eq_false_iff]; intro hh; simp only [Bool.and_eq_true, decide_eq_true_eq] at hh; simp [hi', hh.1, hh.2] at c7
      refine VC.skip ?_
      show VC _ _ _ _ _ _ _ _
      refine VC.text ?_
      refine VO.c (.move rfl) ?_
      refine VO.c (.add rfl rfl (by omega)) ?_
      refine VO.c (.assign rfl) ?_
      refine VO.nil ?_
      refine ⟨_, [(1, .v y96 l), (2, I now), (3, .p y95 d), (7, I (bstE (latP d l now) (dedE (rnL l) (rnL l).length) (i + 1))), (8, .v y22 (dedE (rnL l) (rnL l).length)), (9, I (((i + 1) : Nat) : Int))], ?_, ⟨rfl, rfl, rfl, slI rfl (by first | rw [bstE, getDg _ _ hi', if_pos hlx] | rw [bstE, getDg _ _ hi', if_neg (by rw [hlx]; exact Bool.false_ne_true)]), rfl, rfl, trivial⟩, (i + 1), rfl, rfl, rfl, (by omega)⟩
      omega
  · refine VC.exit ?_
    show VC _ _ _ _ _ _ _ _
    refine VC.seq ?_
    refine VC.text ?_
    refine VO.c (.move rfl) ?_
    refine VO.c (.assign rfl) ?_
    refine VO.go ?_
    refine VC.ret ?_
    exact VEnd.one rfl evT (pvI (by rw [latR, hrd, show i = (dedE (rnL l) (rnL l).length).length by omega]))
def latF (d : Dom) (l : List Pc) (now : Int) : Int := if latR d l now < 0 then 0 else latR d l now
def latG (d : Dom) (l : List Pc) (now : Int) : Int := if latR d l now < 0 then 7 else 0
theorem finR1 {d : Dom} {l : List Pc} : listE (runsV d l).1 (runsV d l).2 (storeE d l) (if storeE d l = 0 then dedE (rnL l) (rnL l).length else []) = true := by
  by_cases h : storeE d l = 0
  · rw [if_pos h, runsV, if_neg (by simpa using h), h, runs_ded h]; simp [listE]
  · rw [if_neg h, runsV, if_pos h]; simp [listE, h]
theorem finM0 {d : Dom} {l : List Pc} {n : Int} (h : fieldA d l n ≠ 0) : missV d l n = (0, z3, fieldA d l n) := if_pos h
theorem finM1 {d : Dom} {l : List Pc} {n : Int} (h : fieldA d l n = 0) : missV d l n = ((((missL d l n).length : Nat) : Int), (missL d l n).headD z3, (0 : Int)) := if_neg (by simpa using h)
theorem finL0 {d : Dom} {l : List Pc} {n : Int} (h : fieldA d l n ≠ 0) : latV d l n = (0, fieldA d l n) := if_pos h
theorem finL1 {d : Dom} {l : List Pc} {n : Int} (h : fieldA d l n = 0) : latV d l n = (latF d l n, latG d l n) := by
  rw [latV, if_neg (by simpa using h), lat_same (fieldA_ok h).1, latF, latG]
  by_cases h2 : latR d l n < 0
  · rw [if_pos h2, if_pos h2, if_pos h2]
  · rw [if_neg h2, if_neg h2, if_neg h2]
end Go.Proofs
namespace Go.Proofs
open Go.Fs Ieee
set_option linter.unusedVariables false
theorem eq145 : EqT Tryz.prog 145 y145 := eqT_of (by kernel_rfl)
/-! ## The law of runs -/
theorem fA {d : Dom} {l : List Pc} (h : storeE d l = 0) : listE (runsV d l).1 (runsV d l).2 (storeE d l) (dedE (rnL l) (rnL l).length) = true := by
  have := finR1 (d := d) (l := l); rwa [if_pos h] at this
theorem fA' {d : Dom} {l : List Pc} (h : ¬ storeE d l = 0) : listE (runsV d l).1 (runsV d l).2 (storeE d l) [] = true := by
  have := finR1 (d := d) (l := l); rwa [if_neg h] at this
theorem fB {d : Dom} {l : List Pc} {n : Int} (h : fieldA d l n = 0) : numberL (missV d l n).1 (missV d l n).2.2 (fieldA d l n) (((missL d l n).length : Nat) : Int) = true := by
  rw [finM1 h, h]; simp [numberL]
theorem fB' {d : Dom} {l : List Pc} {n : Int} (h : ¬ fieldA d l n = 0) : numberL (missV d l n).1 (missV d l n).2.2 (fieldA d l n) 0 = true := by
  rw [finM0 h]; simp [numberL]
theorem fS {d : Dom} {l : List Pc} {n : Int} (h : fieldA d l n = 0) : (missV d l n).2.1 = (missL d l n).headD z3 := by rw [finM1 h]
theorem fS' {d : Dom} {l : List Pc} {n : Int} (h : ¬ fieldA d l n = 0) : (missV d l n).2.1 = z3 := by rw [finM0 h]
theorem fL1 {d : Dom} {l : List Pc} {n : Int} (h : fieldA d l n = 0) (h2 : latR d l n < 0) : numberL (latV d l n).1 (latV d l n).2 7 0 = true := by
  rw [finL1 h, latF, latG, if_pos h2, if_pos h2] <;> rfl
theorem fL2 {d : Dom} {l : List Pc} {n : Int} (h : fieldA d l n = 0) (h2 : ¬ latR d l n < 0) : numberL (latV d l n).1 (latV d l n).2 (fieldA d l n) (latR d l n) = true := by
  rw [finL1 h, latF, latG, if_neg h2, if_neg h2, h]; simp [numberL]
theorem fL' {d : Dom} {l : List Pc} {n : Int} (h : ¬ fieldA d l n = 0) : numberL (latV d l n).1 (latV d l n).2 (fieldA d l n) 0 = true := by
  rw [finL0 h]; simp [numberL]
theorem law8_ok {d : Int × Int × Int × (List (ByteArray × Int))} {l : List (Int × ByteArray × Int × Int × (List Nat))} {n : Int} (hd1 : d.2.2.2.length ≤ 9223372036854775807) (hl1 : l.length ≤ 9223372036854775807) : VF Tryz.prog OA 13 [.v y95 d, .v y96 l, I n] (B true) := by
  refine VF.enter Tryz.func13 rfl (fun _ _ => rfl) rfl ?_
  show VC _ _ _ _ _ [(0, .v y95 d), (1, .v y96 l), (2, I n)] [] _
  refine VC.seq ?_
  refine VC.text ?_
  refine VO.new (.box) ?_
  refine VO.c (.assign rfl) ?_
  refine VO.go ?_
  refine VC.seq ?_
  refine VC.seq ?_
  refine VC.text ?_
  refine VO.r (.ld vt95) ?_
  refine VO.call rfl rfl (VF.call (rShortD_ok hd1)) ?_
  refine VO.c (.not) ?_
  refine VO.c (.move rfl) ?_
  refine VO.splitB (x := 24) rfl (fun g1_3 => ?_) (fun g1_3 => ?_)
  · try simp only [Bool.and_eq_true, Bool.or_eq_true, Bool.and_eq_false_iff, Bool.or_eq_false_iff, Bool.not_eq_true', Bool.not_eq_false', decide_eq_true_eq, decide_eq_false_iff_not] at g1_3
    refine VO.skip ?_
    refine VO.skip ?_
    refine VO.skip ?_
    refine VO.c (.pickT rfl rfl) ?_
    refine VO.go ?_
    refine VC.condT rfl ?_
    refine VC.seq ?_
    refine VC.text ?_
    refine VO.call rfl rfl (VF.call (awake_ok )) ?_
    refine VO.c (.assign rfl) ?_
    refine VO.go ?_
    refine VC.ret ?_
    exact VEnd.one rfl evT (pvE (by first | rfl | exact absurd ((fA c12).symm.trans g19_5) (by decide) | exact absurd ((fA' c12).symm.trans g19_5) (by decide) | exact absurd ((fB c14).symm.trans g19_12) (by decide) | exact absurd ((fB' c14).symm.trans g19_12) (by decide) | exact absurd (fS c14) g19_17 | exact absurd (fS' c14) g19_17 | exact absurd ((fL1 c14 c17).symm.trans g19_24) (by decide) | exact absurd ((fL2 c14 c17).symm.trans g19_24) (by decide) | exact absurd ((fL' c14).symm.trans g19_24) (by decide)))
  · try simp only [Bool.and_eq_true, Bool.or_eq_true, Bool.and_eq_false_iff, Bool.or_eq_false_iff, Bool.not_eq_true', Bool.not_eq_false', decide_eq_true_eq, decide_eq_false_iff_not] at g1_3
    refine VO.c (.move rfl) ?_
    refine VO.call rfl rfl (VF.call (rShortS_ok hl1)) ?_
    refine VO.c (.not) ?_
    refine VO.c (.pickF rfl rfl) ?_
    refine VO.go ?_
    refine VC.condB rfl (fun c1 => ?_) (fun c1 => ?_)
    · try simp only [Bool.and_eq_true, Bool.or_eq_true, Bool.and_eq_false_iff, Bool.or_eq_false_iff, Bool.not_eq_true', Bool.not_eq_false', decide_eq_true_eq, decide_eq_false_iff_not] at c1
      refine VC.seq ?_
      refine VC.text ?_
      refine VO.call rfl rfl (VF.call (awake_ok )) ?_
      refine VO.c (.assign rfl) ?_
      refine VO.go ?_
      refine VC.ret ?_
      exact VEnd.one rfl evT (pvE (by first | rfl | exact absurd ((fA c12).symm.trans g19_5) (by decide) | exact absurd ((fA' c12).symm.trans g19_5) (by decide) | exact absurd ((fB c14).symm.trans g19_12) (by decide) | exact absurd ((fB' c14).symm.trans g19_12) (by decide) | exact absurd (fS c14) g19_17 | exact absurd (fS' c14) g19_17 | exact absurd ((fL1 c14 c17).symm.trans g19_24) (by decide) | exact absurd ((fL2 c14 c17).symm.trans g19_24) (by decide) | exact absurd ((fL' c14).symm.trans g19_24) (by decide)))
    · try simp only [Bool.and_eq_true, Bool.or_eq_true, Bool.and_eq_false_iff, Bool.or_eq_false_iff, Bool.not_eq_true', Bool.not_eq_false', decide_eq_true_eq, decide_eq_false_iff_not] at c1
      have hs : (shortD d = true ∧ shortS l 24 = true) := by simp_all
      have hsd := of_decide_eq_true hs.1
      have hss := of_decide_eq_true hs.2
      have hdl : d.2.2.2.length < 100000 := by have := hsd.1; omega
      have hll : l.length < 100000 := by have := hss.1; omega
      have hr : ∀ p ∈ l, p.2.2.2.2.length < 100000 := fun p m => by obtain ⟨i, hi, rfl⟩ := List.getElem_of_mem m; have := (hss.2 i hi).2; rw [← pcA_eq hi] at this; omega
      have hcl : (runsV d l).1.length < 1000000 := by unfold runsV; split; exact Nat.zero_lt_succ _; exact Nat.lt_of_le_of_lt cptA_len (by rw [rnL, List.length_map]; omega)
      refine VC.skip ?_
      show VC _ _ _ _ _ _ _ _
      refine VC.seq ?_
      refine VC.text ?_
      refine VO.r (.ld vt95) ?_
      refine VO.call rfl rfl (VF.call (lDom_ok hdl)) ?_
      refine VO.c (.move rfl) ?_
      refine VO.call rfl rfl (VF.call (lPcs_ok hll hr)) ?_
      refine VO.call rfl rfl (VF.call (sRuns_ok hll hr)) ?_
      refine VO.c (.move rfl) ?_
      refine VO.c (.extract) ?_
      refine VO.c (.extract) ?_
      refine VO.c (.assign rfl) ?_
      refine VO.c (.assign rfl) ?_
      refine VO.go ?_
      refine VC.seq ?_
      refine VC.text ?_
      refine VO.r (.ld vt95) ?_
      refine VO.call rfl rfl (VF.call (lDom_ok hdl)) ?_
      refine VO.c (.move rfl) ?_
      refine VO.call rfl rfl (VF.call (lPcs_ok hll hr)) ?_
      refine VO.c (.move rfl) ?_
      refine VO.call rfl rfl (VF.call (sMissing_ok hll hr)) ?_
      refine VO.c (.move rfl) ?_
      refine VO.c (.extract) ?_
      refine VO.c (.extract) ?_
      refine VO.c (.extract) ?_
      refine VO.cell (.alloc zt141) ?_
      intro ww1
      refine VO.c (.assign rfl) ?_
      refine VO.setV (cs' := [St (((missV d l n).2.1).1), I (((missV d l n).2.1).2.1), I (((missV d l n).2.1).2.2)]) vt141 .v ?_
      refine VO.shut [(10, .p y141 ((missV d l n).2.1))] (.cons rfl (.var m0 .refl) .nil) ?_
      refine VO.c (.assign rfl) ?_
      refine VO.go ?_
      refine VC.seq ?_
      refine VC.keep [(1, .v y96 l), (2, I n), (3, .p y95 d), (7, .v y22 ((runsV d l).1)), (8, I ((runsV d l).2)), (9, I ((missV d l n).1)), (10, .p y141 ((missV d l n).2.1)), (11, I ((missV d l n).2.2))] ⟨rfl, rfl, rfl, rfl, rfl, rfl, rfl, rfl, trivial⟩ ?_
      refine VC.text ?_
      refine VO.r (.ld vt95) ?_
      refine VO.call rfl rfl (VF.call (lDom_ok hdl)) ?_
      refine VO.c (.move rfl) ?_
      refine VO.call rfl rfl (VF.call (lPcs_ok hll hr)) ?_
      refine VO.c (.move rfl) ?_
      refine VO.call rfl rfl (VF.call (sLatest_ok hll hr)) ?_
      refine VO.c (.move rfl) ?_
      refine VO.c (.extract) ?_
      refine VO.c (.extract) ?_
      refine VO.c (.assign rfl) ?_
      refine VO.c (.assign rfl) ?_
      refine VO.go ?_
      refine VC.seq ?_
      refine VC.text ?_
      refine VO.r (.ld vt95) ?_
      refine VO.c (.move rfl) ?_
      refine VO.call rfl rfl (VF.call (rStore_ok hll hr)) ?_
      refine VO.c (.assign rfl) ?_
      refine VO.go ?_
      refine VC.seq ?_
      refine VC.text ?_
      refine VO.c (.move rfl) ?_
      refine VO.c (.move rfl) ?_
      refine VO.call rfl rfl (VF.call (rCheckRange_ok )) ?_
      refine VO.new (.lit [storeE d l, rangeE n (0 : Int) (100000 : Int)] el22) ?_
      refine VO.call rfl rfl (VF.call (lFirst_ok (by first | assumption | omega | simp))) ?_
      rw [show firstE [storeE d l, rangeE n 0 100000] = fieldA d l n from rfl]
      refine VO.c (.assign rfl) ?_
      refine VO.go ?_
      refine VC.seq ?_
      refine VC.text ?_
      refine VO.c (.move rfl) ?_
      refine VO.c (.assign rfl) ?_
      refine VO.go ?_
      refine VC.seq ?_
      refine VC.text ?_
      refine VO.c (.assign rfl) ?_
      refine VO.go ?_
      refine VC.seq ?_
      refine VC.text ?_
      refine VO.c (.assign rfl) ?_
      refine VO.c (.assign rfl) ?_
      refine VO.go ?_
      refine VC.seq ?_
      refine VC.text ?_
      refine VO.cell (.alloc zt145) ?_
      intro ww2
      refine VO.go ?_
      refine VC.seq ?_
      refine VC.seq ?_
      refine VC.text ?_
      refine VO.c (.move rfl) ?_
      refine VO.c (.eql) ?_
      refine VO.go ?_
      refine VC.condD rfl (fun c12 => ?_) (fun c12 => ?_)
      · refine VC.text ?_
        refine VO.c (.move rfl) ?_
        refine VO.call rfl rfl (VF.call (rRuns_ok hll)) ?_
        refine VO.c (.assign rfl) ?_
        refine VO.go ?_
        refine VC.seq ?_
        refine VC.seq ?_
        refine VC.keep [(1, .v y96 l), (2, I n), (3, .p y95 d), (7, .v y22 ((runsV d l).1)), (8, I ((runsV d l).2)), (9, I ((missV d l n).1)), (10, .p y141 ((missV d l n).2.1)), (11, I ((missV d l n).2.2)), (12, I ((latV d l n).1)), (13, I ((latV d l n).2)), (14, I (storeE d l)), (15, I (fieldA d l n)), (16, I (fieldA d l n)), (17, .v y22 (dedE (rnL l) (rnL l).length)), (18, I (0 : Int)), (19, I (0 : Int)), (20, .raw ww2)] ⟨rfl, rfl, rfl, rfl, rfl, rfl, rfl, rfl, rfl, rfl, rfl, rfl, rfl, rfl, rfl, rfl, rfl, trivial⟩ ?_
        refine VC.text ?_
        refine VO.c (.move rfl) ?_
        refine VO.c (.eql) ?_
        refine VO.go ?_
        refine VC.condD rfl (fun c14 => ?_) (fun c14 => ?_)
        · refine VC.seq ?_
          refine VC.text ?_
          refine VO.r (.ld vt95) ?_
          refine VO.c (.move rfl) ?_
          refine VO.c (.move rfl) ?_
          refine VO.call rfl rfl (VF.call (rMiss_ok (store_dom (fieldA_ok c14).1).1 hll)) ?_
          refine VO.c (.move rfl) ?_
          refine VO.c (.extract) ?_
          refine VO.c (.extract) ?_
          refine VO.c (.assign rfl) ?_
          refine VO.setV (cs' := [St (((missL d l n).headD z3).1), I (((missL d l n).headD z3).2.1), I (((missL d l n).headD z3).2.2)]) vt145 .v ?_
          refine VO.shut [(20, .p y145 ((missL d l n).headD z3))] (.cons rfl (.var m0 .refl) .nil) ?_
          refine VO.go ?_
          refine VC.seq ?_
          refine VC.text ?_
          refine VO.r (.ld vt95) ?_
          refine VO.c (.move rfl) ?_
          refine VO.c (.move rfl) ?_
          refine VO.call rfl rfl (VF.call (rLatest_ok (fieldA_ok c14).1 hll)) ?_
          refine VO.c (.assign rfl) ?_
          refine VO.go ?_
          refine VC.seq ?_
          refine VC.text ?_
          refine VO.c (.move rfl) ?_
          refine VO.c (.lss) ?_
          refine VO.go ?_
          refine VC.condD rfl (fun c17 => ?_) (fun c17 => ?_)
          · refine VC.text ?_
            refine VO.c (.assign rfl) ?_
            refine VO.c (.assign rfl) ?_
            refine VO.go ?_
            refine VC.seq ?_
            refine VC.text ?_
            refine VO.c (.move rfl) ?_
            refine VO.c (.move rfl) ?_
            refine VO.c (.move rfl) ?_
            refine VO.c (.move rfl) ?_
            refine VO.call rfl rfl (VF.call (lList_ok hcl)) ?_
            refine VO.c (.move rfl) ?_
            refine VO.splitB (x := 90) rfl (fun g19_5 => ?_) (fun g19_5 => ?_)
            · refine VO.c (.move rfl) ?_
              refine VO.c (.move rfl) ?_
              refine VO.c (.move rfl) ?_
              refine VO.c (.move rfl) ?_
              refine VO.call rfl rfl (VF.call (lNumber_ok )) ?_
              refine VO.c (.pickT rfl rfl) ?_
              refine VO.c (.move rfl) ?_
              refine VO.splitB (x := 97) rfl (fun g19_12 => ?_) (fun g19_12 => ?_)
              · refine VO.r (.ld vt141) ?_
                refine VO.r (.ld vt145) ?_
                refine VO.c (.eeql eq145) ?_
                refine VO.c (.pickT rfl rfl) ?_
                refine VO.c (.move rfl) ?_
                refine VO.splitD (x := 102) rfl (fun g19_17 => ?_) (fun g19_17 => ?_)
                · refine VO.c (.move rfl) ?_
                  refine VO.c (.move rfl) ?_
                  refine VO.c (.move rfl) ?_
                  refine VO.c (.move rfl) ?_
                  refine VO.call rfl rfl (VF.call (lNumber_ok )) ?_
                  refine VO.c (.pickT rfl rfl) ?_
                  refine VO.c (.move rfl) ?_
                  refine VO.splitB (x := 109) rfl (fun g19_24 => ?_) (fun g19_24 => ?_)
                  · refine VO.call rfl rfl (VF.call (awake_ok )) ?_
                    refine VO.c (.pickT rfl rfl) ?_
                    refine VO.c (.assign rfl) ?_
                    refine VO.go ?_
                    refine VC.ret ?_
                    exact VEnd.one rfl evT (pvE (by first | rfl | exact absurd ((fA c12).symm.trans g19_5) (by decide) | exact absurd ((fA' c12).symm.trans g19_5) (by decide) | exact absurd ((fB c14).symm.trans g19_12) (by decide) | exact absurd ((fB' c14).symm.trans g19_12) (by decide) | exact absurd (fS c14) g19_17 | exact absurd (fS' c14) g19_17 | exact absurd ((fL1 c14 c17).symm.trans g19_24) (by decide) | exact absurd ((fL2 c14 c17).symm.trans g19_24) (by decide) | exact absurd ((fL' c14).symm.trans g19_24) (by decide)))
                  · refine VO.skip ?_
                    refine VO.c (.pickF rfl rfl) ?_
                    refine VO.c (.assign rfl) ?_
                    refine VO.go ?_
                    refine VC.ret ?_
                    exact VEnd.one rfl evT (pvE (by first | rfl | exact absurd ((fA c12).symm.trans g19_5) (by decide) | exact absurd ((fA' c12).symm.trans g19_5) (by decide) | exact absurd ((fB c14).symm.trans g19_12) (by decide) | exact absurd ((fB' c14).symm.trans g19_12) (by decide) | exact absurd (fS c14) g19_17 | exact absurd (fS' c14) g19_17 | exact absurd ((fL1 c14 c17).symm.trans g19_24) (by decide) | exact absurd ((fL2 c14 c17).symm.trans g19_24) (by decide) | exact absurd ((fL' c14).symm.trans g19_24) (by decide)))
                · refine VO.skip ?_
                  refine VO.skip ?_
                  refine VO.skip ?_
                  refine VO.skip ?_
                  refine VO.skip ?_
                  refine VO.c (.pickF rfl rfl) ?_
                  refine VO.c (.move rfl) ?_
                  refine VO.skip ?_
                  refine VO.c (.pickF rfl rfl) ?_
                  refine VO.c (.assign rfl) ?_
                  refine VO.go ?_
                  refine VC.ret ?_
                  exact VEnd.one rfl evT (pvE (by first | rfl | exact absurd ((fA c12).symm.trans g19_5) (by decide) | exact absurd ((fA' c12).symm.trans g19_5) (by decide) | exact absurd ((fB c14).symm.trans g19_12) (by decide) | exact absurd ((fB' c14).symm.trans g19_12) (by decide) | exact absurd (fS c14) g19_17 | exact absurd (fS' c14) g19_17 | exact absurd ((fL1 c14 c17).symm.trans g19_24) (by decide) | exact absurd ((fL2 c14 c17).symm.trans g19_24) (by decide) | exact absurd ((fL' c14).symm.trans g19_24) (by decide)))
              · refine VO.skip ?_
                refine VO.skip ?_
                refine VO.skip ?_
                refine VO.c (.pickF rfl rfl) ?_
                refine VO.c (.move rfl) ?_
                refine VO.skip ?_
                refine VO.skip ?_
                refine VO.skip ?_
                refine VO.skip ?_
                refine VO.skip ?_
                refine VO.c (.pickF rfl rfl) ?_
                refine VO.c (.move rfl) ?_
                refine VO.skip ?_
                refine VO.c (.pickF rfl rfl) ?_
                refine VO.c (.assign rfl) ?_
                refine VO.go ?_
                refine VC.ret ?_
                exact VEnd.one rfl evT (pvE (by first | rfl | exact absurd ((fA c12).symm.trans g19_5) (by decide) | exact absurd ((fA' c12).symm.trans g19_5) (by decide) | exact absurd ((fB c14).symm.trans g19_12) (by decide) | exact absurd ((fB' c14).symm.trans g19_12) (by decide) | exact absurd (fS c14) g19_17 | exact absurd (fS' c14) g19_17 | exact absurd ((fL1 c14 c17).symm.trans g19_24) (by decide) | exact absurd ((fL2 c14 c17).symm.trans g19_24) (by decide) | exact absurd ((fL' c14).symm.trans g19_24) (by decide)))
            · refine VO.skip ?_
              refine VO.skip ?_
              refine VO.skip ?_
              refine VO.skip ?_
              refine VO.skip ?_
              refine VO.c (.pickF rfl rfl) ?_
              refine VO.c (.move rfl) ?_
              refine VO.skip ?_
              refine VO.skip ?_
              refine VO.skip ?_
              refine VO.c (.pickF rfl rfl) ?_
              refine VO.c (.move rfl) ?_
              refine VO.skip ?_
              refine VO.skip ?_
              refine VO.skip ?_
              refine VO.skip ?_
              refine VO.skip ?_
              refine VO.c (.pickF rfl rfl) ?_
              refine VO.c (.move rfl) ?_
              refine VO.skip ?_
              refine VO.c (.pickF rfl rfl) ?_
              refine VO.c (.assign rfl) ?_
              refine VO.go ?_
              refine VC.ret ?_
              exact VEnd.one rfl evT (pvE (by first | rfl | exact absurd ((fA c12).symm.trans g19_5) (by decide) | exact absurd ((fA' c12).symm.trans g19_5) (by decide) | exact absurd ((fB c14).symm.trans g19_12) (by decide) | exact absurd ((fB' c14).symm.trans g19_12) (by decide) | exact absurd (fS c14) g19_17 | exact absurd (fS' c14) g19_17 | exact absurd ((fL1 c14 c17).symm.trans g19_24) (by decide) | exact absurd ((fL2 c14 c17).symm.trans g19_24) (by decide) | exact absurd ((fL' c14).symm.trans g19_24) (by decide)))
          · refine VC.skip ?_
            show VC _ _ _ _ _ _ _ _
            refine VC.seq ?_
            refine VC.text ?_
            refine VO.c (.move rfl) ?_
            refine VO.c (.move rfl) ?_
            refine VO.c (.move rfl) ?_
            refine VO.c (.move rfl) ?_
            refine VO.call rfl rfl (VF.call (lList_ok hcl)) ?_
            refine VO.c (.move rfl) ?_
            refine VO.splitB (x := 90) rfl (fun g19_5 => ?_) (fun g19_5 => ?_)
            · refine VO.c (.move rfl) ?_
              refine VO.c (.move rfl) ?_
              refine VO.c (.move rfl) ?_
              refine VO.c (.move rfl) ?_
              refine VO.call rfl rfl (VF.call (lNumber_ok )) ?_
              refine VO.c (.pickT rfl rfl) ?_
              refine VO.c (.move rfl) ?_
              refine VO.splitB (x := 97) rfl (fun g19_12 => ?_) (fun g19_12 => ?_)
              · refine VO.r (.ld vt141) ?_
                refine VO.r (.ld vt145) ?_
                refine VO.c (.eeql eq145) ?_
                refine VO.c (.pickT rfl rfl) ?_
                refine VO.c (.move rfl) ?_
                refine VO.splitD (x := 102) rfl (fun g19_17 => ?_) (fun g19_17 => ?_)
                · refine VO.c (.move rfl) ?_
                  refine VO.c (.move rfl) ?_
                  refine VO.c (.move rfl) ?_
                  refine VO.c (.move rfl) ?_
                  refine VO.call rfl rfl (VF.call (lNumber_ok )) ?_
                  refine VO.c (.pickT rfl rfl) ?_
                  refine VO.c (.move rfl) ?_
                  refine VO.splitB (x := 109) rfl (fun g19_24 => ?_) (fun g19_24 => ?_)
                  · refine VO.call rfl rfl (VF.call (awake_ok )) ?_
                    refine VO.c (.pickT rfl rfl) ?_
                    refine VO.c (.assign rfl) ?_
                    refine VO.go ?_
                    refine VC.ret ?_
                    exact VEnd.one rfl evT (pvE (by first | rfl | exact absurd ((fA c12).symm.trans g19_5) (by decide) | exact absurd ((fA' c12).symm.trans g19_5) (by decide) | exact absurd ((fB c14).symm.trans g19_12) (by decide) | exact absurd ((fB' c14).symm.trans g19_12) (by decide) | exact absurd (fS c14) g19_17 | exact absurd (fS' c14) g19_17 | exact absurd ((fL1 c14 c17).symm.trans g19_24) (by decide) | exact absurd ((fL2 c14 c17).symm.trans g19_24) (by decide) | exact absurd ((fL' c14).symm.trans g19_24) (by decide)))
                  · refine VO.skip ?_
                    refine VO.c (.pickF rfl rfl) ?_
                    refine VO.c (.assign rfl) ?_
                    refine VO.go ?_
                    refine VC.ret ?_
                    exact VEnd.one rfl evT (pvE (by first | rfl | exact absurd ((fA c12).symm.trans g19_5) (by decide) | exact absurd ((fA' c12).symm.trans g19_5) (by decide) | exact absurd ((fB c14).symm.trans g19_12) (by decide) | exact absurd ((fB' c14).symm.trans g19_12) (by decide) | exact absurd (fS c14) g19_17 | exact absurd (fS' c14) g19_17 | exact absurd ((fL1 c14 c17).symm.trans g19_24) (by decide) | exact absurd ((fL2 c14 c17).symm.trans g19_24) (by decide) | exact absurd ((fL' c14).symm.trans g19_24) (by decide)))
                · refine VO.skip ?_
                  refine VO.skip ?_
                  refine VO.skip ?_
                  refine VO.skip ?_
                  refine VO.skip ?_
                  refine VO.c (.pickF rfl rfl) ?_
                  refine VO.c (.move rfl) ?_
                  refine VO.skip ?_
                  refine VO.c (.pickF rfl rfl) ?_
                  refine VO.c (.assign rfl) ?_
                  refine VO.go ?_
                  refine VC.ret ?_
                  exact VEnd.one rfl evT (pvE (by first | rfl | exact absurd ((fA c12).symm.trans g19_5) (by decide) | exact absurd ((fA' c12).symm.trans g19_5) (by decide) | exact absurd ((fB c14).symm.trans g19_12) (by decide) | exact absurd ((fB' c14).symm.trans g19_12) (by decide) | exact absurd (fS c14) g19_17 | exact absurd (fS' c14) g19_17 | exact absurd ((fL1 c14 c17).symm.trans g19_24) (by decide) | exact absurd ((fL2 c14 c17).symm.trans g19_24) (by decide) | exact absurd ((fL' c14).symm.trans g19_24) (by decide)))
              · refine VO.skip ?_
                refine VO.skip ?_
                refine VO.skip ?_
                refine VO.c (.pickF rfl rfl) ?_
                refine VO.c (.move rfl) ?_
                refine VO.skip ?_
                refine VO.skip ?_
                refine VO.skip ?_
                refine VO.skip ?_
                refine VO.skip ?_
                refine VO.c (.pickF rfl rfl) ?_
                refine VO.c (.move rfl) ?_
                refine VO.skip ?_
                refine VO.c (.pickF rfl rfl) ?_
                refine VO.c (.assign rfl) ?_
                refine VO.go ?_
                refine VC.ret ?_
                exact VEnd.one rfl evT (pvE (by first | rfl | exact absurd ((fA c12).symm.trans g19_5) (by decide) | exact absurd ((fA' c12).symm.trans g19_5) (by decide) | exact absurd ((fB c14).symm.trans g19_12) (by decide) | exact absurd ((fB' c14).symm.trans g19_12) (by decide) | exact absurd (fS c14) g19_17 | exact absurd (fS' c14) g19_17 | exact absurd ((fL1 c14 c17).symm.trans g19_24) (by decide) | exact absurd ((fL2 c14 c17).symm.trans g19_24) (by decide) | exact absurd ((fL' c14).symm.trans g19_24) (by decide)))
            · refine VO.skip ?_
              refine VO.skip ?_
              refine VO.skip ?_
              refine VO.skip ?_
              refine VO.skip ?_
              refine VO.c (.pickF rfl rfl) ?_
              refine VO.c (.move rfl) ?_
              refine VO.skip ?_
              refine VO.skip ?_
              refine VO.skip ?_
              refine VO.c (.pickF rfl rfl) ?_
              refine VO.c (.move rfl) ?_
              refine VO.skip ?_
              refine VO.skip ?_
              refine VO.skip ?_
              refine VO.skip ?_
              refine VO.skip ?_
              refine VO.c (.pickF rfl rfl) ?_
              refine VO.c (.move rfl) ?_
              refine VO.skip ?_
              refine VO.c (.pickF rfl rfl) ?_
              refine VO.c (.assign rfl) ?_
              refine VO.go ?_
              refine VC.ret ?_
              exact VEnd.one rfl evT (pvE (by first | rfl | exact absurd ((fA c12).symm.trans g19_5) (by decide) | exact absurd ((fA' c12).symm.trans g19_5) (by decide) | exact absurd ((fB c14).symm.trans g19_12) (by decide) | exact absurd ((fB' c14).symm.trans g19_12) (by decide) | exact absurd (fS c14) g19_17 | exact absurd (fS' c14) g19_17 | exact absurd ((fL1 c14 c17).symm.trans g19_24) (by decide) | exact absurd ((fL2 c14 c17).symm.trans g19_24) (by decide) | exact absurd ((fL' c14).symm.trans g19_24) (by decide)))
        · refine VC.skip ?_
          show VC _ _ _ _ _ _ _ _
          refine VC.seq ?_
          refine VC.text ?_
          refine VO.c (.move rfl) ?_
          refine VO.c (.move rfl) ?_
          refine VO.c (.move rfl) ?_
          refine VO.c (.move rfl) ?_
          refine VO.call rfl rfl (VF.call (lList_ok hcl)) ?_
          refine VO.c (.move rfl) ?_
          refine VO.splitB (x := 90) rfl (fun g19_5 => ?_) (fun g19_5 => ?_)
          · refine VO.c (.move rfl) ?_
            refine VO.c (.move rfl) ?_
            refine VO.c (.move rfl) ?_
            refine VO.c (.move rfl) ?_
            refine VO.call rfl rfl (VF.call (lNumber_ok )) ?_
            refine VO.c (.pickT rfl rfl) ?_
            refine VO.c (.move rfl) ?_
            refine VO.splitB (x := 97) rfl (fun g19_12 => ?_) (fun g19_12 => ?_)
            · refine VO.r (.ld vt141) ?_
              refine VO.r (.ldA (dx := (ByteArray.empty, (0 : Int), (0 : Int))) m0 vt145) ?_
              refine VO.c (.eeql eq145) ?_
              refine VO.c (.pickT rfl rfl) ?_
              refine VO.c (.move rfl) ?_
              refine VO.splitD (x := 102) rfl (fun g19_17 => ?_) (fun g19_17 => ?_)
              · refine VO.c (.move rfl) ?_
                refine VO.c (.move rfl) ?_
                refine VO.c (.move rfl) ?_
                refine VO.c (.move rfl) ?_
                refine VO.call rfl rfl (VF.call (lNumber_ok )) ?_
                refine VO.c (.pickT rfl rfl) ?_
                refine VO.c (.move rfl) ?_
                refine VO.splitB (x := 109) rfl (fun g19_24 => ?_) (fun g19_24 => ?_)
                · refine VO.call rfl rfl (VF.call (awake_ok )) ?_
                  refine VO.c (.pickT rfl rfl) ?_
                  refine VO.c (.assign rfl) ?_
                  refine VO.go ?_
                  refine VC.ret ?_
                  exact VEnd.one rfl evT (pvE (by first | rfl | exact absurd ((fA c12).symm.trans g19_5) (by decide) | exact absurd ((fA' c12).symm.trans g19_5) (by decide) | exact absurd ((fB c14).symm.trans g19_12) (by decide) | exact absurd ((fB' c14).symm.trans g19_12) (by decide) | exact absurd (fS c14) g19_17 | exact absurd (fS' c14) g19_17 | exact absurd ((fL1 c14 c17).symm.trans g19_24) (by decide) | exact absurd ((fL2 c14 c17).symm.trans g19_24) (by decide) | exact absurd ((fL' c14).symm.trans g19_24) (by decide)))
                · refine VO.skip ?_
                  refine VO.c (.pickF rfl rfl) ?_
                  refine VO.c (.assign rfl) ?_
                  refine VO.go ?_
                  refine VC.ret ?_
                  exact VEnd.one rfl evT (pvE (by first | rfl | exact absurd ((fA c12).symm.trans g19_5) (by decide) | exact absurd ((fA' c12).symm.trans g19_5) (by decide) | exact absurd ((fB c14).symm.trans g19_12) (by decide) | exact absurd ((fB' c14).symm.trans g19_12) (by decide) | exact absurd (fS c14) g19_17 | exact absurd (fS' c14) g19_17 | exact absurd ((fL1 c14 c17).symm.trans g19_24) (by decide) | exact absurd ((fL2 c14 c17).symm.trans g19_24) (by decide) | exact absurd ((fL' c14).symm.trans g19_24) (by decide)))
              · refine VO.skip ?_
                refine VO.skip ?_
                refine VO.skip ?_
                refine VO.skip ?_
                refine VO.skip ?_
                refine VO.c (.pickF rfl rfl) ?_
                refine VO.c (.move rfl) ?_
                refine VO.skip ?_
                refine VO.c (.pickF rfl rfl) ?_
                refine VO.c (.assign rfl) ?_
                refine VO.go ?_
                refine VC.ret ?_
                exact VEnd.one rfl evT (pvE (by first | rfl | exact absurd ((fA c12).symm.trans g19_5) (by decide) | exact absurd ((fA' c12).symm.trans g19_5) (by decide) | exact absurd ((fB c14).symm.trans g19_12) (by decide) | exact absurd ((fB' c14).symm.trans g19_12) (by decide) | exact absurd (fS c14) g19_17 | exact absurd (fS' c14) g19_17 | exact absurd ((fL1 c14 c17).symm.trans g19_24) (by decide) | exact absurd ((fL2 c14 c17).symm.trans g19_24) (by decide) | exact absurd ((fL' c14).symm.trans g19_24) (by decide)))
            · refine VO.skip ?_
              refine VO.skip ?_
              refine VO.skip ?_
              refine VO.c (.pickF rfl rfl) ?_
              refine VO.c (.move rfl) ?_
              refine VO.skip ?_
              refine VO.skip ?_
              refine VO.skip ?_
              refine VO.skip ?_
              refine VO.skip ?_
              refine VO.c (.pickF rfl rfl) ?_
              refine VO.c (.move rfl) ?_
              refine VO.skip ?_
              refine VO.c (.pickF rfl rfl) ?_
              refine VO.c (.assign rfl) ?_
              refine VO.go ?_
              refine VC.ret ?_
              exact VEnd.one rfl evT (pvE (by first | rfl | exact absurd ((fA c12).symm.trans g19_5) (by decide) | exact absurd ((fA' c12).symm.trans g19_5) (by decide) | exact absurd ((fB c14).symm.trans g19_12) (by decide) | exact absurd ((fB' c14).symm.trans g19_12) (by decide) | exact absurd (fS c14) g19_17 | exact absurd (fS' c14) g19_17 | exact absurd ((fL1 c14 c17).symm.trans g19_24) (by decide) | exact absurd ((fL2 c14 c17).symm.trans g19_24) (by decide) | exact absurd ((fL' c14).symm.trans g19_24) (by decide)))
          · refine VO.skip ?_
            refine VO.skip ?_
            refine VO.skip ?_
            refine VO.skip ?_
            refine VO.skip ?_
            refine VO.c (.pickF rfl rfl) ?_
            refine VO.c (.move rfl) ?_
            refine VO.skip ?_
            refine VO.skip ?_
            refine VO.skip ?_
            refine VO.c (.pickF rfl rfl) ?_
            refine VO.c (.move rfl) ?_
            refine VO.skip ?_
            refine VO.skip ?_
            refine VO.skip ?_
            refine VO.skip ?_
            refine VO.skip ?_
            refine VO.c (.pickF rfl rfl) ?_
            refine VO.c (.move rfl) ?_
            refine VO.skip ?_
            refine VO.c (.pickF rfl rfl) ?_
            refine VO.c (.assign rfl) ?_
            refine VO.go ?_
            refine VC.ret ?_
            exact VEnd.one rfl evT (pvE (by first | rfl | exact absurd ((fA c12).symm.trans g19_5) (by decide) | exact absurd ((fA' c12).symm.trans g19_5) (by decide) | exact absurd ((fB c14).symm.trans g19_12) (by decide) | exact absurd ((fB' c14).symm.trans g19_12) (by decide) | exact absurd (fS c14) g19_17 | exact absurd (fS' c14) g19_17 | exact absurd ((fL1 c14 c17).symm.trans g19_24) (by decide) | exact absurd ((fL2 c14 c17).symm.trans g19_24) (by decide) | exact absurd ((fL' c14).symm.trans g19_24) (by decide)))
      · refine VC.skip ?_
        show VC _ _ _ _ _ _ _ _
        refine VC.seq ?_
        refine VC.seq ?_
        refine VC.text ?_
        refine VO.c (.move rfl) ?_
        refine VO.c (.eql) ?_
        refine VO.go ?_
        refine VC.condD rfl (fun c14 => ?_) (fun c14 => ?_)
        · refine VC.seq ?_
          refine VC.keep [(1, .v y96 l), (2, I n), (3, .p y95 d), (7, .v y22 ((runsV d l).1)), (8, I ((runsV d l).2)), (9, I ((missV d l n).1)), (10, .p y141 ((missV d l n).2.1)), (11, I ((missV d l n).2.2)), (12, I ((latV d l n).1)), (13, I ((latV d l n).2)), (14, I (storeE d l)), (15, I (fieldA d l n)), (16, I (fieldA d l n)), (17, nilV), (20, .raw ww2)] ⟨rfl, rfl, rfl, rfl, rfl, rfl, rfl, rfl, rfl, rfl, rfl, rfl, rfl, rfl, rfl, trivial⟩ ?_
          refine VC.text ?_
          refine VO.r (.ld vt95) ?_
          refine VO.c (.move rfl) ?_
          refine VO.c (.move rfl) ?_
          refine VO.call rfl rfl (VF.call (rMiss_ok (store_dom (fieldA_ok c14).1).1 hll)) ?_
          refine VO.c (.move rfl) ?_
          refine VO.c (.extract) ?_
          refine VO.c (.extract) ?_
          refine VO.c (.assign rfl) ?_
          refine VO.setV (cs' := [St (((missL d l n).headD z3).1), I (((missL d l n).headD z3).2.1), I (((missL d l n).headD z3).2.2)]) vt145 .v ?_
          refine VO.shut [(20, .p y145 ((missL d l n).headD z3))] (.cons rfl (.var m0 .refl) .nil) ?_
          refine VO.go ?_
          refine VC.seq ?_
          refine VC.text ?_
          refine VO.r (.ld vt95) ?_
          refine VO.c (.move rfl) ?_
          refine VO.c (.move rfl) ?_
          refine VO.call rfl rfl (VF.call (rLatest_ok (fieldA_ok c14).1 hll)) ?_
          refine VO.c (.assign rfl) ?_
          refine VO.go ?_
          refine VC.seq ?_
          refine VC.text ?_
          refine VO.c (.move rfl) ?_
          refine VO.c (.lss) ?_
          refine VO.go ?_
          refine VC.condD rfl (fun c17 => ?_) (fun c17 => ?_)
          · refine VC.text ?_
            refine VO.c (.assign rfl) ?_
            refine VO.c (.assign rfl) ?_
            refine VO.go ?_
            refine VC.seq ?_
            refine VC.text ?_
            refine VO.c (.move rfl) ?_
            refine VO.c (.move rfl) ?_
            refine VO.c (.move rfl) ?_
            refine VO.c (.move rfl) ?_
            refine VO.callC rfl rfl .same (.cons .same (.cons .same (.cons .same (.cons .nil .nil)))) rfl (VF.call (lList_ok hcl)) ?_
            refine VO.c (.move rfl) ?_
            refine VO.splitB (x := 90) rfl (fun g19_5 => ?_) (fun g19_5 => ?_)
            · refine VO.c (.move rfl) ?_
              refine VO.c (.move rfl) ?_
              refine VO.c (.move rfl) ?_
              refine VO.c (.move rfl) ?_
              refine VO.call rfl rfl (VF.call (lNumber_ok )) ?_
              refine VO.c (.pickT rfl rfl) ?_
              refine VO.c (.move rfl) ?_
              refine VO.splitB (x := 97) rfl (fun g19_12 => ?_) (fun g19_12 => ?_)
              · refine VO.r (.ld vt141) ?_
                refine VO.r (.ld vt145) ?_
                refine VO.c (.eeql eq145) ?_
                refine VO.c (.pickT rfl rfl) ?_
                refine VO.c (.move rfl) ?_
                refine VO.splitD (x := 102) rfl (fun g19_17 => ?_) (fun g19_17 => ?_)
                · refine VO.c (.move rfl) ?_
                  refine VO.c (.move rfl) ?_
                  refine VO.c (.move rfl) ?_
                  refine VO.c (.move rfl) ?_
                  refine VO.call rfl rfl (VF.call (lNumber_ok )) ?_
                  refine VO.c (.pickT rfl rfl) ?_
                  refine VO.c (.move rfl) ?_
                  refine VO.splitB (x := 109) rfl (fun g19_24 => ?_) (fun g19_24 => ?_)
                  · refine VO.call rfl rfl (VF.call (awake_ok )) ?_
                    refine VO.c (.pickT rfl rfl) ?_
                    refine VO.c (.assign rfl) ?_
                    refine VO.go ?_
                    refine VC.ret ?_
                    exact VEnd.one rfl evT (pvE (by first | rfl | exact absurd ((fA c12).symm.trans g19_5) (by decide) | exact absurd ((fA' c12).symm.trans g19_5) (by decide) | exact absurd ((fB c14).symm.trans g19_12) (by decide) | exact absurd ((fB' c14).symm.trans g19_12) (by decide) | exact absurd (fS c14) g19_17 | exact absurd (fS' c14) g19_17 | exact absurd ((fL1 c14 c17).symm.trans g19_24) (by decide) | exact absurd ((fL2 c14 c17).symm.trans g19_24) (by decide) | exact absurd ((fL' c14).symm.trans g19_24) (by decide)))
                  · refine VO.skip ?_
                    refine VO.c (.pickF rfl rfl) ?_
                    refine VO.c (.assign rfl) ?_
                    refine VO.go ?_
                    refine VC.ret ?_
                    exact VEnd.one rfl evT (pvE (by first | rfl | exact absurd ((fA c12).symm.trans g19_5) (by decide) | exact absurd ((fA' c12).symm.trans g19_5) (by decide) | exact absurd ((fB c14).symm.trans g19_12) (by decide) | exact absurd ((fB' c14).symm.trans g19_12) (by decide) | exact absurd (fS c14) g19_17 | exact absurd (fS' c14) g19_17 | exact absurd ((fL1 c14 c17).symm.trans g19_24) (by decide) | exact absurd ((fL2 c14 c17).symm.trans g19_24) (by decide) | exact absurd ((fL' c14).symm.trans g19_24) (by decide)))
                · refine VO.skip ?_
                  refine VO.skip ?_
                  refine VO.skip ?_
                  refine VO.skip ?_
                  refine VO.skip ?_
                  refine VO.c (.pickF rfl rfl) ?_
                  refine VO.c (.move rfl) ?_
                  refine VO.skip ?_
                  refine VO.c (.pickF rfl rfl) ?_
                  refine VO.c (.assign rfl) ?_
                  refine VO.go ?_
                  refine VC.ret ?_
                  exact VEnd.one rfl evT (pvE (by first | rfl | exact absurd ((fA c12).symm.trans g19_5) (by decide) | exact absurd ((fA' c12).symm.trans g19_5) (by decide) | exact absurd ((fB c14).symm.trans g19_12) (by decide) | exact absurd ((fB' c14).symm.trans g19_12) (by decide) | exact absurd (fS c14) g19_17 | exact absurd (fS' c14) g19_17 | exact absurd ((fL1 c14 c17).symm.trans g19_24) (by decide) | exact absurd ((fL2 c14 c17).symm.trans g19_24) (by decide) | exact absurd ((fL' c14).symm.trans g19_24) (by decide)))
              · refine VO.skip ?_
                refine VO.skip ?_
                refine VO.skip ?_
                refine VO.c (.pickF rfl rfl) ?_
                refine VO.c (.move rfl) ?_
                refine VO.skip ?_
                refine VO.skip ?_
                refine VO.skip ?_
                refine VO.skip ?_
                refine VO.skip ?_
                refine VO.c (.pickF rfl rfl) ?_
                refine VO.c (.move rfl) ?_
                refine VO.skip ?_
                refine VO.c (.pickF rfl rfl) ?_
                refine VO.c (.assign rfl) ?_
                refine VO.go ?_
                refine VC.ret ?_
                exact VEnd.one rfl evT (pvE (by first | rfl | exact absurd ((fA c12).symm.trans g19_5) (by decide) | exact absurd ((fA' c12).symm.trans g19_5) (by decide) | exact absurd ((fB c14).symm.trans g19_12) (by decide) | exact absurd ((fB' c14).symm.trans g19_12) (by decide) | exact absurd (fS c14) g19_17 | exact absurd (fS' c14) g19_17 | exact absurd ((fL1 c14 c17).symm.trans g19_24) (by decide) | exact absurd ((fL2 c14 c17).symm.trans g19_24) (by decide) | exact absurd ((fL' c14).symm.trans g19_24) (by decide)))
            · refine VO.skip ?_
              refine VO.skip ?_
              refine VO.skip ?_
              refine VO.skip ?_
              refine VO.skip ?_
              refine VO.c (.pickF rfl rfl) ?_
              refine VO.c (.move rfl) ?_
              refine VO.skip ?_
              refine VO.skip ?_
              refine VO.skip ?_
              refine VO.c (.pickF rfl rfl) ?_
              refine VO.c (.move rfl) ?_
              refine VO.skip ?_
              refine VO.skip ?_
              refine VO.skip ?_
              refine VO.skip ?_
              refine VO.skip ?_
              refine VO.c (.pickF rfl rfl) ?_
              refine VO.c (.move rfl) ?_
              refine VO.skip ?_
              refine VO.c (.pickF rfl rfl) ?_
              refine VO.c (.assign rfl) ?_
              refine VO.go ?_
              refine VC.ret ?_
              exact VEnd.one rfl evT (pvE (by first | rfl | exact absurd ((fA c12).symm.trans g19_5) (by decide) | exact absurd ((fA' c12).symm.trans g19_5) (by decide) | exact absurd ((fB c14).symm.trans g19_12) (by decide) | exact absurd ((fB' c14).symm.trans g19_12) (by decide) | exact absurd (fS c14) g19_17 | exact absurd (fS' c14) g19_17 | exact absurd ((fL1 c14 c17).symm.trans g19_24) (by decide) | exact absurd ((fL2 c14 c17).symm.trans g19_24) (by decide) | exact absurd ((fL' c14).symm.trans g19_24) (by decide)))
          · refine VC.skip ?_
            show VC _ _ _ _ _ _ _ _
            refine VC.seq ?_
            refine VC.text ?_
            refine VO.c (.move rfl) ?_
            refine VO.c (.move rfl) ?_
            refine VO.c (.move rfl) ?_
            refine VO.c (.move rfl) ?_
            refine VO.callC rfl rfl .same (.cons .same (.cons .same (.cons .same (.cons .nil .nil)))) rfl (VF.call (lList_ok hcl)) ?_
            refine VO.c (.move rfl) ?_
            refine VO.splitB (x := 90) rfl (fun g19_5 => ?_) (fun g19_5 => ?_)
            · refine VO.c (.move rfl) ?_
              refine VO.c (.move rfl) ?_
              refine VO.c (.move rfl) ?_
              refine VO.c (.move rfl) ?_
              refine VO.call rfl rfl (VF.call (lNumber_ok )) ?_
              refine VO.c (.pickT rfl rfl) ?_
              refine VO.c (.move rfl) ?_
              refine VO.splitB (x := 97) rfl (fun g19_12 => ?_) (fun g19_12 => ?_)
              · refine VO.r (.ld vt141) ?_
                refine VO.r (.ld vt145) ?_
                refine VO.c (.eeql eq145) ?_
                refine VO.c (.pickT rfl rfl) ?_
                refine VO.c (.move rfl) ?_
                refine VO.splitD (x := 102) rfl (fun g19_17 => ?_) (fun g19_17 => ?_)
                · refine VO.c (.move rfl) ?_
                  refine VO.c (.move rfl) ?_
                  refine VO.c (.move rfl) ?_
                  refine VO.c (.move rfl) ?_
                  refine VO.call rfl rfl (VF.call (lNumber_ok )) ?_
                  refine VO.c (.pickT rfl rfl) ?_
                  refine VO.c (.move rfl) ?_
                  refine VO.splitB (x := 109) rfl (fun g19_24 => ?_) (fun g19_24 => ?_)
                  · refine VO.call rfl rfl (VF.call (awake_ok )) ?_
                    refine VO.c (.pickT rfl rfl) ?_
                    refine VO.c (.assign rfl) ?_
                    refine VO.go ?_
                    refine VC.ret ?_
                    exact VEnd.one rfl evT (pvE (by first | rfl | exact absurd ((fA c12).symm.trans g19_5) (by decide) | exact absurd ((fA' c12).symm.trans g19_5) (by decide) | exact absurd ((fB c14).symm.trans g19_12) (by decide) | exact absurd ((fB' c14).symm.trans g19_12) (by decide) | exact absurd (fS c14) g19_17 | exact absurd (fS' c14) g19_17 | exact absurd ((fL1 c14 c17).symm.trans g19_24) (by decide) | exact absurd ((fL2 c14 c17).symm.trans g19_24) (by decide) | exact absurd ((fL' c14).symm.trans g19_24) (by decide)))
                  · refine VO.skip ?_
                    refine VO.c (.pickF rfl rfl) ?_
                    refine VO.c (.assign rfl) ?_
                    refine VO.go ?_
                    refine VC.ret ?_
                    exact VEnd.one rfl evT (pvE (by first | rfl | exact absurd ((fA c12).symm.trans g19_5) (by decide) | exact absurd ((fA' c12).symm.trans g19_5) (by decide) | exact absurd ((fB c14).symm.trans g19_12) (by decide) | exact absurd ((fB' c14).symm.trans g19_12) (by decide) | exact absurd (fS c14) g19_17 | exact absurd (fS' c14) g19_17 | exact absurd ((fL1 c14 c17).symm.trans g19_24) (by decide) | exact absurd ((fL2 c14 c17).symm.trans g19_24) (by decide) | exact absurd ((fL' c14).symm.trans g19_24) (by decide)))
                · refine VO.skip ?_
                  refine VO.skip ?_
                  refine VO.skip ?_
                  refine VO.skip ?_
                  refine VO.skip ?_
                  refine VO.c (.pickF rfl rfl) ?_
                  refine VO.c (.move rfl) ?_
                  refine VO.skip ?_
                  refine VO.c (.pickF rfl rfl) ?_
                  refine VO.c (.assign rfl) ?_
                  refine VO.go ?_
                  refine VC.ret ?_
                  exact VEnd.one rfl evT (pvE (by first | rfl | exact absurd ((fA c12).symm.trans g19_5) (by decide) | exact absurd ((fA' c12).symm.trans g19_5) (by decide) | exact absurd ((fB c14).symm.trans g19_12) (by decide) | exact absurd ((fB' c14).symm.trans g19_12) (by decide) | exact absurd (fS c14) g19_17 | exact absurd (fS' c14) g19_17 | exact absurd ((fL1 c14 c17).symm.trans g19_24) (by decide) | exact absurd ((fL2 c14 c17).symm.trans g19_24) (by decide) | exact absurd ((fL' c14).symm.trans g19_24) (by decide)))
              · refine VO.skip ?_
                refine VO.skip ?_
                refine VO.skip ?_
                refine VO.c (.pickF rfl rfl) ?_
                refine VO.c (.move rfl) ?_
                refine VO.skip ?_
                refine VO.skip ?_
                refine VO.skip ?_
                refine VO.skip ?_
                refine VO.skip ?_
                refine VO.c (.pickF rfl rfl) ?_
                refine VO.c (.move rfl) ?_
                refine VO.skip ?_
                refine VO.c (.pickF rfl rfl) ?_
                refine VO.c (.assign rfl) ?_
                refine VO.go ?_
                refine VC.ret ?_
                exact VEnd.one rfl evT (pvE (by first | rfl | exact absurd ((fA c12).symm.trans g19_5) (by decide) | exact absurd ((fA' c12).symm.trans g19_5) (by decide) | exact absurd ((fB c14).symm.trans g19_12) (by decide) | exact absurd ((fB' c14).symm.trans g19_12) (by decide) | exact absurd (fS c14) g19_17 | exact absurd (fS' c14) g19_17 | exact absurd ((fL1 c14 c17).symm.trans g19_24) (by decide) | exact absurd ((fL2 c14 c17).symm.trans g19_24) (by decide) | exact absurd ((fL' c14).symm.trans g19_24) (by decide)))
            · refine VO.skip ?_
              refine VO.skip ?_
              refine VO.skip ?_
              refine VO.skip ?_
              refine VO.skip ?_
              refine VO.c (.pickF rfl rfl) ?_
              refine VO.c (.move rfl) ?_
              refine VO.skip ?_
              refine VO.skip ?_
              refine VO.skip ?_
              refine VO.c (.pickF rfl rfl) ?_
              refine VO.c (.move rfl) ?_
              refine VO.skip ?_
              refine VO.skip ?_
              refine VO.skip ?_
              refine VO.skip ?_
              refine VO.skip ?_
              refine VO.c (.pickF rfl rfl) ?_
              refine VO.c (.move rfl) ?_
              refine VO.skip ?_
              refine VO.c (.pickF rfl rfl) ?_
              refine VO.c (.assign rfl) ?_
              refine VO.go ?_
              refine VC.ret ?_
              exact VEnd.one rfl evT (pvE (by first | rfl | exact absurd ((fA c12).symm.trans g19_5) (by decide) | exact absurd ((fA' c12).symm.trans g19_5) (by decide) | exact absurd ((fB c14).symm.trans g19_12) (by decide) | exact absurd ((fB' c14).symm.trans g19_12) (by decide) | exact absurd (fS c14) g19_17 | exact absurd (fS' c14) g19_17 | exact absurd ((fL1 c14 c17).symm.trans g19_24) (by decide) | exact absurd ((fL2 c14 c17).symm.trans g19_24) (by decide) | exact absurd ((fL' c14).symm.trans g19_24) (by decide)))
        · refine VC.skip ?_
          show VC _ _ _ _ _ _ _ _
          refine VC.seq ?_
          refine VC.keep [(7, .v y22 ((runsV d l).1)), (8, I ((runsV d l).2)), (9, I ((missV d l n).1)), (10, .p y141 ((missV d l n).2.1)), (11, I ((missV d l n).2.2)), (12, I ((latV d l n).1)), (13, I ((latV d l n).2)), (14, I (storeE d l)), (15, I (fieldA d l n)), (16, I (fieldA d l n)), (17, nilV), (18, I (0 : Int)), (19, I (0 : Int)), (20, .raw ww2)] ⟨rfl, rfl, rfl, rfl, rfl, rfl, rfl, rfl, rfl, rfl, rfl, rfl, rfl, rfl, trivial⟩ ?_
          refine VC.text ?_
          refine VO.c (.move rfl) ?_
          refine VO.c (.move rfl) ?_
          refine VO.c (.move rfl) ?_
          refine VO.c (.move rfl) ?_
          refine VO.callC rfl rfl .same (.cons .same (.cons .same (.cons .same (.cons .nil .nil)))) rfl (VF.call (lList_ok hcl)) ?_
          refine VO.c (.move rfl) ?_
          refine VO.splitB (x := 90) rfl (fun g19_5 => ?_) (fun g19_5 => ?_)
          · refine VO.c (.move rfl) ?_
            refine VO.c (.move rfl) ?_
            refine VO.c (.move rfl) ?_
            refine VO.c (.move rfl) ?_
            refine VO.call rfl rfl (VF.call (lNumber_ok )) ?_
            refine VO.c (.pickT rfl rfl) ?_
            refine VO.c (.move rfl) ?_
            refine VO.splitB (x := 97) rfl (fun g19_12 => ?_) (fun g19_12 => ?_)
            · refine VO.r (.ld vt141) ?_
              refine VO.r (.ldA (dx := (ByteArray.empty, (0 : Int), (0 : Int))) m0 vt145) ?_
              refine VO.c (.eeql eq145) ?_
              refine VO.c (.pickT rfl rfl) ?_
              refine VO.c (.move rfl) ?_
              refine VO.splitD (x := 102) rfl (fun g19_17 => ?_) (fun g19_17 => ?_)
              · refine VO.c (.move rfl) ?_
                refine VO.c (.move rfl) ?_
                refine VO.c (.move rfl) ?_
                refine VO.c (.move rfl) ?_
                refine VO.call rfl rfl (VF.call (lNumber_ok )) ?_
                refine VO.c (.pickT rfl rfl) ?_
                refine VO.c (.move rfl) ?_
                refine VO.splitB (x := 109) rfl (fun g19_24 => ?_) (fun g19_24 => ?_)
                · refine VO.call rfl rfl (VF.call (awake_ok )) ?_
                  refine VO.c (.pickT rfl rfl) ?_
                  refine VO.c (.assign rfl) ?_
                  refine VO.go ?_
                  refine VC.ret ?_
                  exact VEnd.one rfl evT (pvE (by first | rfl | exact absurd ((fA c12).symm.trans g19_5) (by decide) | exact absurd ((fA' c12).symm.trans g19_5) (by decide) | exact absurd ((fB c14).symm.trans g19_12) (by decide) | exact absurd ((fB' c14).symm.trans g19_12) (by decide) | exact absurd (fS c14) g19_17 | exact absurd (fS' c14) g19_17 | exact absurd ((fL1 c14 c17).symm.trans g19_24) (by decide) | exact absurd ((fL2 c14 c17).symm.trans g19_24) (by decide) | exact absurd ((fL' c14).symm.trans g19_24) (by decide)))
                · refine VO.skip ?_
                  refine VO.c (.pickF rfl rfl) ?_
                  refine VO.c (.assign rfl) ?_
                  refine VO.go ?_
                  refine VC.ret ?_
                  exact VEnd.one rfl evT (pvE (by first | rfl | exact absurd ((fA c12).symm.trans g19_5) (by decide) | exact absurd ((fA' c12).symm.trans g19_5) (by decide) | exact absurd ((fB c14).symm.trans g19_12) (by decide) | exact absurd ((fB' c14).symm.trans g19_12) (by decide) | exact absurd (fS c14) g19_17 | exact absurd (fS' c14) g19_17 | exact absurd ((fL1 c14 c17).symm.trans g19_24) (by decide) | exact absurd ((fL2 c14 c17).symm.trans g19_24) (by decide) | exact absurd ((fL' c14).symm.trans g19_24) (by decide)))
              · refine VO.skip ?_
                refine VO.skip ?_
                refine VO.skip ?_
                refine VO.skip ?_
                refine VO.skip ?_
                refine VO.c (.pickF rfl rfl) ?_
                refine VO.c (.move rfl) ?_
                refine VO.skip ?_
                refine VO.c (.pickF rfl rfl) ?_
                refine VO.c (.assign rfl) ?_
                refine VO.go ?_
                refine VC.ret ?_
                exact VEnd.one rfl evT (pvE (by first | rfl | exact absurd ((fA c12).symm.trans g19_5) (by decide) | exact absurd ((fA' c12).symm.trans g19_5) (by decide) | exact absurd ((fB c14).symm.trans g19_12) (by decide) | exact absurd ((fB' c14).symm.trans g19_12) (by decide) | exact absurd (fS c14) g19_17 | exact absurd (fS' c14) g19_17 | exact absurd ((fL1 c14 c17).symm.trans g19_24) (by decide) | exact absurd ((fL2 c14 c17).symm.trans g19_24) (by decide) | exact absurd ((fL' c14).symm.trans g19_24) (by decide)))
            · refine VO.skip ?_
              refine VO.skip ?_
              refine VO.skip ?_
              refine VO.c (.pickF rfl rfl) ?_
              refine VO.c (.move rfl) ?_
              refine VO.skip ?_
              refine VO.skip ?_
              refine VO.skip ?_
              refine VO.skip ?_
              refine VO.skip ?_
              refine VO.c (.pickF rfl rfl) ?_
              refine VO.c (.move rfl) ?_
              refine VO.skip ?_
              refine VO.c (.pickF rfl rfl) ?_
              refine VO.c (.assign rfl) ?_
              refine VO.go ?_
              refine VC.ret ?_
              exact VEnd.one rfl evT (pvE (by first | rfl | exact absurd ((fA c12).symm.trans g19_5) (by decide) | exact absurd ((fA' c12).symm.trans g19_5) (by decide) | exact absurd ((fB c14).symm.trans g19_12) (by decide) | exact absurd ((fB' c14).symm.trans g19_12) (by decide) | exact absurd (fS c14) g19_17 | exact absurd (fS' c14) g19_17 | exact absurd ((fL1 c14 c17).symm.trans g19_24) (by decide) | exact absurd ((fL2 c14 c17).symm.trans g19_24) (by decide) | exact absurd ((fL' c14).symm.trans g19_24) (by decide)))
          · refine VO.skip ?_
            refine VO.skip ?_
            refine VO.skip ?_
            refine VO.skip ?_
            refine VO.skip ?_
            refine VO.c (.pickF rfl rfl) ?_
            refine VO.c (.move rfl) ?_
            refine VO.skip ?_
            refine VO.skip ?_
            refine VO.skip ?_
            refine VO.c (.pickF rfl rfl) ?_
            refine VO.c (.move rfl) ?_
            refine VO.skip ?_
            refine VO.skip ?_
            refine VO.skip ?_
            refine VO.skip ?_
            refine VO.skip ?_
            refine VO.c (.pickF rfl rfl) ?_
            refine VO.c (.move rfl) ?_
            refine VO.skip ?_
            refine VO.c (.pickF rfl rfl) ?_
            refine VO.c (.assign rfl) ?_
            refine VO.go ?_
            refine VC.ret ?_
            exact VEnd.one rfl evT (pvE (by first | rfl | exact absurd ((fA c12).symm.trans g19_5) (by decide) | exact absurd ((fA' c12).symm.trans g19_5) (by decide) | exact absurd ((fB c14).symm.trans g19_12) (by decide) | exact absurd ((fB' c14).symm.trans g19_12) (by decide) | exact absurd (fS c14) g19_17 | exact absurd (fS' c14) g19_17 | exact absurd ((fL1 c14 c17).symm.trans g19_24) (by decide) | exact absurd ((fL2 c14 c17).symm.trans g19_24) (by decide) | exact absurd ((fL' c14).symm.trans g19_24) (by decide)))
end Go.Proofs
