/- Parts of the proof: an evaluator of the model, what it is sound for, and contracts of functions. No condition. -/
import Derived.Test.YtlkhimnkbboedaaGreatDoorP6
import Derived.Test.YtlkhimnkbboedaaGreatDoorP5
set_option linter.all false
namespace Go.Proofs
open Go.Fs Ieee
abbrev y25 : Ty := (.sl (.pair (.int .i64) (.pair .str (.pair (.int .i64) (.pair (.int .i64) (.sl (.flt .f32)))))))
abbrev y45 : Ty := (.pair (.int .i64) (.pair .str (.pair (.int .i64) (.pair (.int .i64) (.sl (.flt .f32))))))
theorem vt24 : ValT Tryz.prog 24 y24 := valT_of (by kernel_rfl)
theorem vt45 : ValT Tryz.prog 45 y45 := valT_of (by kernel_rfl)
theorem el25 : ElT Tryz.prog 25 45 y45 := elT_of (by kernel_rfl)
theorem idx_none {l : Mems} {x : ByteArray} : ∀ (i : Nat), mget (idxM l i) x = none → ∀ k, k < i → nmE l k ≠ x
  | 0, _, k, hk => by omega
  | i + 1, h, k, hk => by
    rw [idxM, mget_mset] at h; split at h
    · cases h
    rename_i hx; rcases Nat.lt_succ_iff_lt_or_eq.1 hk with h3 | h3
    · exact idx_none i h k h3
    subst h3; exact fun e => hx e.symm
theorem idx_some {l : Mems} {x : ByteArray} {v : Int} : ∀ (i : Nat), mget (idxM l i) x = some v → ∃ k, k < i ∧ v = (k : Int) ∧ nmE l k = x
  | 0, h => by cases h
  | i + 1, h => by
    rw [idxM, mget_mset] at h; split at h
    · rename_i hx; injection h with h; exact ⟨i, by omega, h.symm, hx.symm⟩
    obtain ⟨k, h1, h2, h3⟩ := idx_some i h; exact ⟨k, by omega, h2, h3⟩
theorem mem_dist {l : Mems} {i k : Nat} (h : memE l i = 0) (hk : k < i) : nmE l k ≠ nmE l i := fun e => by
  unfold memE at h; rw [firstE_zero] at h; have h1 := h _ (List.mem_cons_of_mem _ (List.mem_cons_of_mem _ List.mem_cons_self)); rw [(known_iff i).2 ⟨k, hk, e⟩] at h1; cases h1
theorem hasM_eq {d : Dom} (hd : domE d = 0) (x : ByteArray) : hasM d x = if memAt d.2.2.2 x < 0 then none else some (memAt d.2.2.2 x) := by
  obtain ⟨_, _, _, _, _, hz⟩ := dom_ok hd
  cases hg : hasM d x with
  | none =>
    have h1 := idx_none _ hg; rw [← memAt_none fun k hk => by rw [nmE_eq hk]; exact h1 k hk]
    rfl
  | some v =>
    obtain ⟨k, hk, hv, hn⟩ := idx_some _ hg; rw [← memAt_some hk (by rw [nmE_eq hk]; exact hn) fun j hj => by rw [nmE_eq (by omega), ← hn]; exact mem_dist (hz k hk) hj]; rw [if_neg (by omega), hv]
theorem pcPre_eq {d : Dom} {p : Pc} (hd : domE d = 0) : pcPre d p = if rangeE p.1 0 100000 ≠ 0 then rangeE p.1 0 100000 else if memAt d.2.2.2 p.2.1 < 0 then 10 else if firstE [rangeE p.2.2.1 0 (d.2.2.1 - 1), rangeE p.2.2.2.1 0 (d.1 - 1)] ≠ 0 then firstE [rangeE p.2.2.1 0 (d.2.2.1 - 1), rangeE p.2.2.2.1 0 (d.1 - 1)] else if (p.2.2.2.2.length : Int) ≠ d.2.1 then 2 else 0 := by
  have e : pcPre d p = firstE ([rangeE p.1 0 100000] ++ ([whenE (!(hasM d p.2.1).isSome) 10] ++ ([rangeE p.2.2.1 0 (d.2.2.1 - 1), rangeE p.2.2.2.1 0 (d.1 - 1)] ++ [whenE (decide ((p.2.2.2.2.length : Int) ≠ d.2.1)) 2]))) := rfl; rw [e, firstE_app, firstE_one]; by_cases h1 : rangeE p.1 0 100000 = 0
  · rw [if_pos h1, if_neg (by simpa using h1), firstE_app, firstE_one, hasM_eq hd]; by_cases h2 : memAt d.2.2.2 p.2.1 < 0
    · rw [if_pos h2, if_pos h2] <;> rfl
    rw [if_neg h2, if_neg h2]; show firstE _ = _; rw [firstE_app]; by_cases h3 : firstE [rangeE p.2.2.1 0 (d.2.2.1 - 1), rangeE p.2.2.2.1 0 (d.1 - 1)] = 0
    · rw [if_pos h3, if_neg (by simpa using h3), firstE_one]; by_cases h4 : (p.2.2.2.2.length : Int) ≠ d.2.1
      · rw [whenE_t h4, if_pos h4]
      rw [whenE_f h4, if_neg h4]
    rw [if_neg h3, if_pos h3]
  rw [if_neg h1, if_pos h1]
theorem rPc_ok {d : Int × Int × Int × (List (ByteArray × Int))} {p : Int × ByteArray × Int × Int × (List Nat)} (hd : domE d = 0) (hv : p.2.2.2.2.length < 100000) : VF Tryz.prog OA 19 [.v y24 d, .v y45 p] (I (pcE d p)) := by
  refine VF.enter Tryz.func19 rfl (fun _ _ => rfl) rfl ?_; show VC _ _ _ _ _ [(0, .v y24 d), (1, .v y45 p)] [] _; refine VC.seq (VC.text ?_); have hdd := dom_ok hd; have hq := pcPre_eq (p := p) hd; refine VO.new (.box) ?_; refine VO.new (.box) ?_; refine VO.c (.assign rfl) ?_; refine VO.go (VC.seq (VC.seq (VC.text ?_))); refine VO.c (.fa (.l .o)) ?_; refine VO.r (.ld vt3) ?_; refine VO.call rfl rfl (VF.call (rCheckRange_ok )) ?_; refine VO.c (.assign rfl) ?_; refine VO.go (VC.seq (VC.text ?_)); refine VO.c (.move rfl) (VO.c (.neq) (VO.go ?_)); refine VC.condD rfl (fun c2 => ?_) (fun c2 => ?_)
  · have hn : pcPre d p ≠ 0 := by rw [hq, if_pos c2]; exact c2
    refine VC.seq (VC.text ?_); refine VO.c (.move rfl) (VO.c (.assign rfl) (VO.go ?_)); refine VC.ret ?_; exact VEnd.one rfl evT (pvI (by rw [pcE, if_neg hn, hq, if_pos c2]))
  have c2' : rangeE p.1 0 100000 = 0 := by simpa using c2
  refine VC.skip (VC.seq (VC.seq (VC.text ?_))); refine VO.r (.ld vt24) ?_; refine VO.c (.fa (.r (.l .o))) ?_; refine VO.r (.ld vt9) ?_; refine VO.call rfl rfl (VF.call (rMemAt_ok (by omega))) ?_; refine VO.c (.lss) (VO.go ?_); refine VC.condD rfl (fun c4 => ?_) (fun c4 => ?_)
  · have hn : pcPre d p = 10 := by rw [hq, if_neg c2, if_pos c4]
    refine VC.seq (VC.text ?_); refine VO.c (.assign rfl) (VO.go ?_); refine VC.ret ?_; exact VEnd.one rfl evT (pvI (by rw [pcE, hn, if_neg (by decide)]))
  refine VC.skip (VC.seq (VC.seq (VC.drawn ?_))); refine VD.c (.fa (.r (.r (.l .o)))) ?_; refine VD.r [] (.ld vt3) (.inl rfl) ?_; refine VD.c (.fa (.r (.r (.l .o)))) ?_; refine VD.r [] (.ld vt3) (.inl rfl) ?_; refine VD.c (.sub rfl rfl (by omega)) ?_; refine VD.call rfl rfl (VF.call (rCheckRange_ok )) ?_; refine VD.nw [] (VD.c (.fa (.r (.r (.r (.l .o))))) ?_); refine VD.r [] (.ld vt3) (.inl rfl) ?_; refine VD.c (.fa (.l .o)) ?_; refine VD.r [] (.ld vt3) (.inl rfl) ?_; refine VD.c (.sub rfl rfl (by omega)) ?_; refine VD.call rfl rfl (VF.call (rCheckRange_ok )) ?_; refine VD.new (.lit [rangeE p.2.2.1 (0 : Int) (d.2.2.1 - (1 : Int)), rangeE p.2.2.2.1 (0 : Int) (d.1 - (1 : Int))] el31) ?_; refine VD.nw [32] ?_; refine VD.callO rfl rfl (VF.call (rFirst_ok (by first | assumption | omega | simp))) ?_; refine VD.c (.assign rfl) ?_; refine VD.go (VC.seq (VC.text ?_)); refine VO.c (.move rfl) (VO.c (.neq) (VO.go ?_)); refine VC.condD rfl (fun c7 => ?_) (fun c7 => ?_)
  · have hn : pcPre d p = firstE [rangeE p.2.2.1 0 (d.2.2.1 - 1), rangeE p.2.2.2.1 0 (d.1 - 1)] := by rw [hq, if_neg c2, if_neg c4, if_pos c7]
    refine VC.seq ?_; refine VC.keep [(2, .p y24 d), (3, .p y45 p), (6, I (firstE [rangeE p.2.2.1 (0 : Int) (d.2.2.1 - (1 : Int)), rangeE p.2.2.2.1 (0 : Int) (d.1 - (1 : Int))]))] ⟨rfl, rfl, rfl, trivial⟩ ?_; refine VC.text ?_; refine VO.c (.move rfl) (VO.c (.assign rfl) (VO.go ?_)); refine VC.ret ?_; exact VEnd.one rfl evT (pvI (by rw [pcE, hn, if_neg c7]))
  refine VC.skip (VC.seq (VC.seq ?_)); refine VC.keep [(2, .p y24 d), (3, .p y45 p)] ⟨rfl, rfl, trivial⟩ ?_; refine VC.text ?_; refine VO.c (.fa (.r (.r (.r (.r .o))))) ?_; refine VO.r (.ld vt41) ?_; refine VO.r (.len el41) ?_; refine VO.c (.fa (.r (.l .o))) ?_; refine VO.r (.ld vt3) ?_; refine VO.c (.neq) (VO.go ?_); refine VC.condD rfl (fun c9 => ?_) (fun c9 => ?_)
  · have hn : pcPre d p = 2 := by rw [hq, if_neg c2, if_neg c4, if_neg c7, if_pos c9]
    refine VC.seq (VC.text ?_); refine VO.c (.assign rfl) (VO.go ?_); refine VC.ret ?_; exact VEnd.one rfl evT (pvI (by rw [pcE, hn, if_neg (by decide)]))
  have hn : pcPre d p = 0 := by rw [hq, if_neg c2, if_neg c4, if_neg c7, if_neg c9]
  refine VC.skip (VC.seq (VC.seq (VC.text ?_))); refine VO.c (.assign rfl) ?_; refine VO.go (VC.block ?_); refine VC.keep [(3, .p y45 p), (7, I ((0 : Nat) : Int))] ⟨rfl, rfl, trivial⟩ ?_; refine VC.loop (I := fun kk ff ss => ∃ (i : Nat), kk = p.2.2.2.2.length - i ∧ ff = [(3, .p y45 p), (7, I ((i : Nat) : Int))] ∧ ss = [] ∧ (i ≤ p.2.2.2.2.length) ∧ (firstE (p.2.2.2.2.map lvlE) = firstE ((p.2.2.2.2.drop i).map lvlE))) ?_ _ _ _ ⟨0, rfl, rfl, rfl, Nat.zero_le _, (by rfl)⟩; rintro kk ff ss ⟨i, hk0, rfl, rfl, hi, hf⟩; refine VC.seq (VC.seq (VC.text ?_)); refine VO.c (.move rfl) (VO.c (.fa (.r (.r (.r (.r .o))))) ?_); refine VO.r (.ld vt41) ?_; refine VO.r (.len el41) ?_; refine VO.c (.lss) (VO.go ?_); refine VC.condD rfl (fun c12 => ?_) (fun c12 => ?_)
  · refine VC.skip (VC.seq (VC.block (VC.seq (VC.text ?_)))); refine VO.c (.fa (.r (.r (.r (.r .o))))) ?_; refine VO.r (.ld vt41) ?_; refine VO.c (.move rfl) (VO.c (.ix (j := i) rfl rfl el41 (by omega)) ?_); refine VO.r (.ld vt54) ?_; refine VO.call rfl rfl (VF.call (rLv_ok )) ?_; refine VO.c (.assign rfl) ?_; refine VO.go (VC.seq (VC.text ?_)); refine VO.c (.move rfl) (VO.c (.neq) (VO.go ?_)); refine VC.condD rfl (fun c15 => ?_) (fun c15 => ?_)
    · refine VC.seq (VC.text ?_); refine VO.c (.move rfl) (VO.c (.assign rfl) (VO.go ?_)); refine VC.ret ?_; exact VEnd.one rfl evT (pvI (by rw [pcE, if_pos hn, hf, firstE_map_drop (by omega), if_neg c15]))
    refine VC.skip (VC.text ?_); refine VO.c (.move rfl) (VO.c (.add rfl rfl (by omega)) (VO.c (.assign rfl) ?_)); refine VO.nil ?_; refine ⟨_, [(3, .p y45 p), (7, I (((i + 1) : Nat) : Int))], ?_, ⟨rfl, rfl, trivial⟩, (i + 1), rfl, rfl, rfl, (by omega), (by rw [hf, firstE_map_drop (by omega), if_pos (by simpa using c15)])⟩; omega
  refine VC.exit (VC.seq (VC.text ?_)); refine VO.c (.assign rfl) (VO.go ?_); refine VC.ret ?_; exact VEnd.one rfl evT (pvI (by rw [pcE, if_pos hn, hf, firstE_map_end (by omega)]))
def befE (d : Dom) (a b : Pc) : Bool := if a.1 ≠ b.1 then decide (a.1 < b.1) else if memAt d.2.2.2 a.2.1 ≠ memAt d.2.2.2 b.2.1 then decide (memAt d.2.2.2 a.2.1 < memAt d.2.2.2 b.2.1) else if a.2.2.1 ≠ b.2.2.1 then decide (a.2.2.1 < b.2.2.1) else decide (a.2.2.2.1 < b.2.2.2.1)
theorem rBef_ok {d : Int × Int × Int × (List (ByteArray × Int))} {a : Int × ByteArray × Int × Int × (List Nat)} {b : Int × ByteArray × Int × Int × (List Nat)} (hd : d.2.2.2.length ≤ 16) : VF Tryz.prog OA 20 [.v y24 d, .v y45 a, .v y45 b] (B (befE d a b)) := by
  refine VF.enter Tryz.func20 rfl (fun _ _ => rfl) rfl ?_; show VC _ _ _ _ _ [(0, .v y24 d), (1, .v y45 a), (2, .v y45 b)] [] _; refine VC.seq (VC.text ?_); refine VO.new (.box) ?_; refine VO.new (.box) ?_; refine VO.new (.box) ?_; refine VO.c (.assign rfl) ?_; refine VO.go (VC.seq (VC.seq (VC.text ?_))); refine VO.c (.fa (.l .o)) ?_; refine VO.r (.ld vt3) ?_; refine VO.c (.fa (.l .o)) ?_; refine VO.r (.ld vt3) ?_; refine VO.c (.neq) (VO.go ?_); refine VC.condD rfl (fun c1 => ?_) (fun c1 => ?_)
  · refine VC.seq (VC.text ?_); refine VO.c (.fa (.l .o)) ?_; refine VO.r (.ld vt3) ?_; refine VO.c (.fa (.l .o)) ?_; refine VO.r (.ld vt3) ?_; refine VO.c (.lss) (VO.c (.assign rfl) (VO.go ?_)); refine VC.ret ?_; exact VEnd.one rfl evT (pvE (by rw [befE, if_pos c1]))
  refine VC.skip (VC.seq (VC.seq (VC.drawn ?_))); refine VD.r [] (.ld vt24) (.inl rfl) ?_; refine VD.c (.fa (.r (.l .o))) ?_; refine VD.r [] (.ld vt9) (.inl rfl) ?_; refine VD.call rfl rfl (VF.call (rMemAt_ok hd)) ?_; refine VD.r [] (.ld vt24) (.inl rfl) ?_; refine VD.c (.fa (.r (.l .o))) (VD.nw [] ?_); refine VD.r [] (.ld vt9) (.inl rfl) ?_; refine VD.call rfl rfl (VF.call (rMemAt_ok hd)) ?_; refine VD.c (.assign rfl) (VD.c (.assign rfl) ?_); refine VD.go (VC.seq (VC.text ?_)); refine VO.c (.move rfl) (VO.c (.move rfl) (VO.c (.neq) (VO.go ?_))); refine VC.condD rfl (fun c4 => ?_) (fun c4 => ?_)
  · refine VC.seq (VC.text ?_); refine VO.c (.move rfl) (VO.c (.move rfl) (VO.c (.lss) (VO.c (.assign rfl) ?_))); refine VO.go ?_; refine VC.ret ?_; exact VEnd.one rfl evT (pvE (by rw [befE, if_neg c1, if_pos c4]))
  refine VC.skip (VC.seq (VC.seq (VC.text ?_))); refine VO.c (.fa (.r (.r (.l .o)))) ?_; refine VO.r (.ld vt3) ?_; refine VO.c (.fa (.r (.r (.l .o)))) ?_; refine VO.r (.ld vt3) ?_; refine VO.c (.neq) (VO.go ?_); refine VC.condD rfl (fun c6 => ?_) (fun c6 => ?_)
  · refine VC.seq (VC.text ?_); refine VO.c (.fa (.r (.r (.l .o)))) ?_; refine VO.r (.ld vt3) ?_; refine VO.c (.fa (.r (.r (.l .o)))) ?_; refine VO.r (.ld vt3) ?_; refine VO.c (.lss) (VO.c (.assign rfl) (VO.go ?_)); refine VC.ret ?_; exact VEnd.one rfl evT (pvE (by rw [befE, if_neg c1, if_neg c4, if_pos c6]))
  refine VC.skip (VC.seq (VC.text ?_)); refine VO.c (.fa (.r (.r (.r (.l .o))))) ?_; refine VO.r (.ld vt3) ?_; refine VO.c (.fa (.r (.r (.r (.l .o))))) ?_; refine VO.r (.ld vt3) ?_; refine VO.c (.lss) (VO.c (.assign rfl) (VO.go ?_)); refine VC.ret ?_; exact VEnd.one rfl evT (pvE (by rw [befE, if_neg c1, if_neg c4, if_neg c6]))
theorem cmpI_lt {a b : Int} (h : a < b) : cmpI a b = -1 := by rw [cmpI, if_pos h]
theorem cmpI_eq {a b : Int} (h : a = b) : cmpI a b = 0 := by rw [cmpI, if_neg (by omega), if_neg (by omega)]
theorem cmpI_gt {a b : Int} (h : b < a) : cmpI a b = 1 := by rw [cmpI, if_neg (by omega), if_pos h]
theorem firstE_cmp {a b : Int} {r : List Int} : (0 ≤ firstE (cmpI a b :: r)) = (b < a ∨ a = b ∧ 0 ≤ firstE r) := by
  rcases Int.lt_trichotomy a b with h | h | h
  · rw [cmpI_lt h]; refine propext ⟨fun hh => by simp [firstE] at hh, fun hh => by omega⟩
  · rw [cmpI_eq h]; refine propext ⟨fun hh => .inr ⟨h, by simpa [firstE] using hh⟩, fun hh => ?_⟩; rcases hh with hh | hh
    · omega
    simpa [firstE] using hh.2
  rw [cmpI_gt h]; exact propext ⟨fun _ => .inl h, fun _ => by simp [firstE]⟩
theorem pc_known {d : Dom} {p : Pc} (hd : domE d = 0) (h : pcE d p = 0) : (hasM d p.2.1).getD 0 = memAt d.2.2.2 p.2.1 := by
  have h1 : pcPre d p = 0 := by
    unfold pcE at h; split at h
    · assumption
    contradiction
  rw [pcPre_eq hd] at h1; split at h1
  · contradiction
  split at h1
  · cases h1
  rename_i h2; rw [hasM_eq hd, if_neg h2] <;> rfl
theorem cmp_bef {d : Dom} {a b : Pc} (hd : domE d = 0) (ha : pcE d a = 0) (hb : pcE d b = 0) : decide (0 ≤ cmpP (plE d a) (plE d b)) = !befE d a b := by
  have e1 := pc_known hd ha; have e2 := pc_known hd hb; rw [Bool.eq_iff_iff, decide_eq_true_iff]; unfold cmpP plE befE; simp only [firstE_cmp, e1, e2]
  have e3 : 0 ≤ firstE [] := by decide
  generalize memAt d.2.2.2 a.2.1 = u; generalize memAt d.2.2.2 b.2.1 = v; by_cases h1 : a.1 ≠ b.1
  · rw [if_pos h1]; simp; omega
  rw [if_neg h1]; by_cases h2 : u ≠ v
  · rw [if_pos h2]; simp; omega
  rw [if_neg h2]; by_cases h3 : a.2.2.1 ≠ b.2.2.1
  · rw [if_pos h3]; simp; omega
  rw [if_neg h3]; simp [e3]; omega
theorem piece_ne {d : Dom} {l : List Pc} {i : Nat} (h : pcE d (pcA l i) ≠ 0) : pieceE d l i = pcE d (pcA l i) := by
  rw [pieceE, firstE, if_neg h]
theorem piece_z {d : Dom} {l : List Pc} {i : Nat} (h : pcE d (pcA l i) = 0) : pieceE d l i = whenE (decide (0 < i) && decide (0 ≤ cmpP (plE d (pcA l (i - 1))) (plE d (pcA l i)))) 11 := by
  rw [pieceE, show ∀ x y : Int, firstE [x, y] = firstE ([x] ++ [y]) from fun _ _ => rfl, firstE_app, firstE_one, if_pos h, firstE_one]
theorem piece_zero {d : Dom} {l : List Pc} {i : Nat} (h : pieceE d l i = 0) : pcE d (pcA l i) = 0 := by
  unfold pieceE at h; rw [firstE_zero] at h; exact h _ List.mem_cons_self
theorem storeP_eq {d : Dom} {l : List Pc} : storeP d l = if domE d ≠ 0 then domE d else if (4096 : Int) < l.length then 5 else 0 := by
  rw [storeP, show ∀ x y : Int, firstE [x, y] = firstE ([x] ++ [y]) from fun _ _ => rfl, firstE_app, firstE_one, firstE_one]; by_cases h : domE d = 0
  · rw [if_pos h, if_neg (by simpa using h)]; by_cases h2 : (4096 : Int) < l.length
    · rw [whenE_t h2, if_pos h2]
    rw [whenE_f h2, if_neg h2]
  rw [if_neg h, if_pos h]
theorem bef_i {d : Dom} {l : List Pc} {i j : Nat} (h : j < l.length) (hi : i < l.length) (e : j = i - 1) : befE d l[j] l[i] = befE d (pcA l (i - 1)) (pcA l i) := by
  subst e; rw [pcA_eq, pcA_eq]
theorem rStore_ok {d : Int × Int × Int × (List (ByteArray × Int))} {l : List (Int × ByteArray × Int × Int × (List Nat))} (hl : l.length < 100000) (hv : ∀ p ∈ l, p.2.2.2.2.length < 100000) : VF Tryz.prog OA 6 [.v y24 d, .v y25 l] (I (storeE d l)) := by
  refine VF.enter Tryz.func6 rfl (fun _ _ => rfl) rfl ?_; show VC _ _ _ _ _ [(0, .v y24 d), (1, .v y25 l)] [] _; refine VC.seq (VC.text ?_); refine VO.new (.box) ?_; refine VO.c (.assign rfl) ?_; refine VO.go (VC.seq (VC.seq (VC.text ?_))); refine VO.r (.ld vt24) ?_; refine VO.call rfl rfl (VF.call (rDom_ok )) ?_; refine VO.c (.assign rfl) ?_; refine VO.go (VC.seq (VC.text ?_)); refine VO.c (.move rfl) (VO.c (.neq) (VO.go ?_)); refine VC.condD rfl (fun c2 => ?_) (fun c2 => ?_)
  · have hn : storeP d l = domE d := by rw [storeP_eq, if_pos c2]
    refine VC.seq (VC.text ?_); refine VO.c (.move rfl) (VO.c (.assign rfl) (VO.go ?_)); refine VC.ret ?_; exact VEnd.one rfl evT (pvI (by rw [storeE, hn, if_neg c2]))
  have hd : domE d = 0 := by simpa using c2
  have hdd := dom_ok hd; refine VC.skip (VC.seq (VC.seq (VC.text ?_))); refine VO.c (.move rfl) ?_; refine VO.r (.len el25) ?_; refine VO.c (.gtr) (VO.go ?_); refine VC.condD rfl (fun c4 => ?_) (fun c4 => ?_)
  · have hn : storeP d l = 5 := by rw [storeP_eq, if_neg c2, if_pos c4]
    refine VC.seq (VC.text ?_); refine VO.c (.assign rfl) (VO.go ?_); refine VC.ret ?_; exact VEnd.one rfl evT (pvI (by rw [storeE, hn, if_neg (by decide)]))
  have hn : storeP d l = 0 := by rw [storeP_eq, if_neg c2, if_neg c4]
  refine VC.skip (VC.seq (VC.seq (VC.text ?_))); refine VO.c (.assign rfl) ?_; refine VO.go (VC.block ?_); refine VC.keep [(1, .v y25 l), (2, .p y24 d), (6, I ((0 : Nat) : Int))] ⟨rfl, rfl, rfl, trivial⟩ ?_; refine VC.loop (I := fun kk ff ss => ∃ (i : Nat), kk = l.length - i ∧ ff = [(1, .v y25 l), (2, .p y24 d), (6, I ((i : Nat) : Int))] ∧ ss = [] ∧ (i ≤ l.length) ∧ (∀ k, k < i → pieceE d l k = 0)) ?_ _ _ _ ⟨0, rfl, rfl, rfl, Nat.zero_le _, (by intro k hk; omega)⟩; rintro kk ff ss ⟨i, hk0, rfl, rfl, hi, hz⟩; refine VC.seq (VC.seq (VC.text ?_)); refine VO.c (.move rfl) (VO.c (.move rfl) ?_); refine VO.r (.len el25) ?_; refine VO.c (.lss) (VO.go ?_); refine VC.condD rfl (fun c7 => ?_) (fun c7 => ?_)
  · have hi' : i < l.length := by omega
    refine VC.skip (VC.seq (VC.block (VC.seq (VC.seq (VC.drawn ?_))))); refine VD.r [] (.ld vt24) (.inl rfl) ?_; refine VD.c (.move rfl) (VD.c (.move rfl) (VD.c (.ix (j := i) rfl rfl el25 (by omega)) ?_)); refine VD.r [] (.ld vt45) (.inl rfl) ?_; refine VD.call rfl rfl (VF.call (rPc_ok hd (hv _ (List.getElem_mem _)))) ?_; refine VD.nw [] (VD.c (.assign rfl) ?_); refine VD.go (VC.seq (VC.text ?_)); refine VO.c (.move rfl) (VO.c (.neq) (VO.go ?_)); refine VC.condD rfl (fun c10 => ?_) (fun c10 => ?_)
    · have c10' : pcE d (pcA l i) ≠ 0 := by rw [← pcA_eq hi']; exact c10
      refine VC.seq (VC.text ?_); refine VO.c (.move rfl) (VO.c (.assign rfl) (VO.go ?_)); refine VC.ret ?_; exact VEnd.one rfl evT (pvI (by rw [storeE, if_pos hn, ← firstE_range hi' hz (by rw [piece_ne c10']; exact c10'), piece_ne c10', pcA_eq hi']))
    have c10' : pcE d (pcA l i) = 0 := by rw [← pcA_eq hi']; simpa using c10
    refine VC.skip (VC.seq ?_); refine VC.join [(1, .v y25 l), (2, .p y24 d), (6, I ((i : Nat) : Int)), (46, B (decide (0 < i) && decide (0 ≤ cmpP (plE d (pcA l (i - 1))) (plE d (pcA l i)))))] [] ?_ ?_
    · skip
      refine VC.drawn ?_; refine VD.c (.move rfl) (VD.c (.gtr) (VD.c (.move rfl) ?_)); refine VD.splitD (x := 33) rfl (fun g12_2 => ?_) (fun g12_2 => ?_)
      · refine VD.r [] (.ld vt24) (.inl rfl) ?_; refine VD.c (.move rfl) (VD.nw [] (VD.c (.move rfl) (VD.c (.sub rfl rfl (by omega)) ?_))); refine VD.c (.ixZ (k := (((i : Nat) : Int) - (1 : Int))) rfl rfl el25 (by omega) (by omega)) ?_; refine VD.r [] (.ld vt45) (.inl rfl) ?_; refine VD.c (.move rfl) (VD.c (.move rfl) (VD.c (.ix (j := i) rfl rfl el25 (by omega)) (VD.nw [] ?_))); refine VD.r [] (.ld vt45) (.inl rfl) ?_; refine VD.call rfl rfl (VF.call (rBef_ok hdd.2.2.2.1)) ?_; refine VD.c (.not) (VD.c (.pickT rfl rfl) ?_); refine VD.nil ?_; exact ⟨⟨rfl, rfl, rfl, slE rfl (by first | (rw [cmp_bef hd (piece_zero (hz (i - 1) (by omega))) c10', decide_eq_true (show 0 < i by omega), Bool.true_and, bef_i _ _ (by omega)]) | (rw [decide_eq_false (by omega)]; rfl)), trivial⟩, rfl⟩
      refine VD.skip (VD.skip (VD.nw [] (VD.skip ?_))); refine VD.skip (VD.skip (VD.skip (VD.skip ?_))); refine VD.skip (VD.skip (VD.nw [] (VD.skip ?_))); refine VD.skip (VD.skip (VD.c (.pickF rfl rfl) ?_)); refine VD.nil ?_; exact ⟨⟨rfl, rfl, rfl, slE rfl (by first | (rw [cmp_bef hd (piece_zero (hz (i - 1) (by omega))) c10', decide_eq_true (show 0 < i by omega), Bool.true_and, bef_i _ _ (by omega)]) | (rw [decide_eq_false (by omega)]; rfl)), trivial⟩, rfl⟩
    refine VC.condB rfl (fun c12 => ?_) (fun c12 => ?_)
    · try simp only [Bool.and_eq_true, Bool.or_eq_true, Bool.and_eq_false_iff, Bool.or_eq_false_iff, Bool.not_eq_true', Bool.not_eq_false', decide_eq_true_eq, decide_eq_false_iff_not] at c12
      have c12' : (decide (0 < i) && decide (0 ≤ cmpP (plE d (pcA l (i - 1))) (plE d (pcA l i)))) = true := by rw [decide_eq_true c12.1, decide_eq_true c12.2] <;> rfl
      refine VC.seq (VC.text ?_); refine VO.c (.assign rfl) (VO.go ?_); refine VC.ret ?_; exact VEnd.one rfl evT (pvI (by rw [storeE, if_pos hn, ← firstE_range hi' hz (by rw [piece_z c10', c12']; decide), piece_z c10', c12'] <;> rfl))
    try simp only [Bool.and_eq_true, Bool.or_eq_true, Bool.and_eq_false_iff, Bool.or_eq_false_iff, Bool.not_eq_true', Bool.not_eq_false', decide_eq_true_eq, decide_eq_false_iff_not] at c12
    have c12' : (decide (0 < i) && decide (0 ≤ cmpP (plE d (pcA l (i - 1))) (plE d (pcA l i)))) = false := by rw [Bool.eq_false_iff]; simp only [ne_eq, Bool.and_eq_true, decide_eq_true_iff]; omega
    refine VC.skip (VC.text ?_); refine VO.c (.move rfl) (VO.c (.add rfl rfl (by omega)) (VO.c (.assign rfl) ?_)); refine VO.nil ?_; refine ⟨_, [(1, .v y25 l), (2, .p y24 d), (6, I (((i + 1) : Nat) : Int))], ?_, ⟨rfl, rfl, rfl, trivial⟩, (i + 1), rfl, rfl, rfl, (by omega), (by intro k hk; rcases Nat.lt_succ_iff_lt_or_eq.1 hk with h | h; exact hz k h; subst h; rw [piece_z c10', c12'] <;> rfl)⟩; omega
  refine VC.exit (VC.seq (VC.text ?_)); refine VO.c (.assign rfl) (VO.go ?_); refine VC.ret ?_; exact VEnd.one rfl evT (pvI (by rw [storeE, if_pos hn]; exact firstE_range0 (fun k hk => hz k (by omega))))
end Go.Proofs
namespace Go.Proofs
open Go.Fs Ieee
abbrev y51 : Ty := (.pair .str (.pair (.int .i64) (.int .i64)))
abbrev y136 : Ty := (.mp (.pair .str (.pair (.int .i64) (.int .i64))) (.pair (.int .i64) (.pair .str (.pair (.int .i64) (.pair (.int .i64) (.sl (.flt .f32)))))))
theorem vt51 : ValT Tryz.prog 51 y51 := valT_of (by kernel_rfl)
theorem zt51 : ZerT Tryz.prog 51 y51 := zerT_of (z := .agg #[.string ByteArray.empty, .int .i64 0, .int .i64 0]) (by kernel_rfl) rfl rfl
theorem bt51 : BldT Tryz.prog 51 y51 [(0, 1), (1, 1), (2, 1)] := bldT_of zt51 rfl (by kernel_rfl)
theorem eq51 : EqT Tryz.prog 51 y51 := eqT_of (by kernel_rfl)
theorem mt136 : MapT Tryz.prog 136 y51 y43 := ⟨51, 43, by kernel_rfl, keyAggB eq51 (by kernel_rfl) rfl rfl fun _ _ => by kernel_rfl, zt43⟩
abbrev Sl := ByteArray × Int × Int
def slotE (p : Pc) : Sl := (p.2.1, p.2.2.1, p.2.2.2.1)
def runM (l : List Pc) (n : Int) : Nat → List (Sl × Pc)
  | 0 => []
  | i + 1 => if (pcA l i).1 = n then mset (runM l n i) (slotE (pcA l i)) (pcA l i) else runM l n i
theorem sSlot_ok {p : Int × ByteArray × Int × Int × (List Nat)} : VF Tryz.prog OA 107 [.v y43 p] (.v y51 (slotE p)) := by
  refine VF.enter Tryz.func107 rfl (fun _ _ => rfl) rfl ?_; show VC _ _ _ _ _ [(0, .v y43 p)] [] _; refine VC.seq (VC.text ?_); refine VO.new (.box) ?_; refine VO.cell (.alloc zt51) ?_; intro ww1; refine VO.go (VC.seq (VC.text ?_)); refine VO.c (.fa (.r (.l .o))) ?_; refine VO.r (.ld vt9) ?_; refine VO.c (.fa (.r (.r (.l .o)))) ?_; refine VO.r (.ld vt3) ?_; refine VO.c (.fa (.r (.r (.r (.l .o))))) ?_; refine VO.r (.ld vt3) ?_; refine VO.c (.build (p.2.1, p.2.2.1, p.2.2.2.1) bt51) ?_; refine VO.setV (cs' := [St p.2.1, I p.2.2.1, I p.2.2.2.1]) vt51 .v ?_; refine VO.go ?_; refine VC.ret ?_; exact VEnd.one rfl (.cell (x := (p.2.1, p.2.2.1, p.2.2.2.1)) rfl m0 vt51 .refl) (pvE (by first | rfl | simp))
theorem sRun_ok {l : List (Int × ByteArray × Int × Int × (List Nat))} {n : Int} (hl : l.length < 100000) : VF Tryz.prog OA 60 [.v y33 l, I n] (.v y136 (runM l n l.length)) := by
  refine VF.enter Tryz.func60 rfl (fun _ _ => rfl) rfl ?_; show VC _ _ _ _ _ [(0, .v y33 l), (1, I n)] [] _; refine VC.seq (VC.text ?_); refine VO.c (.assign rfl) ?_; refine VO.go (VC.seq (VC.text ?_)); refine VO.cell (.mkMap y51 y43) ?_; intro ww2; refine VO.c (.assign rfl) ?_; refine VO.go (VC.seq (VC.seq (VC.text ?_))); refine VO.c (.move rfl) ?_; refine VO.r (.len el33) ?_; refine VO.c (.move rfl) ?_; refine VO.go (VC.block ?_); refine VC.keep [(1, I n), (5, .raw ww2), (9, .v y33 l), (10, I ((l.length : Nat) : Int)), (11, I ((0 : Nat) : Int))] ⟨rfl, rfl, rfl, rfl, rfl, trivial⟩ ?_; refine VC.loop (I := fun kk ff ss => ∃ (i : Nat), kk = l.length - i ∧ ff = [(1, I n), (5, .raw ww2), (9, .v y33 l), (10, I ((l.length : Nat) : Int)), (11, I ((i : Nat) : Int))] ∧ ss = [(ww2, .mp y51 y43 (runM l n i))] ∧ (i ≤ l.length)) ?_ _ _ _ ⟨0, rfl, rfl, rfl, Nat.zero_le _⟩; rintro kk ff ss ⟨i, hk0, rfl, rfl, hi⟩; refine VC.seq (VC.text ?_); refine VO.c (.lss) ?_; refine VO.go (VC.seq ?_); refine VC.condD rfl (fun c3 => ?_) (fun c3 => ?_)
  · have hi' : i < l.length := by omega
    refine VC.skip (VC.seq (VC.block (VC.seq (VC.text ?_)))); refine VO.c (.ix (j := i) rfl rfl el33 (by omega)) ?_; refine VO.r (.ld vt43) ?_; refine VO.cell (.alloc zt43) ?_; intro ww3; refine VO.setV (cs' := [I ((l[i]).1), St ((l[i]).2.1), I ((l[i]).2.2.1), I ((l[i]).2.2.2.1), .v y41 ((l[i]).2.2.2.2)]) vt43 .v ?_; refine VO.shut [(7, .p y43 (l[i]))] (.cons rfl (.var m0 .refl) .nil) ?_; refine VO.go (VC.seq (VC.text ?_)); refine VO.c (.fa (.l .o)) ?_; refine VO.r (.ld vt3) ?_; refine VO.c (.move rfl) (VO.c (.eql) (VO.go ?_)); refine VC.condD rfl (fun c5 => ?_) (fun c5 => ?_)
    · refine VC.drawn ?_; refine VD.c (.move rfl) ?_; refine VD.r [] (.ld vt43) (.inl rfl) ?_; refine VD.call rfl rfl (VF.call (sSlot_ok )) ?_; refine VD.r [] (.ld vt43) (.inl rfl) ?_; refine VD.mk0 (MakeV.mput mt136 rfl rfl rfl) ?_; rintro _ _ tl4 ⟨rfl, rfl⟩; refine VD.nil ?_; refine VC.text ?_; refine VO.c (.add rfl rfl (by omega)) (VO.c (.move rfl) ?_); refine VO.nil ?_; refine ⟨_, [(1, I n), (5, .raw ww2), (9, .v y33 l), (10, I ((l.length : Nat) : Int)), (11, I (((i + 1) : Nat) : Int))], ?_, ⟨rfl, rfl, rfl, rfl, rfl, trivial⟩, (i + 1), rfl, rfl, (by rw [runM, ← pcA_eq hi']; first | rw [if_pos c5] | rw [if_neg c5]), (by omega)⟩; omega
    refine VC.skip (VC.text ?_); refine VO.c (.add rfl rfl (by omega)) (VO.c (.move rfl) ?_); refine VO.nil ?_; refine ⟨_, [(1, I n), (5, .raw ww2), (9, .v y33 l), (10, I ((l.length : Nat) : Int)), (11, I (((i + 1) : Nat) : Int))], ?_, ⟨rfl, rfl, rfl, rfl, rfl, trivial⟩, (i + 1), rfl, rfl, (by rw [runM, ← pcA_eq hi']; first | rw [if_pos c5] | rw [if_neg c5]), (by omega)⟩; omega
  refine VC.exit (VC.seq (VC.text ?_)); refine VO.c (.move rfl) (VO.c (.assign rfl) (VO.go ?_)); refine VC.ret ?_; exact VEnd.one rfl (evC (.mp m0)) (pvE (by rw [show i = l.length by omega]))
end Go.Proofs
namespace Go.Proofs
open Go.Fs Ieee
theorem runM_some {l : List Pc} {n : Int} {k : Sl} {p : Pc} : ∀ (i : Nat), mget (runM l n i) k = some p → ∃ j, j < i ∧ p = pcA l j ∧ (pcA l j).1 = n ∧ slotE (pcA l j) = k
  | 0, h => by cases h
  | i + 1, h => by
    rw [runM] at h; split at h
    · rename_i hn; rw [mget_mset] at h; split at h
      · rename_i hk; injection h with h; exact ⟨i, by omega, h.symm, hn, hk.symm⟩
      obtain ⟨j, h1, h2⟩ := runM_some i h; exact ⟨j, by omega, h2⟩
    obtain ⟨j, h1, h2⟩ := runM_some i h; exact ⟨j, by omega, h2⟩
theorem runM_none {l : List Pc} {n : Int} {k : Sl} : ∀ (i : Nat), mget (runM l n i) k = none → ∀ j, j < i → (pcA l j).1 = n → slotE (pcA l j) ≠ k
  | 0, _, j, hj, _ => by omega
  | i + 1, h, j, hj, hn => by
    rw [runM] at h; rcases Nat.lt_succ_iff_lt_or_eq.1 hj with h3 | h3
    · split at h
      · rw [mget_mset] at h; split at h
        · cases h
        exact runM_none i h j h3 hn
      exact runM_none i h j h3 hn
    subst h3; rw [if_pos hn, mget_mset] at h; split at h
    · cases h
    rename_i hk; exact fun e => hk e.symm
theorem pcA_mem {l : List Pc} {j : Nat} (h : j < l.length) : pcA l j ∈ l := by rw [← pcA_eq h]; exact List.getElem_mem _
def fieldA (d : Dom) (l : List Pc) (n : Int) : Int := firstE [storeE d l, rangeE n 0 100000]
theorem store_dom {d : Dom} {l : List Pc} (h : storeE d l = 0) : domE d = 0 ∧ l.length ≤ 4096 ∧ ∀ k, k < l.length → pieceE d l k = 0 := by
  unfold storeE at h; split at h
  · rename_i h0; have := storeP_ok h0; rw [firstE_zero] at h; exact ⟨this.1, this.2, fun k hk => h _ (List.mem_map_of_mem (List.mem_range.2 hk))⟩
  contradiction
theorem fieldA_ok {d : Dom} {l : List Pc} {n : Int} (h : fieldA d l n = 0) : storeE d l = 0 ∧ rangeE n 0 100000 = 0 := by
  unfold fieldA at h; rw [firstE_zero] at h; exact ⟨h _ (by simp), h _ (by simp)⟩
def hitB (n : Int) (s : Sl) (p : Pc) : Bool := decide (p.1 = n ∧ p.2.1 = s.1 ∧ p.2.2.1 = s.2.1 ∧ p.2.2.2.1 = s.2.2)
def fndE (l : List Pc) (n : Int) (s : Sl) : Int := if l.findIdx (hitB n s) < l.length then (l.findIdx (hitB n s) : Nat) else -1
end Go.Proofs
namespace Go.Proofs
open Go.Fs Ieee
abbrev y22 : Ty := (.sl (.pair .str (.int .i64)))
abbrev y59 : Ty := (.pair .str (.int .i64))
theorem vt59 : ValT Tryz.prog 59 y59 := valT_of (by kernel_rfl)
theorem zt39 : ZerT Tryz.prog 39 y39 := zerT_of (z := .agg #[.int .i64 0, .int .i64 0, .int .i64 0, .slice none 0 0]) (by kernel_rfl) rfl rfl
theorem zt45 : ZerT Tryz.prog 45 y45 := zerT_of (z := .agg #[.int .i64 0, .string ByteArray.empty, .int .i64 0, .int .i64 0, .slice none 0 0]) (by kernel_rfl) rfl rfl
theorem zt59 : ZerT Tryz.prog 59 y59 := zerT_of (z := .agg #[.string ByteArray.empty, .int .i64 0]) (by kernel_rfl) rfl rfl
theorem bt39 : BldT Tryz.prog 39 y39 [(0, 1), (1, 1), (2, 1), (3, 1)] := bldT_of zt39 rfl (by kernel_rfl)
def sameLv (a b : List Nat) : Bool := decide (a.length = b.length ∧ ∀ i, i < a.length → fcmpE .neq .f32 (a.getD i 0) (b.getD i 0) = false)
theorem rSameLv_ok {a : List Nat} {b : List Nat} (ha : a.length < 100000) : VF Tryz.prog OA 44 [.v y41 a, .v y41 b] (B (sameLv a b)) := by
  refine VF.enter Tryz.func44 rfl (fun _ _ => rfl) rfl ?_; show VC _ _ _ _ _ [(0, .v y41 a), (1, .v y41 b)] [] _; refine VC.seq (VC.text ?_); refine VO.c (.assign rfl) ?_; refine VO.go (VC.seq (VC.seq (VC.text ?_))); refine VO.c (.move rfl) ?_; refine VO.r (.len el41) ?_; refine VO.c (.move rfl) ?_; refine VO.r (.len el41) ?_; refine VO.c (.neq) (VO.go ?_); refine VC.condD rfl (fun c1 => ?_) (fun c1 => ?_)
  · have hne : ¬ a.length = b.length := by omega
    refine VC.seq (VC.text ?_); refine VO.c (.assign rfl) (VO.go ?_); refine VC.ret ?_; exact VEnd.one rfl evT (pvE (by exact (decide_eq_false fun hh => hne hh.1).symm))
  have hle : a.length = b.length := by omega
  refine VC.skip (VC.seq (VC.seq (VC.text ?_))); refine VO.c (.assign rfl) ?_; refine VO.go (VC.block ?_); refine VC.keep [(0, .v y41 a), (1, .v y41 b), (5, I ((0 : Nat) : Int))] ⟨rfl, rfl, rfl, trivial⟩ ?_; refine VC.loop (I := fun kk ff ss => ∃ (i : Nat), kk = a.length - i ∧ ff = [(0, .v y41 a), (1, .v y41 b), (5, I ((i : Nat) : Int))] ∧ ss = [] ∧ (i ≤ a.length) ∧ (∀ j, j < i → fcmpE .neq .f32 (a.getD j 0) (b.getD j 0) = false)) ?_ _ _ _ ⟨0, rfl, rfl, rfl, Nat.zero_le _, (by intro j hj; omega)⟩; rintro kk ff ss ⟨i, hk0, rfl, rfl, hi, hn⟩; refine VC.seq (VC.seq (VC.text ?_)); refine VO.c (.move rfl) (VO.c (.move rfl) ?_); refine VO.r (.len el41) ?_; refine VO.c (.lss) (VO.go ?_); refine VC.condD rfl (fun c4 => ?_) (fun c4 => ?_)
  · have hi' : i < a.length := by omega
    refine VC.skip (VC.seq (VC.block (VC.seq (VC.drawn ?_)))); refine VD.c (.move rfl) (VD.c (.move rfl) (VD.c (.ix (j := i) rfl rfl el41 (by omega)) ?_)); refine VD.r [] (.ld vt54) (.inl rfl) ?_; refine VD.c (.move rfl) (VD.c (.move rfl) (VD.nw [] (VD.c (.ix (j := i) rfl rfl el41 (by omega)) ?_))); refine VD.r [] (.ld vt54) (.inl rfl) ?_; refine VD.c (.fcmp .neq) (VD.go ?_); refine VC.condB rfl (fun c6 => ?_) (fun c6 => ?_)
    · have c6' : fcmpE .neq .f32 (a.getD i 0) (b.getD i 0) = true := by simpa [hi', show i < b.length by omega] using c6
      refine VC.seq (VC.text ?_); refine VO.c (.assign rfl) (VO.go ?_); refine VC.ret ?_; exact VEnd.one rfl evT (pvE (by exact (decide_eq_false fun hh => by rw [hh.2 i hi'] at c6'; cases c6').symm))
    have c6' : fcmpE .neq .f32 (a.getD i 0) (b.getD i 0) = false := by simpa [hi', show i < b.length by omega] using c6
    refine VC.skip (VC.text ?_); refine VO.c (.move rfl) (VO.c (.add rfl rfl (by omega)) (VO.c (.assign rfl) ?_)); refine VO.nil ?_; refine ⟨_, [(0, .v y41 a), (1, .v y41 b), (5, I (((i + 1) : Nat) : Int))], ?_, ⟨rfl, rfl, rfl, trivial⟩, (i + 1), rfl, rfl, rfl, (by omega), (by intro j hj; rcases Nat.lt_succ_iff_lt_or_eq.1 hj with h | h; exact hn j h; subst h; exact c6')⟩; omega
  refine VC.exit (VC.seq (VC.text ?_)); refine VO.c (.assign rfl) (VO.go ?_); refine VC.ret ?_; exact VEnd.one rfl evT (pvE (by exact (decide_eq_true ⟨hle, fun j hj => hn j (by omega)⟩).symm))
def shortD (d : Dom) : Bool := decide ((d.2.2.2.length ≤ 3 ∨ d.2.2.2.length = 17) ∧ (∀ i, i < d.2.2.2.length → (nmE d.2.2.2 i).size ≤ 60) ∧ (d.1 ≤ 3 ∨ 8 < d.1) ∧ (d.2.1 ≤ 3 ∨ 8 < d.2.1) ∧ (d.2.2.1 ≤ 3 ∨ 96 < d.2.2.1))
theorem rShortD_ok {d : Int × Int × Int × (List (ByteArray × Int))} (hl : d.2.2.2.length ≤ 9223372036854775807) : VF Tryz.prog OA 4 [.v y24 d] (B (shortD d)) := by
  refine VF.enter Tryz.func4 rfl (fun _ _ => rfl) rfl ?_; show VC _ _ _ _ _ [(0, .v y24 d)] [] _; refine VC.seq (VC.text ?_); refine VO.new (.box) ?_; refine VO.c (.assign rfl) ?_; refine VO.go (VC.seq (VC.seq (VC.text ?_))); refine VO.c (.fa (.r (.r (.r .o)))) ?_; refine VO.r (.ld vt22) ?_; refine VO.r (.len el22) ?_; refine VO.c (.gtr) (VO.c (.move rfl) ?_); refine VO.cg (r := decide ((3 : Int) < ((d.2.2.2.length : Nat) : Int))) (w := true) [] trivial (fun _ => (.fa (.r (.r (.r (k := 0) .o))))) ?_; refine VO.rg (r := decide ((3 : Int) < ((d.2.2.2.length : Nat) : Int))) (w := true) [(9, .p y22 d.2.2.2)] ⟨rfl, trivial⟩ (fun _ => (.ld vt22)) ?_; refine VO.rg (r := decide ((3 : Int) < ((d.2.2.2.length : Nat) : Int))) (w := true) [(10, .v y22 d.2.2.2)] ⟨rfl, trivial⟩ (fun _ => (.len el22)) ?_; refine VO.cg (r := decide ((3 : Int) < ((d.2.2.2.length : Nat) : Int))) (w := true) [(11, I ((d.2.2.2.length : Nat) : Int))] ⟨rfl, trivial⟩ (fun _ => (.neq)) ?_; refine VO.c (.and) (VO.go ?_); refine VC.condB rfl (fun c1 => ?_) (fun c1 => ?_)
  · try simp only [Bool.and_eq_true, Bool.or_eq_true, Bool.and_eq_false_iff, Bool.or_eq_false_iff, Bool.not_eq_true', Bool.not_eq_false', decide_eq_true_eq, decide_eq_false_iff_not] at c1
    refine VC.seq (VC.text ?_); refine VO.c (.assign rfl) (VO.go ?_); refine VC.ret ?_; exact VEnd.one rfl evT (pvE (by exact (decide_eq_false fun hh => by have := hh.1; omega).symm))
  try simp only [Bool.and_eq_true, Bool.or_eq_true, Bool.and_eq_false_iff, Bool.or_eq_false_iff, Bool.not_eq_true', Bool.not_eq_false', decide_eq_true_eq, decide_eq_false_iff_not] at c1
  refine VC.skip (VC.seq (VC.seq (VC.text ?_))); refine VO.c (.assign rfl) ?_; refine VO.go (VC.block ?_); refine VC.keep [(1, .p y24 d), (3, I ((0 : Nat) : Int))] ⟨rfl, rfl, trivial⟩ ?_; refine VC.loop (I := fun kk ff ss => ∃ (i : Nat), kk = d.2.2.2.length - i ∧ ff = [(1, .p y24 d), (3, I ((i : Nat) : Int))] ∧ ss = [] ∧ (i ≤ d.2.2.2.length) ∧ (∀ j, j < i → (nmE d.2.2.2 j).size ≤ 60)) ?_ _ _ _ ⟨0, rfl, rfl, rfl, Nat.zero_le _, (by intro j hj; omega)⟩; rintro kk ff ss ⟨i, hk0, rfl, rfl, hi, hn⟩; refine VC.seq (VC.seq (VC.text ?_)); refine VO.c (.move rfl) (VO.c (.fa (.r (.r (.r .o)))) ?_); refine VO.r (.ld vt22) ?_; refine VO.r (.len el22) ?_; refine VO.c (.lss) (VO.go ?_); refine VC.condD rfl (fun c4 => ?_) (fun c4 => ?_)
  · have hi' : i < d.2.2.2.length := by omega
    refine VC.skip (VC.seq (VC.block (VC.seq (VC.text ?_)))); refine VO.c (.fa (.r (.r (.r .o)))) ?_; refine VO.r (.ld vt22) ?_; refine VO.c (.move rfl) (VO.c (.ix (j := i) rfl rfl el22 (by omega)) (VO.c (.fa (.l .o)) ?_)); refine VO.r (.ld vt9) ?_; refine VO.r (.lenS) ?_; refine VO.c (.gtr) (VO.go ?_); refine VC.condD rfl (fun c6 => ?_) (fun c6 => ?_)
    · refine VC.seq (VC.text ?_); refine VO.c (.assign rfl) (VO.go ?_); refine VC.ret ?_; exact VEnd.one rfl evT (pvE (by exact (decide_eq_false fun hh => by have := hh.2.1 i hi'; rw [← nmE_eq hi'] at this; omega).symm))
    refine VC.skip (VC.text ?_); refine VO.c (.move rfl) (VO.c (.add rfl rfl (by omega)) (VO.c (.assign rfl) ?_)); refine VO.nil ?_; refine ⟨_, [(1, .p y24 d), (3, I (((i + 1) : Nat) : Int))], ?_, ⟨rfl, rfl, trivial⟩, (i + 1), rfl, rfl, rfl, (by omega), (by intro j hj; rcases Nat.lt_succ_iff_lt_or_eq.1 hj with h | h; exact hn j h; subst h; rw [← nmE_eq hi']; omega)⟩; omega
  have he : shortD d = decide ((d.1 ≤ 3 ∨ 8 < d.1) ∧ (d.2.1 ≤ 3 ∨ 8 < d.2.1) ∧ (d.2.2.1 ≤ 3 ∨ 96 < d.2.2.1)) := decide_eq_decide.2 ⟨fun h => h.2.2, fun h => ⟨by omega, fun j hj => hn j (by omega), h⟩⟩; refine VC.exit (VC.seq ?_); refine VC.join [(2, B (shortD d))] [] ?_ ?_
  · skip
    refine VC.text ?_; refine VO.c (.fa (.l .o)) ?_; refine VO.r (.ld vt3) ?_; refine VO.c (.leq) (VO.c (.move rfl) ?_); refine VO.cg (r := decide (d.1 ≤ (3 : Int))) (w := false) [] trivial (fun _ => (.fa (.l .o))) ?_; refine VO.rg (r := decide (d.1 ≤ (3 : Int))) (w := false) [(33, .p (.int .i64) d.1)] ⟨rfl, trivial⟩ (fun _ => (.ld vt3)) ?_; refine VO.cg (r := decide (d.1 ≤ (3 : Int))) (w := false) [(34, I d.1)] ⟨rfl, trivial⟩ (fun _ => (.gtr)) ?_; refine VO.c (.or) (VO.c (.move rfl) ?_); refine VO.splitB (x := 37) rfl (fun g8_8 => ?_) (fun g8_8 => ?_)
    · try simp only [Bool.and_eq_true, Bool.or_eq_true, Bool.and_eq_false_iff, Bool.or_eq_false_iff, Bool.not_eq_true', Bool.not_eq_false', decide_eq_true_eq, decide_eq_false_iff_not] at g8_8
      refine VO.c (.fa (.r (.l .o))) ?_; refine VO.r (.ld vt3) ?_; refine VO.c (.leq) (VO.c (.move rfl) ?_); refine VO.cg (r := decide (d.2.1 ≤ (3 : Int))) (w := false) [] trivial (fun _ => (.fa (.r (.l .o)))) ?_; refine VO.rg (r := decide (d.2.1 ≤ (3 : Int))) (w := false) [(42, .p (.int .i64) d.2.1)] ⟨rfl, trivial⟩ (fun _ => (.ld vt3)) ?_; refine VO.cg (r := decide (d.2.1 ≤ (3 : Int))) (w := false) [(43, I d.2.1)] ⟨rfl, trivial⟩ (fun _ => (.gtr)) ?_; refine VO.c (.or) (VO.c (.pickT rfl rfl) (VO.c (.move rfl) ?_)); refine VO.splitB (x := 47) rfl (fun g8_18 => ?_) (fun g8_18 => ?_)
      · try simp only [Bool.and_eq_true, Bool.or_eq_true, Bool.and_eq_false_iff, Bool.or_eq_false_iff, Bool.not_eq_true', Bool.not_eq_false', decide_eq_true_eq, decide_eq_false_iff_not] at g8_18
        refine VO.c (.fa (.r (.r (.l .o)))) ?_; refine VO.r (.ld vt3) ?_; refine VO.c (.leq) (VO.c (.move rfl) ?_); refine VO.cg (r := decide (d.2.2.1 ≤ (3 : Int))) (w := false) [] trivial (fun _ => (.fa (.r (.r (.l .o))))) ?_; refine VO.rg (r := decide (d.2.2.1 ≤ (3 : Int))) (w := false) [(52, .p (.int .i64) d.2.2.1)] ⟨rfl, trivial⟩ (fun _ => (.ld vt3)) ?_; refine VO.cg (r := decide (d.2.2.1 ≤ (3 : Int))) (w := false) [(53, I d.2.2.1)] ⟨rfl, trivial⟩ (fun _ => (.gtr)) ?_; refine VO.c (.or) (VO.c (.pickT rfl rfl) (VO.c (.assign rfl) ?_)); refine VO.nil ?_; exact ⟨⟨slE rfl (by rw [he, Bool.eq_iff_iff]; simp only [Bool.and_eq_true, Bool.or_eq_true, decide_eq_true_eq, Bool.false_eq_true, true_iff, false_iff] <;> omega), trivial⟩, rfl⟩
      try simp only [Bool.and_eq_true, Bool.or_eq_true, Bool.and_eq_false_iff, Bool.or_eq_false_iff, Bool.not_eq_true', Bool.not_eq_false', decide_eq_true_eq, decide_eq_false_iff_not] at g8_18
      refine VO.skip (VO.skip (VO.skip (VO.skip ?_))); refine VO.skip (VO.skip (VO.skip (VO.skip ?_))); refine VO.c (.pickF rfl rfl) (VO.c (.assign rfl) ?_); refine VO.nil ?_; exact ⟨⟨slE rfl (by rw [he, Bool.eq_iff_iff]; simp only [Bool.and_eq_true, Bool.or_eq_true, decide_eq_true_eq, Bool.false_eq_true, true_iff, false_iff] <;> omega), trivial⟩, rfl⟩
    try simp only [Bool.and_eq_true, Bool.or_eq_true, Bool.and_eq_false_iff, Bool.or_eq_false_iff, Bool.not_eq_true', Bool.not_eq_false', decide_eq_true_eq, decide_eq_false_iff_not] at g8_8
    refine VO.skip (VO.skip (VO.skip (VO.skip ?_))); refine VO.skip (VO.skip (VO.skip (VO.skip ?_))); refine VO.c (.pickF rfl rfl) (VO.c (.move rfl) (VO.skip (VO.skip ?_))); refine VO.skip (VO.skip (VO.skip (VO.skip ?_))); refine VO.skip (VO.skip (VO.c (.pickF rfl rfl) (VO.c (.assign rfl) ?_))); refine VO.nil ?_; exact ⟨⟨slE rfl (by rw [he, Bool.eq_iff_iff]; simp only [Bool.and_eq_true, Bool.or_eq_true, decide_eq_true_eq, Bool.false_eq_true, true_iff, false_iff] <;> omega), trivial⟩, rfl⟩
  refine VC.ret ?_; exact VEnd.one rfl evT (pvE (by first | rfl | simp))
def shortS (l : List Pc) (k : Int) : Bool := decide (((l.length : Int) ≤ k ∨ (l.length : Int) = 4097) ∧ ∀ i, i < l.length → (pcA l i).2.1.size ≤ 60 ∧ (pcA l i).2.2.2.2.length ≤ 9)
theorem rShortS_ok {l : List (Int × ByteArray × Int × Int × (List Nat))} {k : Int} (hl : l.length ≤ 9223372036854775807) : VF Tryz.prog OA 5 [.v y25 l, I k] (B (shortS l k)) := by
  refine VF.enter Tryz.func5 rfl (fun _ _ => rfl) rfl ?_; show VC _ _ _ _ _ [(0, .v y25 l), (1, I k)] [] _; refine VC.seq (VC.text ?_); refine VO.c (.assign rfl) ?_; refine VO.go (VC.seq (VC.seq (VC.text ?_))); refine VO.c (.move rfl) ?_; refine VO.r (.len el25) ?_; refine VO.c (.move rfl) (VO.c (.gtr) (VO.c (.move rfl) ?_)); refine VO.cg (r := decide (k < ((l.length : Nat) : Int))) (w := true) [] trivial (fun _ => (.move rfl)) ?_; refine VO.rg (r := decide (k < ((l.length : Nat) : Int))) (w := true) [(11, .v y25 l)] ⟨rfl, trivial⟩ (fun _ => (.len el25)) ?_; refine VO.cg (r := decide (k < ((l.length : Nat) : Int))) (w := true) [(12, I ((l.length : Nat) : Int))] ⟨rfl, trivial⟩ (fun _ => (.neq)) ?_; refine VO.c (.and) (VO.go ?_); refine VC.condB rfl (fun c1 => ?_) (fun c1 => ?_)
  · try simp only [Bool.and_eq_true, Bool.or_eq_true, Bool.and_eq_false_iff, Bool.or_eq_false_iff, Bool.not_eq_true', Bool.not_eq_false', decide_eq_true_eq, decide_eq_false_iff_not] at c1
    refine VC.seq (VC.text ?_); refine VO.c (.assign rfl) (VO.go ?_); refine VC.ret ?_; exact VEnd.one rfl evT (pvE (by exact (decide_eq_false fun hh => by have := hh.1; omega).symm))
  try simp only [Bool.and_eq_true, Bool.or_eq_true, Bool.and_eq_false_iff, Bool.or_eq_false_iff, Bool.not_eq_true', Bool.not_eq_false', decide_eq_true_eq, decide_eq_false_iff_not] at c1
  refine VC.skip (VC.seq (VC.seq (VC.text ?_))); refine VO.c (.assign rfl) ?_; refine VO.go (VC.block ?_); refine VC.keep [(0, .v y25 l), (5, I ((0 : Nat) : Int))] ⟨rfl, rfl, trivial⟩ ?_; refine VC.loop (I := fun kk ff ss => ∃ (i : Nat), kk = l.length - i ∧ ff = [(0, .v y25 l), (5, I ((i : Nat) : Int))] ∧ ss = [] ∧ (i ≤ l.length) ∧ (∀ j, j < i → (pcA l j).2.1.size ≤ 60 ∧ (pcA l j).2.2.2.2.length ≤ 9)) ?_ _ _ _ ⟨0, rfl, rfl, rfl, Nat.zero_le _, (by intro j hj; omega)⟩; rintro kk ff ss ⟨i, hk0, rfl, rfl, hi, hn⟩; refine VC.seq (VC.seq (VC.text ?_)); refine VO.c (.move rfl) (VO.c (.move rfl) ?_); refine VO.r (.len el25) ?_; refine VO.c (.lss) (VO.go ?_); refine VC.condD rfl (fun c4 => ?_) (fun c4 => ?_)
  · have hi' : i < l.length := by omega
    refine VC.skip (VC.seq (VC.block (VC.seq ?_))); refine VC.join [(0, .v y25 l), (5, I ((i : Nat) : Int)), (36, B (!decide ((pcA l i).2.1.size ≤ 60 ∧ (pcA l i).2.2.2.2.length ≤ 9)))] [] ?_ ?_
    · skip
      refine VC.text ?_; refine VO.c (.move rfl) (VO.c (.move rfl) (VO.c (.ix (j := i) rfl rfl el25 (by omega)) (VO.c (.fa (.r (.l .o))) ?_))); refine VO.r (.ld vt9) ?_; refine VO.r (.lenS) ?_; refine VO.c (.gtr) (VO.c (.move rfl) ?_); refine VO.splitD (x := 28) rfl (fun g6_7 => ?_) (fun g6_7 => ?_)
      · refine VO.skip (VO.skip (VO.skip (VO.skip ?_))); refine VO.skip (VO.skip (VO.skip (VO.c (.pickT rfl rfl) ?_))); refine VO.nil ?_; exact ⟨⟨rfl, rfl, slE rfl (by rw [← pcA_eq hi', Bool.eq_iff_iff]; simp <;> omega), trivial⟩, rfl⟩
      refine VO.c (.move rfl) (VO.c (.move rfl) (VO.c (.ix (j := i) rfl rfl el25 (by omega)) (VO.c (.fa (.r (.r (.r (.r .o))))) ?_))); refine VO.r (.ld vt41) ?_; refine VO.r (.len el41) ?_; refine VO.c (.gtr) (VO.c (.pickF rfl rfl) ?_); refine VO.nil ?_; exact ⟨⟨rfl, rfl, slE rfl (by rw [← pcA_eq hi', Bool.eq_iff_iff]; simp <;> omega), trivial⟩, rfl⟩
    refine VC.condB rfl (fun c6 => ?_) (fun c6 => ?_)
    · try simp only [Bool.and_eq_true, Bool.or_eq_true, Bool.and_eq_false_iff, Bool.or_eq_false_iff, Bool.not_eq_true', Bool.not_eq_false', decide_eq_true_eq, decide_eq_false_iff_not] at c6
      have c6' : ¬ ((pcA l i).2.1.size ≤ 60 ∧ (pcA l i).2.2.2.2.length ≤ 9) := by omega
      refine VC.seq (VC.text ?_); refine VO.c (.assign rfl) (VO.go ?_); refine VC.ret ?_; exact VEnd.one rfl evT (pvE (by exact (decide_eq_false fun hh => c6' (hh.2 i hi')).symm))
    try simp only [Bool.and_eq_true, Bool.or_eq_true, Bool.and_eq_false_iff, Bool.or_eq_false_iff, Bool.not_eq_true', Bool.not_eq_false', decide_eq_true_eq, decide_eq_false_iff_not] at c6
    have c6' : (pcA l i).2.1.size ≤ 60 ∧ (pcA l i).2.2.2.2.length ≤ 9 := by omega
    refine VC.skip (VC.text ?_); refine VO.c (.move rfl) (VO.c (.add rfl rfl (by omega)) (VO.c (.assign rfl) ?_)); refine VO.nil ?_; refine ⟨_, [(0, .v y25 l), (5, I (((i + 1) : Nat) : Int))], ?_, ⟨rfl, rfl, trivial⟩, (i + 1), rfl, rfl, rfl, (by omega), (by intro j hj; rcases Nat.lt_succ_iff_lt_or_eq.1 hj with h | h; exact hn j h; subst h; exact c6')⟩; omega
  refine VC.exit (VC.seq (VC.text ?_)); refine VO.c (.assign rfl) (VO.go ?_); refine VC.ret ?_; exact VEnd.one rfl evT (pvE (by exact (decide_eq_true ⟨by omega, fun j hj => hn j (by omega)⟩).symm))
theorem lDom_ok {d : Int × Int × Int × (List (ByteArray × Int))} (hl : d.2.2.2.length < 100000) : VF Tryz.prog OA 10 [.v y24 d] (.v y39 d) := by
  refine VF.enter Tryz.func10 rfl (fun _ _ => rfl) rfl ?_; show VC _ _ _ _ _ [(0, .v y24 d)] [] _; refine VC.seq (VC.text ?_); refine VO.new (.box) ?_; refine VO.cell (.alloc zt39) ?_; intro ww1; refine VO.go (VC.seq (VC.text ?_)); refine VO.c (.fa (.l .o)) ?_; refine VO.r (.ld vt3) ?_; refine VO.c (.fa (.r (.l .o))) ?_; refine VO.r (.ld vt3) ?_; refine VO.c (.fa (.r (.r (.l .o)))) ?_; refine VO.r (.ld vt3) ?_; refine VO.c (.buildA (cs := [I d.1, I d.2.1, I d.2.2.1, nilV]) bt39 rfl) ?_; refine VO.cell (.alloc zt39) ?_; intro ww2; refine VO.setV (cs' := [I d.1, I d.2.1, I d.2.2.1, nilV]) vt39 (.aggs rfl rfl) ?_; refine VO.go (VC.seq (VC.seq (VC.text ?_))); refine VO.c (.fa (.r (.r (.r .o)))) ?_; refine VO.r (.ld vt22) ?_; refine VO.r (.len el22) ?_; refine VO.c (.move rfl) ?_; refine VO.go (VC.block ?_); refine VC.cell0 111 y111 ?_; refine VC.keep [(2, .raw ww1), (3, .raw ww2), (14, .v y22 d.2.2.2), (15, I ((d.2.2.2.length : Nat) : Int)), (16, I ((0 : Nat) : Int))] ⟨rfl, rfl, rfl, rfl, rfl, trivial⟩ ?_; refine VC.loop (I := fun kk ff ss => ∃ (i : Nat) (w : Value), kk = d.2.2.2.length - i ∧ ff = [(2, .raw ww1), (3, .raw ww2), (14, .v y22 d.2.2.2), (15, I ((d.2.2.2.length : Nat) : Int)), (16, I ((i : Nat) : Int))] ∧ ss = [(w, .row 111 y111 (d.2.2.2.take i)), (ww2, .var [I d.1, I d.2.1, I d.2.2.1, .raw w]), (ww1, .var [I (0 : Int), I (0 : Int), I (0 : Int), .v y37 []])] ∧ (i ≤ d.2.2.2.length)) ?_ _ _ _ ⟨0, (.slice none 0 0), rfl, rfl, rfl, Nat.zero_le _⟩; rintro kk ff ss ⟨i, w, hk0, rfl, rfl, hi⟩; refine VC.seq (VC.text ?_); refine VO.c (.lss) ?_; refine VO.go (VC.seq ?_); refine VC.condD rfl (fun c3 => ?_) (fun c3 => ?_)
  · refine VC.skip (VC.seq (VC.block (VC.seq (VC.text ?_)))); refine VO.c (.ix (j := i) rfl rfl el22 (by omega)) ?_; refine VO.r (.ld vt59) ?_; refine VO.cell (.alloc zt59) ?_; intro ww3; refine VO.setV (cs' := [St ((d.2.2.2[i]).1), I ((d.2.2.2[i]).2)]) vt59 .v ?_; refine VO.shut [(5, .p y59 (d.2.2.2[i]))] (.cons rfl (.var m0 .refl) .nil) ?_; refine VO.go (VC.text ?_); refine VO.c (.faO (k := 3) m1) ?_; refine VO.r (.ldF (k := 3) m1 vt37) ?_; refine VO.r (.ld vt59) ?_; refine VO.new (.lit [d.2.2.2[i]] el37) ?_; refine VO.app rfl rfl el37 el37 (by simp; omega) ?_; intro ww4; refine VO.c (.faO (k := 3) m1) ?_; refine VO.perm swap1 ?_; refine VO.one m1 fun ho5 => ?_; refine VO.setF (cs' := [I d.1, I d.2.1, I d.2.2.1, .raw ww4]) 3 vt37 (.raw rfl (agg_one ho5) ho5) ?_; refine VO.nil (VC.text ?_); refine VO.c (.add rfl rfl (by omega)) (VO.c (.move rfl) ?_); refine VO.perm swap2 ?_; refine VO.perm swap1 ?_; refine VO.perm swap2 ?_; refine VO.nil ?_; refine ⟨_, [(2, .raw ww1), (3, .raw ww2), (14, .v y22 d.2.2.2), (15, I ((d.2.2.2.length : Nat) : Int)), (16, I (((i + 1) : Nat) : Int))], ?_, ⟨rfl, rfl, rfl, rfl, rfl, trivial⟩, (i + 1), ww4, rfl, rfl, (by rw [List.take_succ_eq_append_getElem (by omega)] <;> rfl), (by omega)⟩; omega
  refine VC.exit (VC.seq ?_); refine VC.shutL [(w, .row 111 y111 (d.2.2.2.take i)), (ww2, .var [I d.1, I d.2.1, I d.2.2.1, .raw w])] [(3, .p y39 (d.1, d.2.1, d.2.2.1, (d.2.2.2.take i)))] rfl (.cons rfl (.var m1 (.cons .same (.cons .same (.cons .same (.cons (.row m0) .nil))))) .nil) ?_; refine VC.text ?_; refine VO.r (.ld vt39) ?_; refine VO.setV (cs' := [I d.1, I d.2.1, I d.2.2.1, .v y37 (d.2.2.2.take i)]) vt39 .v ?_; refine VO.go ?_; refine VC.ret ?_; exact VEnd.one rfl (.cell (x := (d.1, d.2.1, d.2.2.1, (d.2.2.2.take i))) rfl m0 vt39 .refl) (pvE (by rw [List.take_of_length_le (by omega)]))
theorem lPc_ok {p : Int × ByteArray × Int × Int × (List Nat)} (hl : p.2.2.2.2.length < 100000) : VF Tryz.prog OA 11 [.v y45 p] (.v y43 p) := by
  refine VF.enter Tryz.func11 rfl (fun _ _ => rfl) rfl ?_; show VC _ _ _ _ _ [(0, .v y45 p)] [] _; refine VC.seq (VC.text ?_); refine VO.new (.box) ?_; refine VO.cell (.alloc zt43) ?_; intro ww6; refine VO.go (VC.seq (VC.text ?_)); refine VO.r (.ld vt45) ?_; refine VO.cell (.alloc zt43) ?_; intro ww7; refine VO.setV (cs' := [I p.1, St p.2.1, I p.2.2.1, I p.2.2.2.1, .v y41 p.2.2.2.2]) vt43 .v ?_; refine VO.go (VC.seq (VC.text ?_)); refine VO.cell (.lit0 el41) ?_; intro ww8; refine VO.c (.fa (.r (.r (.r (.r .o))))) ?_; refine VO.r (.ld vt41) ?_; refine VO.app rfl rfl el41 el41 (by simp; omega) ?_; intro ww9; refine VO.c (.faO (k := 4) m1) ?_; refine VO.perm swap1 ?_; refine VO.one m1 fun ho10 => ?_; refine VO.setF (cs' := [I p.1, St p.2.1, I p.2.2.1, I p.2.2.2.1, .raw ww9]) 4 vt41 (.raw rfl (agg_one ho10) ho10) ?_; refine VO.go (VC.seq ?_); refine VC.perm swap1 ?_; refine VC.shutL [(ww9, .row 54 (.flt .f32) p.2.2.2.2), (ww7, .var [I p.1, St p.2.1, I p.2.2.1, I p.2.2.2.1, .raw ww9])] [(3, .p y43 (p.1, p.2.1, p.2.2.1, p.2.2.2.1, p.2.2.2.2))] rfl (.cons rfl (.var m1 (.cons .same (.cons .same (.cons .same (.cons .same (.cons (.row m0) .nil)))))) .nil) ?_; refine VC.text ?_; refine VO.r (.ld vt43) ?_; refine VO.setV (cs' := [I p.1, St p.2.1, I p.2.2.1, I p.2.2.2.1, .v y41 p.2.2.2.2]) vt43 .v ?_; refine VO.go ?_; refine VC.ret ?_; exact VEnd.one rfl (.cell (x := (p.1, p.2.1, p.2.2.1, p.2.2.2.1, p.2.2.2.2)) rfl m0 vt43 .refl) (pvE (by first | rfl | simp))
theorem lPcs_ok {l : List (Int × ByteArray × Int × Int × (List Nat))} (hl : l.length < 100000) (hr : ∀ r ∈ l, r.2.2.2.2.length < 100000) : VF Tryz.prog OA 13 [.v y25 l] (.v y33 l) := by
  refine VF.enter Tryz.func13 rfl (fun _ _ => rfl) rfl ?_; show VC _ _ _ _ _ [(0, .v y25 l)] [] _; refine VC.seq (VC.text ?_); refine VO.c (.assign rfl) ?_; refine VO.go (VC.seq (VC.text ?_)); refine VO.c (.assign rfl) ?_; refine VO.go (VC.seq (VC.seq (VC.text ?_))); refine VO.c (.move rfl) ?_; refine VO.r (.len el25) ?_; refine VO.c (.move rfl) ?_; refine VO.go (VC.block ?_); refine VC.cell0 43 y43 ?_; refine VC.keep [(3, .raw (.slice none 0 0)), (6, .v y25 l), (7, I ((l.length : Nat) : Int)), (8, I ((0 : Nat) : Int))] ⟨rfl, rfl, rfl, rfl, trivial⟩ ?_; refine VC.loop (I := fun kk ff ss => ∃ (j : Nat) (out : Value), kk = l.length - j ∧ ff = [(3, .raw out), (6, .v y25 l), (7, I ((l.length : Nat) : Int)), (8, I ((j : Nat) : Int))] ∧ ss = [(out, .row 43 y43 (l.take j))] ∧ (j ≤ l.length)) ?_ _ _ _ ⟨0, (.slice none 0 0), rfl, rfl, rfl, Nat.zero_le _⟩; rintro kk ff ss ⟨j, out, hk0, rfl, rfl, hj⟩; refine VC.seq (VC.text ?_); refine VO.c (.lss) ?_; refine VO.go (VC.seq ?_); refine VC.condD rfl (fun c3 => ?_) (fun c3 => ?_)
  · refine VC.skip (VC.seq (VC.block (VC.seq (VC.text ?_)))); refine VO.c (.ix (j := j) rfl rfl el25 (by omega)) ?_; refine VO.r (.ld vt45) ?_; refine VO.cell (.alloc zt45) ?_; intro ww11; refine VO.setV (cs' := [I ((l[j]).1), St ((l[j]).2.1), I ((l[j]).2.2.1), I ((l[j]).2.2.2.1), .v y41 ((l[j]).2.2.2.2)]) vt45 .v ?_; refine VO.shut [(5, .p y45 (l[j]))] (.cons rfl (.var m0 .refl) .nil) ?_; refine VO.go (VC.text ?_); refine VO.c (.move rfl) ?_; refine VO.r (.ld vt45) ?_; refine VO.call rfl rfl (VF.call (lPc_ok (hr _ (List.getElem_mem _)))) ?_; refine VO.new (.lit [(l[j])] el33) ?_; refine VO.app rfl rfl el33 el33 (by simp; omega) ?_; intro ww12; refine VO.c (.assign rfl) ?_; refine VO.nil (VC.text ?_); refine VO.c (.add rfl rfl (by omega)) (VO.c (.move rfl) ?_); refine VO.nil ?_; refine ⟨_, [(3, .raw ww12), (6, .v y25 l), (7, I ((l.length : Nat) : Int)), (8, I (((j + 1) : Nat) : Int))], ?_, ⟨rfl, rfl, rfl, rfl, trivial⟩, (j + 1), ww12, rfl, rfl, (by rw [List.take_succ_eq_append_getElem (by omega)] <;> rfl), (by omega)⟩; omega
  refine VC.exit (VC.seq (VC.text ?_)); refine VO.c (.move rfl) (VO.c (.assign rfl) (VO.go ?_)); refine VC.ret ?_; exact VEnd.one rfl (evC (.row m0)) (pvE (by rw [List.take_of_length_le (by omega)]))
end Go.Proofs
namespace Go.Proofs
open Go.Fs Ieee
theorem pc_lv {d : Dom} {p : Pc} (h : pcE d p = 0) : pcPre d p = 0 ∧ ∀ x ∈ p.2.2.2.2, lvlE x = 0 := by
  unfold pcE at h; split at h
  · rename_i h0; rw [firstE_zero] at h; exact ⟨h0, fun x hx => h _ (List.mem_map_of_mem hx)⟩
  contradiction
theorem step_lt {d : Dom} {l : List Pc} {i : Nat} (h : pieceE d l (i + 1) = 0) : ¬ 0 ≤ cmpP (plE d (pcA l i)) (plE d (pcA l (i + 1))) := fun hc => by
  rw [piece_z (piece_zero h)] at h; rw [show i + 1 - 1 = i from rfl, decide_eq_true hc, decide_eq_true (Nat.succ_pos i)] at h; cases h
theorem cmp_trans {a b c : Pc × Int} (h1 : ¬ 0 ≤ cmpP a b) (h2 : ¬ 0 ≤ cmpP b c) : ¬ 0 ≤ cmpP a c := by
  unfold cmpP at *
  have e3 : 0 ≤ firstE [] := by decide
  simp only [firstE_cmp, e3, and_true] at *; omega
theorem all_lt {d : Dom} {l : List Pc} (hz : ∀ k, k < l.length → pieceE d l k = 0) {j : Nat} : ∀ (i : Nat), j < i → i < l.length → ¬ 0 ≤ cmpP (plE d (pcA l j)) (plE d (pcA l i))
  | 0, h, _ => by omega
  | i + 1, h, hi => by
    have h1 := step_lt (hz _ hi); rcases Nat.lt_succ_iff_lt_or_eq.1 h with h3 | h3
    · exact cmp_trans (all_lt hz i h3 (by omega)) h1
    subst h3; exact h1
theorem cmp_same {d : Dom} {a b : Pc} (h1 : a.1 = b.1) (h2 : slotE a = slotE b) : 0 ≤ cmpP (plE d a) (plE d b) := by
  have e1 : a.2.1 = b.2.1 := congrArg (·.1) h2; have e2 : a.2.2.1 = b.2.2.1 := congrArg (·.2.1) h2; have e4 : a.2.2.2.1 = b.2.2.2.1 := congrArg (·.2.2) h2
  have e3 : 0 ≤ firstE [] := by decide
  unfold cmpP plE; simp [e1, e2, e4, h1, firstE, show ∀ x : Int, cmpI x x = 0 from fun _ => cmpI_eq rfl]
theorem slot_uniq {d : Dom} {l : List Pc} (hz : ∀ k, k < l.length → pieceE d l k = 0) {i j : Nat} (hi : i < l.length) (hj : j < l.length) (h1 : (pcA l i).1 = (pcA l j).1) (h2 : slotE (pcA l i) = slotE (pcA l j)) : i = j := by
  rcases Nat.lt_trichotomy i j with h | h | h
  · exact absurd (cmp_same h1 h2) (all_lt hz j h hj)
  · exact h
  exact absurd (cmp_same h1.symm h2.symm) (all_lt hz i h hi)
theorem hitB_iff {n : Int} {s : Sl} {p : Pc} : hitB n s p = true ↔ p.1 = n ∧ slotE p = s := by
  unfold hitB slotE; rw [decide_eq_true_iff]; constructor
  · rintro ⟨h1, h2, h3, h4⟩; exact ⟨h1, by rw [h2, h3, h4]⟩
  rintro ⟨h1, h2⟩; subst h2; exact ⟨h1, rfl, rfl, rfl⟩
theorem fnd_run {d : Dom} {l : List Pc} (hz : ∀ k, k < l.length → pieceE d l k = 0) (n : Int) (s : Sl) : mget (runM l n l.length) s = if fndE l n s < 0 then none else some (pcA l (fndE l n s).toNat) := by
  unfold fndE; by_cases h : l.findIdx (hitB n s) < l.length
  · rw [if_pos h, if_neg (by omega)]; have h1 : hitB n s l[l.findIdx (hitB n s)] = true := List.findIdx_getElem (w := h); rw [pcA_eq h] at h1; obtain ⟨h2, h3⟩ := hitB_iff.1 h1
    cases hg : mget (runM l n l.length) s with
    | none => exact absurd h3 (runM_none _ hg _ h h2)
    | some p =>
      obtain ⟨j, j1, rfl, j2, j3⟩ := runM_some _ hg; rw [slot_uniq hz j1 h (j2.trans h2.symm) (j3.trans h3.symm)]; simp
  rw [if_neg h, if_pos (by omega)]
  cases hg : mget (runM l n l.length) s with
  | none => rfl
  | some p =>
    obtain ⟨j, j1, rfl, j2, j3⟩ := runM_some _ hg; have h5 : l.findIdx (hitB n s) = l.length := Nat.le_antisymm List.findIdx_le_length (by omega); have h4 := List.findIdx_eq_length.1 h5 _ (pcA_mem j1); rw [hitB_iff.2 ⟨j2, j3⟩] at h4; cases h4
theorem fieldA_eq {d : Dom} {l : List Pc} {n : Int} : fieldA d l n = if storeE d l ≠ 0 then storeE d l else rangeE n 0 100000 := by
  rw [fieldA, show ∀ x y : Int, firstE [x, y] = firstE ([x] ++ [y]) from fun _ _ => rfl, firstE_app, firstE_one, firstE_one]; by_cases h : storeE d l = 0
  · rw [if_pos h, if_neg (by simpa using h)]
  rw [if_neg h, if_pos h]
end Go.Proofs
namespace Go.Proofs
open Go.Fs Ieee
def slM (d : Dom) (m t r : Nat) : Sl := (nmE d.2.2.2 m, (t : Int), (r : Int))
def preT (d : Dom) (m t : Nat) : List Sl := (List.range t).flatMap fun t => (List.range d.1.toNat).map (slM d m t)
def preM (d : Dom) (m : Nat) : List Sl := (List.range m).flatMap fun m => preT d m d.2.2.1.toNat
def preR (d : Dom) (m t r : Nat) : List Sl := preM d m ++ (preT d m t ++ (List.range r).map (slM d m t))
def lost (l : List Pc) (n : Int) (s : Sl) : Bool := decide (fndE l n s < 0)
def missL (d : Dom) (l : List Pc) (n : Int) : List Sl := (preM d d.2.2.2.length).filter (lost l n)
def z3 : Sl := (ByteArray.empty, 0, 0)
theorem preR_row (d : Dom) (m t : Nat) : preR d m t d.1.toNat = preR d m (t + 1) 0 := by
  unfold preR preT; rw [List.range_succ, List.flatMap_append]; simp
theorem preR_tick (d : Dom) (m : Nat) : preR d m d.2.2.1.toNat 0 = preR d (m + 1) 0 0 := by
  unfold preR preM; rw [List.range_succ, List.flatMap_append]; simp [preT]
theorem preR_end (d : Dom) (m : Nat) : preR d m 0 0 = preM d m := by simp [preR, preT]
theorem preR_succ (d : Dom) (m t r : Nat) : preR d m t (r + 1) = preR d m t r ++ [slM d m t r] := by
  unfold preR; rw [List.range_succ, List.map_append]; simp
theorem slM_eq {d : Dom} {m t r : Nat} (h : m < d.2.2.2.length) : (d.2.2.2[m].1, ((t : Nat) : Int), ((r : Nat) : Int)) = slM d m t r := by rw [nmE_eq h] <;> rfl
end Go.Proofs
namespace Go.Proofs
open Go.Fs Ieee
end Go.Proofs
namespace Go.Proofs
open Go.Fs Ieee
theorem mem_preM {d : Dom} {k : Nat} {s : Sl} : s ∈ preM d k ↔ ∃ m, m < k ∧ ∃ t, t < d.2.2.1.toNat ∧ ∃ r, r < d.1.toNat ∧ slM d m t r = s := by
  unfold preM preT; simp only [List.mem_flatMap, List.mem_map, List.mem_range]
end Go.Proofs
namespace Go.Proofs
open Go.Fs Ieee
end Go.Proofs
namespace Go.Proofs
open Go.Fs Ieee
def slAll (d : Dom) : List Sl := preM d d.2.2.2.length
def remR (d : Dom) (m t r : Nat) : List Sl := (slAll d).drop (preR d m t r).length
theorem remR_row (d : Dom) (m t : Nat) : remR d m t d.1.toNat = remR d m (t + 1) 0 := by rw [remR, preR_row] <;> rfl
theorem remR_tick (d : Dom) (m : Nat) : remR d m d.2.2.1.toNat 0 = remR d (m + 1) 0 0 := by rw [remR, preR_tick] <;> rfl
theorem preT_len (d : Dom) (m t : Nat) : (preT d m t).length = t * d.1.toNat := by
  unfold preT
  induction t with
  | zero => simp
  | succ t ih => rw [List.range_succ, List.flatMap_append, List.length_append, ih]; simp [Nat.succ_mul]
theorem preM_succ (d : Dom) (m : Nat) : preM d (m + 1) = preM d m ++ preT d m d.2.2.1.toNat := by unfold preM; rw [List.range_succ, List.flatMap_append]; simp
theorem preT_succ (d : Dom) (m t : Nat) : preT d m (t + 1) = preT d m t ++ (List.range d.1.toNat).map (slM d m t) := by unfold preT; rw [List.range_succ, List.flatMap_append]; simp
theorem preM_split (d : Dom) {m k : Nat} (h : m ≤ k) : ∃ q, preM d k = preM d m ++ q := by
  induction k with
  | zero => obtain rfl : m = 0 := by omega
            exact ⟨[], by simp⟩
  | succ k ih =>
    rcases Nat.lt_or_eq_of_le h with h1 | h1
    · obtain ⟨q, hq⟩ := ih (by omega); exact ⟨q ++ preT d k d.2.2.1.toNat, by rw [preM_succ, hq, List.append_assoc]⟩
    subst h1; exact ⟨[], by simp⟩
theorem preT_split (d : Dom) (m : Nat) {t k : Nat} (h : t ≤ k) : ∃ q, preT d m k = preT d m t ++ q := by
  induction k with
  | zero => obtain rfl : t = 0 := by omega
            exact ⟨[], by simp⟩
  | succ k ih =>
    rcases Nat.lt_or_eq_of_le h with h1 | h1
    · obtain ⟨q, hq⟩ := ih (by omega); exact ⟨q ++ (List.range d.1.toNat).map (slM d m k), by rw [preT_succ, hq, List.append_assoc]⟩
    subst h1; exact ⟨[], by simp⟩
theorem remR_cons {d : Dom} {m t r : Nat} (hm : m < d.2.2.2.length) (ht : t < d.2.2.1.toNat) (hr : r < d.1.toNat) : remR d m t r = slM d m t r :: remR d m t (r + 1) := by
  obtain ⟨q1, h1⟩ := preM_split d (show m + 1 ≤ d.2.2.2.length by omega); obtain ⟨q2, h2⟩ := preT_split d m (show t + 1 ≤ d.2.2.1.toNat by omega)
  have h3 : (List.range d.1.toNat).map (slM d m t) = (List.range r).map (slM d m t) ++ slM d m t r :: ((List.range d.1.toNat).map (slM d m t)).drop (r + 1) := by
    conv => lhs; rw [← List.take_append_drop r ((List.range d.1.toNat).map (slM d m t))]
    congr 1
    · rw [← List.map_take, List.take_range, Nat.min_eq_left (by omega)]
    rw [List.drop_eq_getElem_cons (by simp only [List.length_map, List.length_range]; exact hr)]; simp
  have e : slAll d = preR d m t r ++ (slM d m t r :: (((List.range d.1.toNat).map (slM d m t)).drop (r + 1) ++ (q2 ++ q1))) := by
    unfold slAll preR; rw [h1, preM_succ, h2, preT_succ]
    conv => lhs; rw [h3]
    simp
  have e2 : slAll d = preR d m t (r + 1) ++ (((List.range d.1.toNat).map (slM d m t)).drop (r + 1) ++ (q2 ++ q1)) := by rw [e, preR_succ]; simp
  have a1 : remR d m t r = slM d m t r :: (((List.range d.1.toNat).map (slM d m t)).drop (r + 1) ++ (q2 ++ q1)) := by unfold remR; rw [e]; simp
  have a2 : remR d m t (r + 1) = ((List.range d.1.toNat).map (slM d m t)).drop (r + 1) ++ (q2 ++ q1) := by unfold remR; rw [e2]; simp
  rw [a1, a2]
theorem sSlots1_ok {d : Int × Int × Int × (List (ByteArray × Int))} (hd : domE d = 0) : IterC Tryz.prog OA 132 [] [.p y39 d] (fun x : Sl => [.v y51 x]) (slAll d) := by
  refine IterC.enter Tryz.func132 rfl rfl (fun _ => rfl) fun yv II EE γ hy hI => ?_; show VC _ _ _ _ _ [(0, .raw yv), (1, .p y39 d)] γ _; refine VC.seq (VC.text ?_); have hdd := dom_ok hd; refine VO.c (.fa (.r (.r (.r .o)))) ?_; refine VO.r (.ld vt37) ?_; refine VO.r (.len el37) ?_; refine VO.c (.move rfl) ?_; refine VO.go (VC.block ?_); refine VC.keep [(0, .raw yv), (1, .p y39 d), (8, .v y37 d.2.2.2), (9, I ((d.2.2.2.length : Nat) : Int)), (10, I ((0 : Nat) : Int))] ⟨rfl, rfl, rfl, rfl, rfl, trivial⟩ ?_; refine VC.loop (I := fun kk ff ss => ∃ (m : Nat), kk = d.2.2.2.length - m ∧ ff = [(0, .raw yv), (1, .p y39 d), (8, .v y37 d.2.2.2), (9, I ((d.2.2.2.length : Nat) : Int)), (10, I ((m : Nat) : Int))] ∧ (m ≤ d.2.2.2.length) ∧ II (remR d m 0 0) ss) ?_ _ _ _ ⟨0, rfl, rfl, Nat.zero_le _, (by exact hI)⟩; rintro kk ff ss ⟨m, hk0, rfl, hm, hI⟩; refine VC.seq (VC.text ?_); refine VO.c (.lss) ?_; refine VO.go (VC.seq ?_); refine VC.condD rfl (fun c1 => ?_) (fun c1 => ?_)
  · have hm' : m < d.2.2.2.length := by omega
    refine VC.skip (VC.seq (VC.block (VC.seq (VC.text ?_)))); refine VO.c (.ix (j := m) rfl rfl el37 (by omega)) ?_; refine VO.r (.ld vt111) ?_; refine VO.cell (.alloc zt111) ?_; intro ww1; refine VO.setV (cs' := [St ((d.2.2.2[m]).1), I ((d.2.2.2[m]).2)]) vt111 .v ?_; refine VO.shut [(4, .p y111 (d.2.2.2[m]))] (.cons rfl (.var m0 .refl) .nil) ?_; refine VO.go (VC.seq (VC.text ?_)); refine VO.c (.fa (.r (.r (.l .o)))) ?_; refine VO.r (.ld vt3) ?_; refine VO.c (.move rfl) ?_; refine VO.go (VC.block ?_); refine VC.keep [(0, .raw yv), (1, .p y39 d), (4, .p y111 (d.2.2.2[m])), (8, .v y37 d.2.2.2), (9, I ((d.2.2.2.length : Nat) : Int)), (10, I ((m : Nat) : Int)), (15, I d.2.2.1), (16, I ((0 : Nat) : Int))] ⟨rfl, rfl, rfl, rfl, rfl, rfl, rfl, rfl, trivial⟩ ?_; refine VC.loop (I := fun kk ff ss => ∃ (t : Nat), kk = d.2.2.1.toNat - t ∧ ff = [(0, .raw yv), (1, .p y39 d), (4, .p y111 (d.2.2.2[m])), (8, .v y37 d.2.2.2), (9, I ((d.2.2.2.length : Nat) : Int)), (10, I ((m : Nat) : Int)), (15, I d.2.2.1), (16, I ((t : Nat) : Int))] ∧ (t ≤ d.2.2.1.toNat) ∧ II (remR d m t 0) ss) ?_ _ _ _ ⟨0, rfl, rfl, Nat.zero_le _, (by exact hI)⟩; rintro kk ff ss ⟨t, hk2, rfl, ht, hI⟩; refine VC.seq (VC.text ?_); refine VO.c (.lss) ?_; refine VO.go (VC.seq ?_); refine VC.condD rfl (fun c4 => ?_) (fun c4 => ?_)
    · refine VC.skip (VC.seq (VC.block (VC.seq (VC.text ?_)))); refine VO.c (.move rfl) (VO.c (.assign rfl) ?_); refine VO.go (VC.seq (VC.text ?_)); refine VO.c (.fa (.l .o)) ?_; refine VO.r (.ld vt3) ?_; refine VO.c (.move rfl) ?_; refine VO.go (VC.block ?_); refine VC.keep [(0, .raw yv), (1, .p y39 d), (4, .p y111 (d.2.2.2[m])), (5, I ((t : Nat) : Int)), (8, .v y37 d.2.2.2), (9, I ((d.2.2.2.length : Nat) : Int)), (10, I ((m : Nat) : Int)), (15, I d.2.2.1), (16, I ((t : Nat) : Int)), (20, I d.1), (21, I ((0 : Nat) : Int))] ⟨rfl, rfl, rfl, rfl, rfl, rfl, rfl, rfl, rfl, rfl, rfl, trivial⟩ ?_; refine VC.loop (I := fun kk ff ss => ∃ (r : Nat), kk = d.1.toNat - r ∧ ff = [(0, .raw yv), (1, .p y39 d), (4, .p y111 (d.2.2.2[m])), (5, I ((t : Nat) : Int)), (8, .v y37 d.2.2.2), (9, I ((d.2.2.2.length : Nat) : Int)), (10, I ((m : Nat) : Int)), (15, I d.2.2.1), (16, I ((t : Nat) : Int)), (20, I d.1), (21, I ((r : Nat) : Int))] ∧ (r ≤ d.1.toNat) ∧ II (remR d m t r) ss) ?_ _ _ _ ⟨0, rfl, rfl, Nat.zero_le _, (by exact hI)⟩; rintro kk ff ss ⟨r, hk4, rfl, hr, hI⟩; refine VC.seq (VC.text ?_); refine VO.c (.lss) ?_; refine VO.go (VC.seq ?_); refine VC.condD rfl (fun c7 => ?_) (fun c7 => ?_)
      · refine VC.skip (VC.seq (VC.block (VC.seq (VC.text ?_)))); refine VO.c (.move rfl) (VO.c (.assign rfl) ?_); refine VO.go (VC.seq (VC.text ?_)); refine VO.c (.move rfl) (VO.c (.fa (.l .o)) ?_); refine VO.r (.ld vt9) ?_; refine VO.c (.move rfl) (VO.c (.move rfl) (VO.c (.build ((d.2.2.2[m]).1, ((t : Nat) : Int), ((r : Nat) : Int)) bt51) ?_)); refine VO.callY0 rfl rfl (hy ((d.2.2.2[m]).1, ((t : Nat) : Int), ((r : Nat) : Int)) (remR d m t (r + 1)) _ (by rw [slM_eq hm', ← remR_cons hm' (by omega) (by omega)]; exact hI)) ?_; rintro _ ss (⟨rfl, hI⟩ | ⟨rfl, hE⟩)
        · refine VO.c (.not) (VO.go ?_); refine VC.condF rfl ?_; refine VC.skip (VC.text ?_); refine VO.c (.add rfl rfl (by omega)) (VO.c (.move rfl) ?_); refine VO.nil ?_; refine ⟨_, [(0, .raw yv), (1, .p y39 d), (4, .p y111 (d.2.2.2[m])), (5, I ((t : Nat) : Int)), (8, .v y37 d.2.2.2), (9, I ((d.2.2.2.length : Nat) : Int)), (10, I ((m : Nat) : Int)), (15, I d.2.2.1), (16, I ((t : Nat) : Int)), (20, I d.1), (21, I (((r + 1) : Nat) : Int))], ?_, ⟨rfl, rfl, rfl, rfl, rfl, rfl, rfl, rfl, rfl, rfl, rfl, trivial⟩, (r + 1), rfl, rfl, (by omega), (by exact hI)⟩; omega
        refine VO.c (.not) (VO.go ?_); refine VC.condT rfl ?_; refine VC.ret ?_; exact ⟨rfl, .inr hE⟩
      refine VC.exit (VC.text ?_); refine VO.c (.add rfl rfl (by omega)) (VO.c (.move rfl) ?_); refine VO.nil ?_; refine ⟨_, [(0, .raw yv), (1, .p y39 d), (4, .p y111 (d.2.2.2[m])), (8, .v y37 d.2.2.2), (9, I ((d.2.2.2.length : Nat) : Int)), (10, I ((m : Nat) : Int)), (15, I d.2.2.1), (16, I (((t + 1) : Nat) : Int))], ?_, ⟨rfl, rfl, rfl, rfl, rfl, rfl, rfl, rfl, trivial⟩, (t + 1), rfl, rfl, (by omega), (by rw [← remR_row, show d.1.toNat = r by omega]; exact hI)⟩; omega
    refine VC.exit (VC.text ?_); refine VO.c (.add rfl rfl (by omega)) (VO.c (.move rfl) ?_); refine VO.nil ?_; refine ⟨_, [(0, .raw yv), (1, .p y39 d), (8, .v y37 d.2.2.2), (9, I ((d.2.2.2.length : Nat) : Int)), (10, I (((m + 1) : Nat) : Int))], ?_, ⟨rfl, rfl, rfl, rfl, rfl, trivial⟩, (m + 1), rfl, rfl, (by omega), (by rw [← remR_tick, show d.2.2.1.toNat = t by omega]; exact hI)⟩; omega
  refine VC.exit ?_; exact ⟨rfl, .inl (by have e : remR d m 0 0 = [] := (by rw [remR, preR_end, show m = d.2.2.2.length by omega]; simp [slAll]); rw [e] at hI; exact hI)⟩
end Go.Proofs
namespace Go.Proofs
open Go.Fs Ieee
theorem vt136 : ValT Tryz.prog 136 y136 := valT_of (by kernel_rfl)
theorem zt136 : ZerT Tryz.prog 136 y136 := zerT_of (z := .map none) (by kernel_rfl) rfl rfl
theorem sSlots_ok {d : Int × Int × Int × (List (ByteArray × Int))} : VF Tryz.prog OA 96 [.v y39 d] (.clo 132 [] [.p y39 d]) := by
  refine VF.enter Tryz.func96 rfl (fun _ _ => rfl) rfl ?_; show VC _ _ _ _ _ [(0, .v y39 d)] [] _; refine VC.seq (VC.text ?_); refine VO.new (.box) ?_; refine VO.c (.assign rfl) ?_; refine VO.go (VC.seq (VC.text ?_)); refine VO.c (.func) (VO.c (.assign rfl) (VO.go ?_)); refine VC.ret ?_; exact VEnd.one rfl evT rfl
theorem nm_dist {d : Dom} (hd : domE d = 0) {i k : Nat} (hi : i < d.2.2.2.length) (hk : k < d.2.2.2.length) (e : nmE d.2.2.2 i = nmE d.2.2.2 k) : i = k := by
  have hz := (dom_ok hd).2.2.2.2.2; rcases Nat.lt_trichotomy i k with h | h | h
  · exact absurd e (mem_dist (hz k hk) h)
  · exact h
  exact absurd e.symm (mem_dist (hz i hi) h)
theorem slAll_nodup {d : Dom} (hd : domE d = 0) : (slAll d).Nodup := by
  unfold slAll preM preT List.Nodup; rw [List.pairwise_flatMap]; refine ⟨fun m hm => ?_, List.Pairwise.imp_of_mem (fun {m k} hm hk hlt x hx y hy e => ?_) List.pairwise_lt_range⟩
  · rw [List.pairwise_flatMap]; refine ⟨fun t _ => ?_, List.pairwise_lt_range.imp fun {t u} hlt x hx y hy e => ?_⟩
    · rw [List.pairwise_map]; refine List.pairwise_lt_range.imp fun {r q} hlt e => ?_; have : (r : Int) = q := congrArg (·.2.2) e; omega
    obtain ⟨r, _, rfl⟩ := List.mem_map.1 hx; obtain ⟨q, _, rfl⟩ := List.mem_map.1 hy; have : (t : Int) = u := congrArg (·.2.1) e; omega
  obtain ⟨t, _, hx⟩ := List.mem_flatMap.1 hx; obtain ⟨u, _, hy⟩ := List.mem_flatMap.1 hy; obtain ⟨r, _, rfl⟩ := List.mem_map.1 hx; obtain ⟨q, _, rfl⟩ := List.mem_map.1 hy; have := nm_dist hd (List.mem_range.1 hm) (List.mem_range.1 hk) (congrArg (·.1) e); omega
theorem mset_keys {α β : Type} [DecidableEq α] (m : List (α × β)) (x : α) (y : β) : (mset m x y).map (·.1) = if (mget m x).isSome then m.map (·.1) else m.map (·.1) ++ [x] := by
  induction m with
  | nil => rfl
  | cons p r ih =>
    obtain ⟨k, v⟩ := p; by_cases h : x = k
    · subst h; simp [mset, mget]
    simp only [mset, if_neg h, mget, List.map_cons, ih]; split <;> simp
theorem mget_mem {α β : Type} [DecidableEq α] {m : List (α × β)} {x : α} : x ∈ m.map (·.1) ↔ (mget m x).isSome = true := by
  induction m with
  | nil => simp [mget]
  | cons p r ih =>
    obtain ⟨k, v⟩ := p; by_cases h : x = k
    · subst h; simp [mget]
    rw [List.map_cons, List.mem_cons, ih, mget, if_neg h]; simp [h]
theorem runM_nodup (l : List Pc) (n : Int) : ∀ i, ((runM l n i).map (·.1)).Nodup
  | 0 => List.nodup_nil
  | i + 1 => by
    rw [runM]; split
    · rw [mset_keys]; split
      · exact runM_nodup l n i
      rename_i h; refine List.nodup_append.2 ⟨runM_nodup l n i, by simp, fun a ha b hb e => ?_⟩; rw [List.mem_singleton] at hb; subst hb; subst e; exact h (mget_mem.1 ha)
    exact runM_nodup l n i
theorem slot_in {d : Dom} {p : Pc} (hd : domE d = 0) (h : pcE d p = 0) : slotE p ∈ slAll d := by
  have h1 := (pc_lv h).1; rw [pcPre_eq hd] at h1; split at h1
  · contradiction
  split at h1
  · cases h1
  rename_i h2; split at h1
  · contradiction
  rename_i h3
  have h4 : firstE [rangeE p.2.2.1 0 (d.2.2.1 - 1), rangeE p.2.2.2.1 0 (d.1 - 1)] = 0 := by simpa using h3
  rw [firstE_zero] at h4; have h5 := rangeE_zero.1 (h4 _ List.mem_cons_self); have h6 := rangeE_zero.1 (h4 _ (List.mem_cons_of_mem _ List.mem_cons_self))
  have h7 : d.2.2.2.findIdx (fun m => decide (m.1 = p.2.1)) < d.2.2.2.length := by
    unfold memAt at h2; split at h2
    · assumption
    omega
  have h8 := List.findIdx_getElem (w := h7); have h9 := of_decide_eq_true h8; rw [nmE_eq h7] at h9; refine mem_preM.2 ⟨_, h7, p.2.2.1.toNat, by omega, p.2.2.2.1.toNat, by omega, ?_⟩; unfold slM slotE; rw [h9, Int.toNat_of_nonneg h5.1, Int.toNat_of_nonneg h6.1]
theorem has_len {d : Dom} {l : List Pc} {n : Int} (hs : storeE d l = 0) : (runM l n l.length).length + (missL d l n).length = (slAll d).length := by
  obtain ⟨hd, _, hz⟩ := store_dom hs
  have hp : ((runM l n l.length).map (·.1)).Perm ((slAll d).filter (fun s => !lost l n s)) := by
    refine (List.perm_ext_iff_of_nodup (runM_nodup l n _) (List.Pairwise.filter _ (slAll_nodup hd))).2 fun s => ?_; rw [mget_mem, fnd_run hz, List.mem_filter]; unfold lost; by_cases h : fndE l n s < 0
    · rw [if_pos h]; simp [h]
    rw [if_neg h]; refine ⟨fun _ => ⟨?_, by simp [h]⟩, fun _ => rfl⟩
    cases hg : mget (runM l n l.length) s with
    | none => rw [fnd_run hz, if_neg h] at hg; cases hg
    | some p =>
      obtain ⟨j, j1, rfl, _, j3⟩ := runM_some _ hg; rw [← j3]; exact slot_in hd (piece_zero (hz j j1))
  have h1 := hp.length_eq; rw [List.length_map] at h1
  have h2 : ∀ xs : List Sl, (xs.filter (fun s => !lost l n s)).length + (xs.filter (lost l n)).length = xs.length := fun xs => by
    induction xs with
    | nil => rfl
    | cons a r ih => cases hb : lost l n a <;> simp [List.filter_cons, hb] <;> omega
  rw [h1]; exact h2 _
theorem slAll_len {d : Dom} (hd : domE d = 0) : ((slAll d).length : Int) = (d.2.2.2.length : Int) * d.2.2.1 * d.1 := by
  have h := dom_ok hd
  have h1 : ∀ k, (preM d k).length = k * (d.2.2.1.toNat * d.1.toNat) := fun k => by
    induction k with
    | zero => simp [preM]
    | succ k ih => rw [preM_succ, List.length_append, ih, preT_len, Nat.succ_mul]
  unfold slAll; rw [h1, Int.natCast_mul, Int.natCast_mul, Int.toNat_of_nonneg (by omega), Int.toNat_of_nonneg (by omega), Int.mul_assoc]
theorem miss_ne {d : Dom} {l : List Pc} {n : Int} (hd : domE d = 0) {y : Sl} {q : List Sl} (h : missL d l n = y :: q) : ¬ (y.1, y.2.1, y.2.2) = (ByteArray.empty, (0 : Int), (0 : Int)) := fun e => by
  have hm : y ∈ missL d l n := by rw [h]; exact List.mem_cons_self
  obtain ⟨m, hm1, t, _, r, _, rfl⟩ := mem_preM.1 (List.mem_filter.1 hm).1; have h1 : nmE d.2.2.2 m = ByteArray.empty := congrArg (·.1) e; have h2 := (dom_ok hd).2.2.2.2.2 m hm1; unfold memE at h2; rw [firstE_zero] at h2; have h3 := h2 _ List.mem_cons_self; rw [h1] at h3; have h4 : nameB ByteArray.empty = false := decide_eq_false fun hh => hh.1 rfl; rw [h4] at h3; cases h3
theorem lost_look {d : Dom} {l : List Pc} {n : Int} (hs : storeE d l = 0) {x : Sl} : (mget (runM l n l.length) x).isSome = !lost l n x := by
  rw [fnd_run (store_dom hs).2.2]; unfold lost; by_cases h : fndE l n x < 0
  · rw [if_pos h, decide_eq_true h] <;> rfl
  rw [if_neg h, decide_eq_false h] <;> rfl
theorem fil_keep {l : List Pc} {n : Int} {x : Sl} {r : List Sl} (h : lost l n x = true) : (x :: r).filter (lost l n) = x :: r.filter (lost l n) := by rw [List.filter_cons, if_pos h]
theorem fil_skip {l : List Pc} {n : Int} {x : Sl} {r : List Sl} (h : lost l n x = false) : (x :: r).filter (lost l n) = r.filter (lost l n) := by rw [List.filter_cons, if_neg (by rw [h]; exact Bool.false_ne_true)]
theorem miss_num {d : Dom} {l : List Pc} {n : Int} (hs : storeE d l = 0) : (d.2.2.2.length : Int) * d.2.2.1 * d.1 - ((runM l n l.length).length : Nat) = ((missL d l n).length : Nat) := by
  have h1 := has_len (n := n) hs; have h2 := slAll_len (store_dom hs).1; omega
theorem sMiss_ok {d : Int × Int × Int × (List (ByteArray × Int))} {l : List (Int × ByteArray × Int × Int × (List Nat))} {n : Int} (hs : storeE d l = 0) (hl : l.length < 100000) : VF Tryz.prog OA 46 [.v y39 d, .v y33 l, I n] (.tup [I ((missL d l n).length : Nat), .v y51 ((missL d l n).headD z3)]) := by
  refine VF.enter Tryz.func46 rfl (fun _ _ => rfl) rfl ?_; show VC _ _ _ _ _ [(0, .v y39 d), (1, .v y33 l), (2, I n)] [] _; refine VC.seq (VC.text ?_); have hd := (store_dom hs).1; have hdd := dom_ok hd; have hb1 := mul_bound (a := (d.2.2.2.length : Int)) (b := d.2.2.1) (A := 16) (B := 96) (by omega) (by omega); have hb2 := mul_bound (a := (d.2.2.2.length : Int) * d.2.2.1) (b := d.1) (A := 16 * 96) (B := 8) hb1 (by omega); have hnum := miss_num (n := n) hs; refine VO.new (.box) ?_; refine VO.c (.assign rfl) ?_; refine VO.cell (.alloc zt51) ?_; intro ww1; refine VO.go ?_; refine VC.scope ?_; refine VC.seq (VC.text ?_); refine VO.c (.move rfl) (VO.c (.move rfl) ?_); refine VO.call rfl rfl (VF.call (sRun_ok hl)) ?_; refine VO.cell (.alloc zt136) ?_; intro ww2; refine VO.setV (cs' := [.v y136 (runM l n l.length)]) vt136 .v ?_; refine VO.shut [(8, .p y136 (runM l n l.length))] (.cons rfl (.var m0 .refl) .nil) ?_; refine VO.go (VC.seq (VC.text ?_)); refine VO.cell (.alloc zt51) ?_; intro ww3; refine VO.go (VC.seq ?_); refine VC.label ?_; refine VC.seq (VC.seq (VC.text ?_)); refine VO.r (.ld vt39) ?_; refine VO.call rfl rfl (VF.call (sSlots_ok )) ?_; refine VO.go (VC.block ?_); refine VC.keep [(3, .p y39 d), (7, .raw ww1), (8, .p y136 (runM l n l.length)), (9, .raw ww3), (17, .clo 132 [] [.p y39 d])] ⟨rfl, rfl, rfl, rfl, rfl, trivial⟩ ?_; refine VC.rangeFunc rfl (sSlots1_ok hd) (fun _ => rfl) rfl rfl (fun rest ss => ss = [(ww3, .var [St z3.1, I z3.2.1, I z3.2.2]), (ww1, .var [St ByteArray.empty, I (0 : Int), I (0 : Int)])] ∧ (missL d l n = rest.filter (lost l n))) (fun ee ss => (ee = .exit 0 ∧ ∃ (y : Sl), ss = [(ww3, .var [St y.1, I y.2.1, I y.2.2]), (ww1, .var [St ByteArray.empty, I (0 : Int), I (0 : Int)])] ∧ (∃ q, missL d l n = y :: q))) ⟨rfl, (by rfl)⟩ ?_ ?_ ?_
  · rintro jj x rest _ ⟨rfl, hr⟩; show VC _ _ _ _ _ [(18, .v y51 x), (3, .p y39 d), (7, .raw ww1), (8, .p y136 (runM l n l.length)), (9, .raw ww3), (17, .clo 132 [] [.p y39 d])] [(ww3, .var [St z3.1, I z3.2.1, I z3.2.2]), (ww1, .var [St ByteArray.empty, I (0 : Int), I (0 : Int)])] _; refine VC.text ?_; refine VO.cell (.alloc zt51) ?_; intro ww4; refine VO.setV (cs' := [St x.1, I x.2.1, I x.2.2]) vt51 .v ?_; refine VO.shut [(10, .p y51 x)] (.cons rfl (.var m0 .refl) .nil) ?_; refine VO.nil ?_; refine ⟨rfl, ?_⟩; refine VC.block (VC.seq (VC.text ?_)); refine VO.r (.ld vt136) ?_; refine VO.r (.ld vt51) ?_; refine VO.r (.lookOk mt136) ?_; refine VO.c (.move rfl) (VO.c (.extract) (VO.c (.extract) ?_)); refine VO.cell (.alloc zt43) ?_; intro ww5; refine VO.setV (cs' := [I (((mget (runM l n l.length) x).getD (0, ByteArray.empty, 0, 0, [])).1), St (((mget (runM l n l.length) x).getD (0, ByteArray.empty, 0, 0, [])).2.1), I (((mget (runM l n l.length) x).getD (0, ByteArray.empty, 0, 0, [])).2.2.1), I (((mget (runM l n l.length) x).getD (0, ByteArray.empty, 0, 0, [])).2.2.2.1), .v y41 (((mget (runM l n l.length) x).getD (0, ByteArray.empty, 0, 0, [])).2.2.2.2)]) vt43 .v ?_; refine VO.shut [(11, .p y43 ((mget (runM l n l.length) x).getD (0, ByteArray.empty, 0, 0, [])))] (.cons rfl (.var m0 .refl) .nil) ?_; refine VO.c (.assign rfl) ?_; refine VO.go (VC.seq (VC.text ?_)); refine VO.c (.move rfl) (VO.c (.not) (VO.go ?_)); refine VC.condB rfl (fun c6 => ?_) (fun c6 => ?_)
    · try simp only [Bool.and_eq_true, Bool.or_eq_true, Bool.and_eq_false_iff, Bool.or_eq_false_iff, Bool.not_eq_true', Bool.not_eq_false', decide_eq_true_eq, decide_eq_false_iff_not] at c6
      have hlx : lost l n x = true := by have := lost_look (n := n) hs (x := x); rw [show (mget (runM l n l.length) x).isSome = false from c6] at this; simpa using this.symm
      refine VC.seq (VC.text ?_); refine VO.r (.ld vt51) ?_; refine VO.setV (cs' := [St x.1, I x.2.1, I x.2.2]) vt51 .v ?_; refine VO.go (VC.exit ?_); exact .inr ⟨(by intro h; cases h), ⟨rfl, x, rfl, (by exact ⟨_, by rw [hr, fil_keep hlx]⟩)⟩⟩
    try simp only [Bool.and_eq_true, Bool.or_eq_true, Bool.and_eq_false_iff, Bool.or_eq_false_iff, Bool.not_eq_true', Bool.not_eq_false', decide_eq_true_eq, decide_eq_false_iff_not] at c6
    have hlx : lost l n x = false := by have := lost_look (n := n) hs (x := x); rw [show (mget (runM l n l.length) x).isSome = true from c6] at this; simpa using this.symm
    refine VC.skip ?_; exact .inl ⟨rfl, rfl, (by rw [hr, fil_skip hlx])⟩
  · rintro _ ⟨rfl, hr⟩; refine VC.seq (VC.seq (VC.text ?_)); refine VO.r (.ldA (dx := (z3.1, z3.2.1, z3.2.2)) m0 vt51) ?_; refine VO.c (.build (ByteArray.empty, 0, 0) bt51) (VO.c (.eeql eq51) (VO.go ?_)); refine VC.condD rfl (fun c8 => ?_) (fun c8 => ?_)
    · refine VC.seq (VC.drawn ?_); refine VD.r [(ww3, .var [St z3.1, I z3.2.1, I z3.2.2]), (ww1, .var [St ByteArray.empty, I (0 : Int), I (0 : Int)])] (.ldA (dx := (z3.1, z3.2.1, z3.2.2)) m0 vt51) (.inr ⟨rfl, rfl⟩) ?_; refine VD.c (.assign rfl) ?_; refine VD.perm swap1 ?_; refine VD.mk0 (MakeV.setF (k := 0) vt51 .v (Nat.le_of_ble_eq_true rfl) (.inr ⟨rfl, rfl⟩) rfl rfl) ?_; rintro _ _ tl6 ⟨rfl, rfl⟩; refine VD.go ?_; refine VC.ret ?_; exact VEnd.two rfl evT (.cell (x := (z3.1, z3.2.1, z3.2.2)) rfl m0 vt51 .refl) (pvI (by first | (rw [hr]; rfl) | exact absurd c8 (miss_ne hd he.choose_spec))) (pvE (by first | (rw [hr]; rfl) | exact absurd c8 (miss_ne hd he.choose_spec)))
    refine VC.skip (VC.seq (VC.drawn ?_)); refine VD.c (.fa (.r (.r (.r .o)))) ?_; refine VD.r [] (.ld vt37) (.inl rfl) ?_; refine VD.r [] (.len el37) (.inl rfl) ?_; refine VD.c (.fa (.r (.r (.l .o)))) ?_; refine VD.r [] (.ld vt3) (.inl rfl) ?_; refine VD.c (.mul rfl rfl (by exact ⟨by omega, by omega⟩)) (VD.nw [] (VD.c (.fa (.l .o)) ?_)); refine VD.r [] (.ld vt3) (.inl rfl) ?_; refine VD.c (.mul rfl rfl (by exact ⟨by omega, by omega⟩)) ?_; refine VD.r [] (.ld vt136) (.inl rfl) ?_; refine VD.r [] (.lenM mt136) (.inl rfl) ?_; refine VD.c (.sub rfl rfl (by rw [hnum]; have h1 := has_len (n := n) hs; have h2 := slAll_len hd; exact ⟨by omega, by omega⟩)) ?_; refine VD.r [(ww3, .var [St z3.1, I z3.2.1, I z3.2.2]), (ww1, .var [St ByteArray.empty, I (0 : Int), I (0 : Int)])] (.ldA (dx := (z3.1, z3.2.1, z3.2.2)) m0 vt51) (.inr ⟨rfl, rfl⟩) ?_; refine VD.nw [] (VD.c (.assign rfl) ?_); refine VD.perm swap1 ?_; refine VD.mk0 (MakeV.setF (k := 0) vt51 .v (Nat.le_of_ble_eq_true rfl) (.inr ⟨rfl, rfl⟩) rfl rfl) ?_; rintro _ _ tl7 ⟨rfl, rfl⟩; refine VD.go ?_; refine VC.ret ?_; exact VEnd.two rfl evT (.cell (x := (z3.1, z3.2.1, z3.2.2)) rfl m0 vt51 .refl) (pvI (by first | exact absurd rfl c8 | exact hnum)) (pvE (by first | exact absurd rfl c8 | (rw [he.choose_spec]; rfl)))
  rintro _ _ _ (⟨rfl, y, rfl, he⟩)
  · show VC _ _ _ _ _ _ _ _; refine VC.seq (VC.seq (VC.text ?_)); refine VO.r (.ldA (dx := (y.1, y.2.1, y.2.2)) m0 vt51) ?_; refine VO.c (.build (ByteArray.empty, 0, 0) bt51) (VO.c (.eeql eq51) (VO.go ?_)); refine VC.condD rfl (fun c8 => ?_) (fun c8 => ?_)
    · refine VC.seq (VC.drawn ?_); refine VD.r [(ww3, .var [St y.1, I y.2.1, I y.2.2]), (ww1, .var [St ByteArray.empty, I (0 : Int), I (0 : Int)])] (.ldA (dx := (y.1, y.2.1, y.2.2)) m0 vt51) (.inr ⟨rfl, rfl⟩) ?_; refine VD.c (.assign rfl) ?_; refine VD.perm swap1 ?_; refine VD.mk0 (MakeV.setF (k := 0) vt51 .v (Nat.le_of_ble_eq_true rfl) (.inr ⟨rfl, rfl⟩) rfl rfl) ?_; rintro _ _ tl8 ⟨rfl, rfl⟩; refine VD.go ?_; refine VC.ret ?_; exact VEnd.two rfl evT (.cell (x := (y.1, y.2.1, y.2.2)) rfl m0 vt51 .refl) (pvI (by first | (rw [hr]; rfl) | exact absurd c8 (miss_ne hd he.choose_spec))) (pvE (by first | (rw [hr]; rfl) | exact absurd c8 (miss_ne hd he.choose_spec)))
    refine VC.skip (VC.seq (VC.drawn ?_)); refine VD.c (.fa (.r (.r (.r .o)))) ?_; refine VD.r [] (.ld vt37) (.inl rfl) ?_; refine VD.r [] (.len el37) (.inl rfl) ?_; refine VD.c (.fa (.r (.r (.l .o)))) ?_; refine VD.r [] (.ld vt3) (.inl rfl) ?_; refine VD.c (.mul rfl rfl (by exact ⟨by omega, by omega⟩)) (VD.nw [] (VD.c (.fa (.l .o)) ?_)); refine VD.r [] (.ld vt3) (.inl rfl) ?_; refine VD.c (.mul rfl rfl (by exact ⟨by omega, by omega⟩)) ?_; refine VD.r [] (.ld vt136) (.inl rfl) ?_; refine VD.r [] (.lenM mt136) (.inl rfl) ?_; refine VD.c (.sub rfl rfl (by rw [hnum]; have h1 := has_len (n := n) hs; have h2 := slAll_len hd; exact ⟨by omega, by omega⟩)) ?_; refine VD.r [(ww3, .var [St y.1, I y.2.1, I y.2.2]), (ww1, .var [St ByteArray.empty, I (0 : Int), I (0 : Int)])] (.ldA (dx := (y.1, y.2.1, y.2.2)) m0 vt51) (.inr ⟨rfl, rfl⟩) ?_; refine VD.nw [] (VD.c (.assign rfl) ?_); refine VD.perm swap1 ?_; refine VD.mk0 (MakeV.setF (k := 0) vt51 .v (Nat.le_of_ble_eq_true rfl) (.inr ⟨rfl, rfl⟩) rfl rfl) ?_; rintro _ _ tl9 ⟨rfl, rfl⟩; refine VD.go ?_; refine VC.ret ?_; exact VEnd.two rfl evT (.cell (x := (y.1, y.2.1, y.2.2)) rfl m0 vt51 .refl) (pvI (by first | exact absurd rfl c8 | exact hnum)) (pvE (by first | exact absurd rfl c8 | (rw [he.choose_spec]; rfl)))
end Go.Proofs
namespace Go.Proofs
open Go.Fs Ieee
theorem cCompact_ok {w_xs : Value} {xs : List Int} (hn : xs.length < 1000000) : VFG Tryz.prog OA 97 [.raw w_xs] [(w_xs, .row 3 (.int .i64) xs)] (fun r' g => r' = (.v y31 (cptA 0 xs xs.length)) ∧ g = []) := by
  refine VFG.enterC Tryz.func97 rfl (fun _ _ => rfl) rfl ?_; show VC _ _ _ _ _ [(0, .raw w_xs)] [(w_xs, .row 3 (.int .i64) xs)] _; refine VC.seq (VC.text ?_); refine VO.c (.assign rfl) ?_; refine VO.go (VC.seq (VC.seq (VC.text ?_))); refine VO.c (.move rfl) ?_; refine VO.r (.lenO m0 el31) ?_; refine VO.c (.lss) (VO.go ?_); refine VC.condD rfl (fun c1 => ?_) (fun c1 => ?_)
  · refine VC.seq (VC.text ?_); refine VO.c (.move rfl) (VO.c (.assign rfl) (VO.go ?_)); refine VC.ret ?_; exact VEnd.one rfl (evC (.row m0)) (pvE (by (have h1 : xs.length < 2 := by omega); rw [cptA_all (Nat.le_refl _) (fun j h2 h3 => by omega), List.take_length]))
  refine VC.skip (VC.seq (VC.seq (VC.text ?_))); refine VO.c (.assign rfl) ?_; refine VO.go (VC.block ?_); refine VC.keep [(0, .raw w_xs), (3, I ((1 : Nat) : Int))] ⟨rfl, rfl, trivial⟩ ?_; refine VC.loop (I := fun kk ff ss => ∃ (k : Nat), kk = xs.length - k ∧ ff = [(0, .raw w_xs), (3, I ((k : Nat) : Int))] ∧ ss = [(w_xs, .row 3 (.int .i64) xs)] ∧ (1 ≤ k ∧ k ≤ xs.length) ∧ (∀ j, 0 < j → j < k → xs.getD j 0 ≠ xs.getD (j - 1) 0)) ?_ _ _ _ ⟨1, rfl, rfl, rfl, (by omega), (by intro j h1 h2; omega)⟩; rintro kk ff ss ⟨k, hk0, rfl, rfl, hk, hall⟩; refine VC.seq (VC.seq (VC.text ?_)); refine VO.c (.move rfl) (VO.c (.move rfl) ?_); refine VO.r (.lenO m0 el31) ?_; refine VO.c (.lss) (VO.go ?_); refine VC.condD rfl (fun c4 => ?_) (fun c4 => ?_)
  · have hk2 : k < xs.length := by omega
    refine VC.skip (VC.seq (VC.block (VC.seq (VC.drawn ?_)))); refine VD.c (.move rfl) (VD.c (.move rfl) ?_); refine VD.co (.ixO (j := k) rfl rfl m0 el31 (by omega)) ?_; refine VD.r [(w_xs, .row 3 (.int .i64) xs)] (.ldO rfl m0 vt3 (by omega)) (.inr ⟨rfl, rfl⟩) ?_; refine VD.c (.move rfl) (VD.c (.move rfl) (VD.nw [] (VD.c (.sub rfl rfl (by omega)) ?_))); refine VD.co (.ixO (j := k - 1) rfl (congrArg (fun z : Int => some (PV.v (.int .i64) z)) (show (((k : Nat) : Int) - (1 : Int)) = ((k - 1 : Nat) : Int) by omega)) m0 el31 (by omega)) ?_; refine VD.r [(w_xs, .row 3 (.int .i64) xs)] (.ldO rfl m0 vt3 (by omega)) (.inr ⟨rfl, rfl⟩) ?_; refine VD.c (.eql) (VD.go ?_); refine VC.condD rfl (fun c6 => ?_) (fun c6 => ?_)
    · have c6' : xs.getD k 0 = xs.getD (k - 1) 0 := by rw [getDg _ _ hk2, getDg _ _ (by omega)]; exact c6
      have hs0 : cptR 0 xs (k + 1) = xs := by rw [cptR_eq (by omega) c6', cptR_start (by omega) hall]
      have hc0 : (cptA 0 xs (k + 1)).length = k := by rw [cptA_eq (by omega) c6', cptA_all (by omega) hall, List.length_take]; omega
      refine VC.seq (VC.text ?_); refine VO.c (.move rfl) (VO.c (.move rfl) ?_); refine VO.r (.restO (k := k) rfl rfl m0 el31 (by omega) (by omega)) ?_; refine VO.c (.assign rfl) ?_; refine VO.go (VC.seq (VC.seq (VC.text ?_))); refine VO.c (.assign rfl) ?_; refine VO.go (VC.block ?_); refine VC.keep [(0, .raw w_xs), (3, I (((cptA 0 xs (k + 1)).length : Nat) : Int)), (4, .raw (rowFrom w_xs 1 k)), (5, I ((1 : Nat) : Int))] ⟨rfl, slI rfl (by rw [hc0]), rfl, rfl, trivial⟩ ?_; refine VC.loop (I := fun kk ff ss => ∃ (m : Nat), kk = xs.length - k - m ∧ ff = [(0, .raw w_xs), (3, I (((cptA 0 xs (k + m)).length : Nat) : Int)), (4, .raw (rowFrom w_xs 1 k)), (5, I ((m : Nat) : Int))] ∧ ss = [(w_xs, .row 3 (.int .i64) (cptR 0 xs (k + m)))] ∧ (1 ≤ m ∧ k + m ≤ xs.length) ∧ ((cptA 0 xs (k + m)).length + 1 ≤ k + m)) ?_ _ _ _ ⟨1, rfl, rfl, (by rw [hs0]), (by omega), (by rw [hc0]; omega)⟩; rintro kk ff ss ⟨m, hk2, rfl, rfl, hm, hc⟩; have hR : (cptR 0 xs (k + m)).length = xs.length := cptR_len hm.2; refine VC.seq (VC.seq (VC.text ?_)); refine VO.c (.move rfl) (VO.c (.move rfl) ?_); refine VO.r (.lenF (k := k) m0 el31 (by omega)) ?_; refine VO.c (.lss) (VO.go ?_); refine VC.condD rfl (fun c9 => ?_) (fun c9 => ?_)
      · have hm' : k + m < xs.length := by omega
        have he : (cptR 0 xs (k + m))[k + m]'(by omega) = xs.getD (k + m) 0 := by rw [← getDg _ 0 (by omega), cptR_at (by omega)]
        have he2 : (cptR 0 xs (k + m))[k + Int.toNat (((m : Nat) : Int) - (1 : Int))]'(by omega) = xs.getD (k + m - 1) 0 := by rw [← getDg _ 0 (by omega), cptR_at (by omega)]; congr 1; omega
        refine VC.skip (VC.seq (VC.block (VC.seq (VC.drawn ?_)))); refine VD.c (.move rfl) (VD.c (.move rfl) ?_); refine VD.co (.ixF (j := m) (k := k) rfl rfl m0 el31 (by omega)) ?_; refine VD.r [(w_xs, .row 3 (.int .i64) (cptR 0 xs (k + m)))] (.ldO rfl m0 vt3 (by omega)) (.inr ⟨rfl, rfl⟩) ?_; refine VD.c (.move rfl) (VD.c (.move rfl) (VD.nw [] (VD.c (.sub rfl rfl (by omega)) ?_))); refine VD.co (.ixFZ (z := (((m : Nat) : Int) - (1 : Int))) (k := k) rfl rfl m0 el31 (by omega) (by omega)) ?_; refine VD.r [(w_xs, .row 3 (.int .i64) (cptR 0 xs (k + m)))] (.ldO rfl m0 vt3 (by omega)) (.inr ⟨rfl, rfl⟩) ?_; refine VD.c (.neq) (VD.go ?_); refine VC.condD rfl (fun c11 => ?_) (fun c11 => ?_)
        · have c11' : xs.getD (k + m) 0 ≠ xs.getD (k + m - 1) 0 := by rw [← he, ← he2]; exact c11
          refine VC.seq (VC.text ?_); refine VO.c (.move rfl) (VO.c (.move rfl) (VO.c (.move rfl) (VO.c (.move rfl) ?_))); refine VO.c (.ixF (j := m) (k := k) rfl rfl m0 el31 (by omega)) ?_; refine VO.r (.ldO rfl m0 vt3 (by omega)) ?_; refine VO.c (.ixO (j := ((cptA 0 xs (k + m)).length)) rfl rfl m0 el31 (by omega)) ?_; refine VO.setE ((cptA 0 xs (k + m)).length) rfl rfl vt3 (by omega) ?_; refine VO.go (VC.text ?_); refine VO.c (.move rfl) (VO.c (.add rfl rfl (by omega)) (VO.c (.assign rfl) ?_)); refine VO.nil (VC.text ?_); refine VO.c (.move rfl) (VO.c (.add rfl rfl (by omega)) (VO.c (.assign rfl) ?_)); refine VO.nil ?_; refine ⟨_, [(0, .raw w_xs), (3, I (((cptA 0 xs (k + (m + 1))).length : Nat) : Int)), (4, .raw (rowFrom w_xs 1 k)), (5, I (((m + 1) : Nat) : Int))], ?_, ⟨rfl, slI rfl (by first | (rw [← Nat.add_assoc, cptA_ne c11', List.length_append]; rfl) | rw [← Nat.add_assoc, cptA_eq (by omega) c11']), rfl, rfl, trivial⟩, (m + 1), rfl, rfl, (by first | (rw [← Nat.add_assoc, cptR_ne (by omega) c11', he]) | rw [← Nat.add_assoc, cptR_eq (by omega) c11']), (by omega), (by first | (rw [← Nat.add_assoc, cptA_ne c11', List.length_append, List.length_singleton]; omega) | (rw [← Nat.add_assoc, cptA_eq (by omega) c11']; omega))⟩; omega
        have c11' : xs.getD (k + m) 0 = xs.getD (k + m - 1) 0 := by rw [← he, ← he2]; simpa using c11
        refine VC.skip (VC.text ?_); refine VO.c (.move rfl) (VO.c (.add rfl rfl (by omega)) (VO.c (.assign rfl) ?_)); refine VO.nil ?_; refine ⟨_, [(0, .raw w_xs), (3, I (((cptA 0 xs (k + (m + 1))).length : Nat) : Int)), (4, .raw (rowFrom w_xs 1 k)), (5, I (((m + 1) : Nat) : Int))], ?_, ⟨rfl, slI rfl (by first | (rw [← Nat.add_assoc, cptA_ne c11', List.length_append]; rfl) | rw [← Nat.add_assoc, cptA_eq (by omega) c11']), rfl, rfl, trivial⟩, (m + 1), rfl, rfl, (by first | (rw [← Nat.add_assoc, cptR_ne (by omega) c11', he]) | rw [← Nat.add_assoc, cptR_eq (by omega) c11']), (by omega), (by first | (rw [← Nat.add_assoc, cptA_ne c11', List.length_append, List.length_singleton]; omega) | (rw [← Nat.add_assoc, cptA_eq (by omega) c11']; omega))⟩; omega
      refine VC.exit (VC.seq (VC.text ?_)); refine VO.c (.move rfl) (VO.c (.move rfl) ?_); refine VO.r (.restO (k := ((cptA 0 xs (k + m)).length)) rfl rfl m0 el31 (by omega) (by omega)) ?_; refine VO.clear0 (k := ((cptA 0 xs (k + m)).length)) el31 zt3 (by omega) (by omega) ?_; refine VO.go (VC.seq (VC.text ?_)); refine VO.c (.move rfl) (VO.c (.move rfl) ?_); refine VO.shut [(0, .v y31 ((cptR 0 xs (k + m)).take ((cptA 0 xs (k + m)).length) ++ List.replicate ((cptR 0 xs (k + m)).length - ((cptA 0 xs (k + m)).length)) 0)), (54, .v y31 ((cptR 0 xs (k + m)).take ((cptA 0 xs (k + m)).length) ++ List.replicate ((cptR 0 xs (k + m)).length - ((cptA 0 xs (k + m)).length)) 0)), (57, .v y31 ((cptR 0 xs (k + m)).take ((cptA 0 xs (k + m)).length) ++ List.replicate ((cptR 0 xs (k + m)).length - ((cptA 0 xs (k + m)).length)) 0))] (.cons rfl (.row m0) (.cons rfl (.row m0) (.cons rfl (.row m0) .nil))) ?_; refine VO.r (.cutH rfl rfl el31 (by simp; omega)) ?_; refine VO.c (.assign rfl) (VO.go ?_); refine VC.ret ?_; exact VEnd.one rfl evT (pvE (by rw [Int.toNat_natCast, show k + m = xs.length by omega, cptR_take, List.take_left]))
    have c6' : xs.getD k 0 ≠ xs.getD (k - 1) 0 := by rw [getDg _ _ hk2, getDg _ _ (by omega)]; exact c6
    refine VC.skip (VC.text ?_); refine VO.c (.move rfl) (VO.c (.add rfl rfl (by omega)) (VO.c (.assign rfl) ?_)); refine VO.nil ?_; refine ⟨_, [(0, .raw w_xs), (3, I (((k + 1) : Nat) : Int))], ?_, ⟨rfl, rfl, trivial⟩, (k + 1), rfl, rfl, rfl, (by omega), (by intro j h1 h2; rcases Nat.lt_succ_iff_lt_or_eq.1 h2 with h | h; exact hall j h1 h; subst h; exact c6')⟩; omega
  refine VC.exit (VC.seq (VC.text ?_)); refine VO.c (.move rfl) (VO.c (.assign rfl) (VO.go ?_)); refine VC.ret ?_; exact VEnd.one rfl (evC (.row m0)) (pvE (by rw [cptA_all (Nat.le_refl _) (fun j h1 h2 => hall j h1 (by omega)), List.take_length]))
theorem sMapPI_ok {F : Int × ByteArray × Int × Int × List Nat → Int} {l : List (Int × ByteArray × Int × Int × (List Nat))} {f : PV} (hl : l.length < 100000) (hf : ∀ x ∈ l, VCall Tryz.prog OA f [.v y43 x] (I (F x))) : VFG Tryz.prog OA 98 [.v y33 l, f] [] (fun r g => ∃ w, r = .raw w ∧ g = [(w, .row 3 (.int .i64) (l.map F))]) := by
  refine VFG.enter Tryz.func98 rfl (fun _ _ => rfl) rfl ?_; show VC _ _ _ _ _ [(0, .v y33 l), (1, f)] [] _; refine VC.seq (VC.text ?_); refine VO.c (.assign rfl) ?_; refine VO.go (VC.seq (VC.text ?_)); refine VO.c (.assign rfl) ?_; refine VO.go (VC.seq (VC.seq (VC.text ?_))); refine VO.c (.move rfl) ?_; refine VO.r (.len el33) ?_; refine VO.c (.move rfl) ?_; refine VO.go (VC.block ?_); refine VC.cell0 3 (.int .i64) ?_; refine VC.keep [(1, f), (5, .raw (.slice none 0 0)), (8, .v y33 l), (9, I ((l.length : Nat) : Int)), (10, I ((0 : Nat) : Int))] ⟨rfl, rfl, rfl, rfl, rfl, trivial⟩ ?_; refine VC.loop (I := fun kk ff ss => ∃ (j : Nat) (out : Value), kk = l.length - j ∧ ff = [(1, f), (5, .raw out), (8, .v y33 l), (9, I ((l.length : Nat) : Int)), (10, I ((j : Nat) : Int))] ∧ ss = [(out, .row 3 (.int .i64) ((l.take j).map F))] ∧ (j ≤ l.length)) ?_ _ _ _ ⟨0, (.slice none 0 0), rfl, rfl, rfl, Nat.zero_le _⟩; rintro kk ff ss ⟨j, out, hk0, rfl, rfl, hj⟩; refine VC.seq (VC.text ?_); refine VO.c (.lss) ?_; refine VO.go (VC.seq ?_); refine VC.condD rfl (fun c3 => ?_) (fun c3 => ?_)
  · refine VC.skip (VC.seq (VC.block (VC.seq (VC.text ?_)))); refine VO.c (.ix (j := j) rfl rfl el33 (by omega)) ?_; refine VO.r (.ld vt43) ?_; refine VO.cell (.alloc zt43) ?_; intro ww1; refine VO.setV (cs' := [I ((l[j]).1), St ((l[j]).2.1), I ((l[j]).2.2.1), I ((l[j]).2.2.2.1), .v y41 ((l[j]).2.2.2.2)]) vt43 .v ?_; refine VO.shut [(7, .p y43 (l[j]))] (.cons rfl (.var m0 .refl) .nil) ?_; refine VO.go (VC.text ?_); refine VO.c (.move rfl) (VO.c (.move rfl) ?_); refine VO.r (.ld vt43) ?_; refine VO.call rfl rfl ((hf _ (List.getElem_mem _)) ) ?_; refine VO.new (.lit [F (l[j])] el31) ?_; refine VO.app rfl rfl el31 el31 (by simp; omega) ?_; intro ww2; refine VO.c (.assign rfl) ?_; refine VO.nil (VC.text ?_); refine VO.c (.add rfl rfl (by omega)) (VO.c (.move rfl) ?_); refine VO.nil ?_; refine ⟨_, [(1, f), (5, .raw ww2), (8, .v y33 l), (9, I ((l.length : Nat) : Int)), (10, I (((j + 1) : Nat) : Int))], ?_, ⟨rfl, rfl, rfl, rfl, rfl, trivial⟩, (j + 1), ww2, rfl, rfl, (by rw [List.take_succ_eq_append_getElem (by omega), List.map_append] <;> rfl), (by omega)⟩; omega
  refine VC.exit (VC.seq (VC.text ?_)); refine VO.c (.move rfl) (VO.c (.assign rfl) (VO.go ?_)); refine VC.ret ?_; exact VEndG.row rfl evT ⟨out, rfl, (by rw [List.take_of_length_le (by omega)])⟩
theorem sRuns1_ok {p : Int × ByteArray × Int × Int × (List Nat)} : VF Tryz.prog OA 99 [.v y43 p] (I p.1) := by
  refine VF.enter Tryz.func99 rfl (fun _ _ => rfl) rfl ?_; show VC _ _ _ _ _ [(0, .v y43 p)] [] _; refine VC.seq (VC.text ?_); refine VO.new (.box) ?_; refine VO.c (.assign rfl) ?_; refine VO.go (VC.seq (VC.text ?_)); refine VO.c (.fa (.l .o)) ?_; refine VO.r (.ld vt3) ?_; refine VO.c (.assign rfl) (VO.go ?_); refine VC.ret ?_; exact VEnd.one rfl evT (pvI (by first | rfl | simp))
def rnL (l : List Pc) : List Int := l.map (·.1)
def runsE (l : List Pc) : List Int := cptA 0 (rnL l) (rnL l).length
def runsV (d : Dom) (l : List Pc) : List Int × Int := if storeE d l ≠ 0 then ([], storeE d l) else (runsE l, 0)
theorem sRuns_ok {d : Int × Int × Int × (List (ByteArray × Int))} {l : List (Int × ByteArray × Int × Int × (List Nat))} (hl : l.length < 100000) (hr : ∀ r ∈ l, r.2.2.2.2.length < 100000) : VF Tryz.prog OA 47 [.v y39 d, .v y33 l] (.tup [.v y31 ((runsV d l).1), I ((runsV d l).2)]) := by
  refine VF.enter Tryz.func47 rfl (fun _ _ => rfl) rfl ?_; show VC _ _ _ _ _ [(0, .v y39 d), (1, .v y33 l)] [] _; refine VC.seq (VC.text ?_); refine VO.new (.box) ?_; refine VO.c (.assign rfl) (VO.c (.assign rfl) ?_); refine VO.go (VC.seq (VC.seq (VC.text ?_))); refine VO.r (.ld vt39) ?_; refine VO.c (.move rfl) ?_; refine VO.call rfl rfl (VF.call (sStore_ok hl hr)) ?_; refine VO.c (.assign rfl) ?_; refine VO.go (VC.seq (VC.text ?_)); refine VO.c (.move rfl) (VO.c (.neq) (VO.go ?_)); refine VC.condD rfl (fun c2 => ?_) (fun c2 => ?_)
  · refine VC.seq (VC.text ?_); refine VO.c (.move rfl) (VO.c (.assign rfl) (VO.c (.assign rfl) (VO.go ?_))); refine VC.ret ?_; exact VEnd.two rfl (evC .nil) evT (pvE (by rw [runsV, if_pos c2])) (pvI (by rw [runsV, if_pos c2]))
  refine VC.skip (VC.seq (VC.text ?_)); refine VO.c (.move rfl) ?_; refine VO.callG [] rfl rfl rfl (VFG.call (sMapPI_ok (F := fun p => p.1) hl (fun _ _ => VF.call sRuns1_ok))) ?_; rintro _ _ ⟨ww3, rfl, rfl⟩; show VO _ _ _ _ _ _ [(ww3, .row 3 (.int .i64) (l.map (fun p => p.1)))] _; refine VO.callG [(ww3, .row 3 (.int .i64) (l.map (fun p => p.1)))] rfl rfl rfl (VFG.call (cCompact_ok (by simp; omega))) ?_; rintro _ _ ⟨rfl, rfl⟩; show VO _ _ _ _ _ _ [] _; refine VO.c (.assign rfl) (VO.c (.assign rfl) (VO.go ?_)); refine VC.ret ?_; exact VEnd.two rfl evT evT (pvE (by rw [runsV, if_neg c2]; rfl)) (pvI (by rw [runsV, if_neg c2]))
end Go.Proofs
namespace Go.Proofs
open Go.Fs Ieee
theorem vt33 : ValT Tryz.prog 33 y33 := valT_of (by kernel_rfl)
theorem zt34 : ZerT Tryz.prog 34 (.int .i64) := zerT_of (z := .int .i64 0) (by kernel_rfl) rfl rfl
def fndL (p : Int → Bool) : List (Int × Int) → Int × Int
  | [] => (0, 7)
  | x :: r => if p x.2 then (x.2, 0) else fndL p r
def bwL (xs : List Int) : Nat → List (Int × Int)
  | 0 => []
  | i + 1 => ((i : Int), xs.getD i 0) :: bwL xs i
def bstE (p : Int → Bool) (xs : List Int) : Nat → Int
  | 0 => -1
  | i + 1 => if p (xs.getD i 0) = true then max (bstE p xs i) (xs.getD i 0) else bstE p xs i
theorem asc_le {xs : List Int} (hs : ∀ i, i + 1 < xs.length → xs.getD i 0 ≤ xs.getD (i + 1) 0) {j : Nat} : ∀ {i : Nat}, j ≤ i → i < xs.length → xs.getD j 0 ≤ xs.getD i 0
  | 0, h, _ => by rw [show j = 0 by omega]; exact Int.le_refl _
  | i + 1, h, hi => by
    rcases Nat.lt_or_eq_of_le h with h1 | h1
    · exact Int.le_trans (asc_le hs (by omega) (by omega)) (hs i hi)
    rw [h1]; exact Int.le_refl _
theorem cpt_sub {xs : List Int} : ∀ {i : Nat}, i ≤ xs.length → (cptA 0 xs i).Sublist (xs.take i)
  | 0, _ => by simp [cptA]
  | i + 1, hi => by
    have ih := cpt_sub (xs := xs) (i := i) (by omega); rw [List.take_succ_eq_append_getElem (by omega)]; unfold cptA; split
    · exact ih.trans (List.sublist_append_left _ _)
    rw [getDg _ _ (by omega)]; exact ih.append (List.Sublist.refl _)
theorem asc_pair {xs : List Int} (hs : ∀ i, i + 1 < xs.length → xs.getD i 0 ≤ xs.getD (i + 1) 0) : xs.Pairwise (· ≤ ·) := List.pairwise_iff_getElem.2 fun i j hi hj h => by
  have := asc_le hs (Nat.le_of_lt h) hj
  rwa [getDg _ _ hi, getDg _ _ hj] at this
theorem bst_fnd {p : Int → Bool} {xs : List Int} (hs : xs.Pairwise (· ≤ ·)) (h0 : ∀ x ∈ xs, 0 ≤ x) : ∀ {i : Nat}, i ≤ xs.length → (bstE p xs i = -1 ∧ fndL p (bwL xs i) = (0, 7)) ∨ (0 ≤ bstE p xs i ∧ fndL p (bwL xs i) = (bstE p xs i, 0) ∧ ∃ j, j < i ∧ bstE p xs i = xs.getD j 0)
  | 0, _ => .inl ⟨rfl, rfl⟩
  | i + 1, hi => by
    have ih := bst_fnd (p := p) hs h0 (i := i) (by omega)
    have hx0 : 0 ≤ xs.getD i 0 := by rw [getDg _ _ hi]; exact h0 _ (List.getElem_mem _)
    unfold bstE bwL fndL; by_cases h : p (xs.getD i 0) = true
    · have hm : max (bstE p xs i) (xs.getD i 0) = xs.getD i 0 := by
        rcases ih with ⟨e, _⟩ | ⟨_, _, j, h1, h2⟩
        · rw [e]; omega
        have h3 := List.pairwise_iff_getElem.1 hs j i (by omega) hi h1; rw [← getDg _ 0 (by omega), ← getDg _ 0 hi] at h3; omega
      simp only [if_pos h, hm]; exact .inr ⟨hx0, by trivial, i, by omega, by trivial⟩
    simp only [if_neg h]; rcases ih with h1 | ⟨h1, h2, j, h3, h4⟩
    · exact .inl h1
    exact .inr ⟨h1, h2, j, by omega, h4⟩
theorem rn_asc {d : Dom} {l : List Pc} (hz : ∀ k, k < l.length → pieceE d l k = 0) : ∀ i, i + 1 < (rnL l).length → (rnL l).getD i 0 ≤ (rnL l).getD (i + 1) 0 := fun i hi => by
  have hl : (rnL l).length = l.length := by simp [rnL]
  have h1 := step_lt (hz (i + 1) (by omega))
  have e : ∀ k, k < l.length → (rnL l).getD k 0 = (pcA l k).1 := fun k hk => by rw [getDg _ _ (by omega), ← pcA_eq hk]; simp [rnL]
  rw [e i (by omega), e (i + 1) (by omega)]; unfold cmpP at h1
  have e3 : 0 ≤ firstE [] := by decide
  simp only [firstE_cmp, e3, and_true] at h1; unfold plE at h1; simp only at h1; omega
def latP (d : Dom) (l : List Pc) (now r : Int) : Bool := decide (missL d l r = []) && decide (r ≤ now)
def latE (d : Dom) (l : List Pc) (now : Int) : Int × Int := fndL (latP d l now) (bwL (runsE l) (runsE l).length)
def latV (d : Dom) (l : List Pc) (now : Int) : Int × Int := if fieldA d l now ≠ 0 then (0, fieldA d l now) else latE d l now
def latR (d : Dom) (l : List Pc) (now : Int) : Int := bstE (latP d l now) (runsE l) (runsE l).length
theorem lat_same {d : Dom} {l : List Pc} {now : Int} (hs : storeE d l = 0) : latE d l now = if latR d l now < 0 then (0, 7) else (latR d l now, 0) := by
  obtain ⟨_, _, hz⟩ := store_dom hs; have h1 := asc_pair (rn_asc hz)
  have h2 : (runsE l).Pairwise (· ≤ ·) := by
    have := cpt_sub (xs := rnL l) (Nat.le_refl _); rw [List.take_length] at this; exact h1.sublist this
  have h3 : ∀ x ∈ runsE l, 0 ≤ x := fun x hx => by
    have h4 := (cpt_sub (xs := rnL l) (Nat.le_refl _)).subset hx; rw [List.take_length] at h4; obtain ⟨p, hp, rfl⟩ := List.mem_map.1 h4; obtain ⟨i, hi, rfl⟩ := List.getElem_of_mem hp; have h5 := (pc_lv (piece_zero (hz i hi))).1; rw [pcA_eq hi]; unfold pcPre at h5; rw [firstE_zero] at h5; exact (rangeE_zero.1 (h5 _ List.mem_cons_self)).1
  unfold latE latR; rcases bst_fnd (p := latP d l now) h2 h3 (Nat.le_refl _) with ⟨e1, e2⟩ | ⟨e1, e2, _⟩
  · rw [e1, e2] <;> rfl
  rw [e2, if_neg (by omega)]
theorem bw_cons {xs : List Int} {k : Nat} (h : 0 < k) (hk : k ≤ xs.length) {i : Int} (hi : i = (k : Int) - 1) (h' : i.toNat < xs.length) : (i, xs[i.toNat]) :: bwL xs (k - 1) = bwL xs k := by
  obtain ⟨q, rfl⟩ : ∃ q, k = q + 1 := ⟨k - 1, by omega⟩; subst hi; rw [bwL, getDg _ _ (show q < xs.length by omega)]; simp
theorem fndL_skip {p : Int → Bool} {x : Int × Int} {r : List (Int × Int)} (h : p x.2 = false) : fndL p (x :: r) = fndL p r := by rw [fndL, h] <;> rfl
theorem fndL_hit {p : Int → Bool} {x : Int × Int} {r : List (Int × Int)} (h : p x.2 = true) : fndL p (x :: r) = (x.2, 0) := by rw [fndL, h] <;> rfl
theorem runsV_2 {d : Dom} {l : List Pc} : (runsV d l).2 = storeE d l := by
  unfold runsV; split
  · rfl
  rename_i h; exact (by simpa using h : storeE d l = 0).symm
theorem runsV_1 {d : Dom} {l : List Pc} (h : storeE d l = 0) : (runsV d l).1 = runsE l := by rw [runsV, if_neg (by simpa using h)]
def missV (d : Dom) (l : List Pc) (n : Int) : Int × Sl × Int := if fieldA d l n ≠ 0 then (0, z3, fieldA d l n) else (((missL d l n).length : Nat), (missL d l n).headD z3, 0)
theorem cBack1_ok {xs : List Int} (hn : xs.length < 1000000) : IterC Tryz.prog OA 100 [] [.p y31 xs] (fun x : Int × Int => [I x.1, I x.2]) (bwL xs xs.length) := by
  refine IterC.enter Tryz.func100 rfl rfl (fun _ => rfl) fun yv II EE γ hy hI => ?_; show VC _ _ _ _ _ [(0, .raw yv), (1, .p y31 xs)] γ _; refine VC.seq (VC.text ?_); refine VO.r (.ld vt31) ?_; refine VO.r (.len el31) ?_; refine VO.c (.sub rfl rfl (by omega)) (VO.c (.assign rfl) ?_); refine VO.go (VC.block ?_); refine VC.keep [(0, .raw yv), (1, .p y31 xs), (3, I (((xs.length : Nat) : Int) - 1))] ⟨rfl, rfl, rfl, trivial⟩ ?_; refine VC.loop (I := fun kk ff ss => ∃ (k : Nat), kk = k ∧ ff = [(0, .raw yv), (1, .p y31 xs), (3, I (((k : Nat) : Int) - 1))] ∧ (k ≤ xs.length) ∧ II (bwL xs k) ss) ?_ _ _ _ ⟨xs.length, rfl, rfl, (by omega), (by exact hI)⟩; rintro kk ff ss ⟨k, hk0, rfl, hk, hI⟩; refine VC.seq (VC.seq (VC.text ?_)); refine VO.c (.move rfl) (VO.c (.geq) (VO.go ?_)); refine VC.condD rfl (fun c1 => ?_) (fun c1 => ?_)
  · have hk0 : 0 < k := by omega
    refine VC.skip (VC.seq (VC.block (VC.seq (VC.text ?_)))); refine VO.c (.move rfl) (VO.c (.move rfl) ?_); refine VO.r (.ld vt31) ?_; refine VO.c (.move rfl) (VO.c (.ixZ (k := (((k : Nat) : Int) - 1)) rfl rfl el31 (by omega) (by omega)) ?_); refine VO.r (.ld vt3) ?_; refine VO.callY0 rfl rfl (hy ((((k : Nat) : Int) - 1), xs[Int.toNat (((k : Nat) : Int) - 1)]) (bwL xs (k - 1)) _ (by rw [bw_cons hk0 hk rfl]; exact hI)) ?_; rintro _ ss (⟨rfl, hI⟩ | ⟨rfl, hE⟩)
    · refine VO.c (.not) (VO.go ?_); refine VC.condF rfl ?_; refine VC.skip (VC.text ?_); refine VO.c (.move rfl) (VO.c (.sub rfl rfl (by omega)) (VO.c (.assign rfl) ?_)); refine VO.nil ?_; refine ⟨_, [(0, .raw yv), (1, .p y31 xs), (3, I ((((k - 1) : Nat) : Int) - 1))], ?_, ⟨rfl, rfl, slI rfl (by omega), trivial⟩, (k - 1), rfl, rfl, (by omega), (by exact hI)⟩; omega
    refine VO.c (.not) (VO.go ?_); refine VC.condT rfl ?_; refine VC.ret ?_; exact ⟨rfl, .inr hE⟩
  refine VC.exit ?_; exact ⟨rfl, .inl (by rw [show k = 0 by omega] at hI; exact hI)⟩
theorem cBack_ok {xs : List Int} : VF Tryz.prog OA 48 [.v y31 xs] (.clo 100 [] [.p y31 xs]) := by
  refine VF.enter Tryz.func48 rfl (fun _ _ => rfl) rfl ?_; show VC _ _ _ _ _ [(0, .v y31 xs)] [] _; refine VC.seq (VC.text ?_); refine VO.new (.box) ?_; refine VO.c (.assign rfl) ?_; refine VO.go (VC.seq (VC.text ?_)); refine VO.c (.func) (VO.c (.assign rfl) (VO.go ?_)); refine VC.ret ?_; exact VEnd.one rfl evT rfl
theorem sMissing_ok {d : Int × Int × Int × (List (ByteArray × Int))} {l : List (Int × ByteArray × Int × Int × (List Nat))} {n : Int} (hl : l.length < 100000) (hr : ∀ r ∈ l, r.2.2.2.2.length < 100000) : VF Tryz.prog OA 16 [.v y39 d, .v y33 l, I n] (.tup [I ((missV d l n).1), .v y51 ((missV d l n).2.1), I ((missV d l n).2.2)]) := by
  refine VF.enter Tryz.func16 rfl (fun _ _ => rfl) rfl ?_; show VC _ _ _ _ _ [(0, .v y39 d), (1, .v y33 l), (2, I n)] [] _; refine VC.seq (VC.text ?_); refine VO.new (.box) ?_; refine VO.c (.assign rfl) ?_; refine VO.cell (.alloc zt51) ?_; intro ww1; refine VO.c (.assign rfl) ?_; refine VO.go (VC.seq (VC.seq (VC.text ?_))); refine VO.r (.ld vt39) ?_; refine VO.c (.move rfl) ?_; refine VO.call rfl rfl (VF.call (sStore_ok hl hr)) ?_; refine VO.c (.move rfl) ?_; refine VO.call rfl rfl (VF.call (sTime_ok )) ?_; refine VO.new (.lit [storeE d l, rangeE n 0 100000] el164) ?_; refine VO.call rfl rfl (VF.call (sFirst_ok (by first | assumption | omega | simp))) ?_; refine VO.c (.assign rfl) ?_; refine VO.go (VC.seq (VC.text ?_)); refine VO.c (.move rfl) (VO.c (.neq) (VO.go ?_)); refine VC.condD rfl (fun c2 => ?_) (fun c2 => ?_)
  · have hf : fieldA d l n ≠ 0 := c2; refine VC.seq (VC.text ?_); refine VO.c (.build (ByteArray.empty, 0, 0) bt51) (VO.c (.move rfl) (VO.c (.assign rfl) ?_)); refine VO.setV (cs' := [St ByteArray.empty, I 0, I 0]) vt51 .v ?_; refine VO.c (.assign rfl) (VO.go ?_); refine VC.ret ?_; exact VEnd.three rfl evT (.cell (x := (ByteArray.empty, 0, 0)) rfl m0 vt51 .refl) evT (pvI (by rw [missV, if_pos hf])) (pvE (by rw [missV, if_pos hf]; rfl)) (pvI (by rw [missV, if_pos hf] <;> rfl))
  have hf : fieldA d l n = 0 := by simpa [fieldA] using c2
  refine VC.skip (VC.seq (VC.text ?_)); refine VO.r (.ld vt39) ?_; refine VO.c (.move rfl) (VO.c (.move rfl) ?_); refine VO.call rfl rfl (VF.call (sMiss_ok (fieldA_ok hf).1 hl)) ?_; refine VO.c (.move rfl) (VO.c (.extract) (VO.c (.extract) ?_)); refine VO.cell (.alloc zt51) ?_; intro ww2; refine VO.c (.assign rfl) ?_; refine VO.setV (cs' := [St (((missL d l n).headD z3).1), I (((missL d l n).headD z3).2.1), I (((missL d l n).headD z3).2.2)]) vt51 .v ?_; refine VO.shut [(11, .p y51 ((missL d l n).headD z3))] (.cons rfl (.var m0 .refl) .nil) ?_; refine VO.go (VC.seq (VC.drawn ?_)); refine VD.c (.move rfl) ?_; refine VD.r [] (.ld vt51) (.inl rfl) ?_; refine VD.c (.assign rfl) ?_; refine VD.mk0 (MakeV.setF (k := 0) vt51 .v (Nat.le_of_ble_eq_true rfl) (.inr ⟨rfl, rfl⟩) rfl rfl) ?_; rintro _ _ tl3 ⟨rfl, rfl⟩; refine VD.c (.assign rfl) (VD.go ?_); refine VC.ret ?_; exact VEnd.three rfl evT (.cell (x := (missL d l n).headD z3) rfl m0 vt51 .refl) evT (pvI (by rw [missV, if_neg (by simpa using hf)])) (pvE (by rw [missV, if_neg (by simpa using hf)])) (pvI (by rw [missV, if_neg (by simpa using hf)]))
theorem sLatest_ok {d : Int × Int × Int × (List (ByteArray × Int))} {l : List (Int × ByteArray × Int × Int × (List Nat))} {now : Int} (hl : l.length < 100000) (hr : ∀ r ∈ l, r.2.2.2.2.length < 100000) : VF Tryz.prog OA 17 [.v y39 d, .v y33 l, I now] (.tup [I ((latV d l now).1), I ((latV d l now).2)]) := by
  refine VF.enter Tryz.func17 rfl (fun _ _ => rfl) rfl ?_; show VC _ _ _ _ _ [(0, .v y39 d), (1, .v y33 l), (2, I now)] [] _; refine VC.seq (VC.text ?_); refine VO.new (.box) ?_; refine VO.new (.box) ?_; refine VO.new (.box) ?_; refine VO.cell (.alloc zt3) ?_; intro ww4; refine VO.cell (.alloc zt34) ?_; intro ww5; refine VO.go (VC.seq (VC.text ?_)); refine VO.r (.ld vt39) ?_; refine VO.r (.ld vt33) ?_; refine VO.call rfl rfl (VF.call (sRuns_ok hl hr)) ?_; refine VO.c (.move rfl) (VO.c (.extract) (VO.c (.extract) (VO.c (.assign rfl) ?_))); refine VO.c (.assign rfl) ?_; refine VO.go (VC.seq (VC.seq (VC.text ?_))); refine VO.c (.move rfl) ?_; refine VO.r (.ld vt3) ?_; refine VO.call rfl rfl (VF.call (sTime_ok )) ?_; refine VO.new (.lit [(runsV d l).2, rangeE now 0 100000] el164) ?_; refine VO.call rfl rfl (VF.call (sFirst_ok (by first | assumption | omega | simp))) ?_; refine VO.c (.assign rfl) ?_; refine VO.go (VC.seq (VC.text ?_)); refine VO.c (.move rfl) (VO.c (.neq) (VO.go ?_)); refine VC.condD rfl (fun c3 => ?_) (fun c3 => ?_)
  · have hf : fieldA d l now ≠ 0 := by rw [fieldA, ← runsV_2]; exact c3
    refine VC.seq (VC.text ?_); refine VO.c (.move rfl) ?_; refine VO.perm swap1 ?_; refine VO.setV (cs' := [I (0 : Int)]) vt3 .v ?_; refine VO.perm swap1 ?_; refine VO.setV (cs' := [I (firstE [(runsV d l).2, rangeE now 0 100000])]) vt34 .v ?_; refine VO.go ?_; refine VC.ret ?_; exact VEnd.two rfl (.cell (x := (0 : Int)) rfl m1 vt3 .refl) (.cell (x := firstE [(runsV d l).2, rangeE now 0 100000]) rfl m0 vt34 .refl) (pvI (by rw [latV, if_pos hf])) (pvI (by rw [latV, if_pos hf]; rw [fieldA, runsV_2]))
  have hf : fieldA d l now = 0 := by rw [fieldA, ← runsV_2]; simpa using c3
  have hst := (fieldA_ok hf).1; have hru := runsV_1 hst; have hrl : (runsE l).length < 100000 := Nat.lt_of_le_of_lt cptA_len (by rw [rnL, List.length_map]; exact hl)
  have hle : latE d l now = fndL (latP d l now) (bwL (runsV d l).1 (runsV d l).1.length) := by rw [hru] <;> rfl
  refine VC.skip (VC.seq (VC.seq (VC.text ?_))); refine VO.c (.move rfl) ?_; refine VO.call rfl rfl (VF.call (cBack_ok )) ?_; refine VO.go (VC.block ?_); refine VC.keep [(3, .p y39 d), (4, .p y33 l), (5, .p (.int .i64) now), (6, .raw ww4), (7, .raw ww5), (30, .clo 100 [] [.p y31 ((runsV d l).1)])] ⟨rfl, rfl, rfl, rfl, rfl, rfl, trivial⟩ ?_; refine VC.rangeFunc rfl (cBack1_ok (by rw [hru]; omega)) (fun _ => rfl) rfl rfl (fun rest ss => ss = [(ww5, .var [I (0 : Int)]), (ww4, .var [I (0 : Int)])] ∧ (latE d l now = fndL (latP d l now) rest)) (fun ee ss => (ee = .ret ∧ ∃ (y : Int × Int), ss = [(ww5, .var [I (0 : Int)]), (ww4, .var [I y.2])] ∧ (latE d l now = (y.2, 0)))) ⟨rfl, (by exact hle)⟩ ?_ ?_ ?_
  · rintro jj x rest _ ⟨rfl, hq⟩; show VC _ _ _ _ _ [(32, I x.2), (31, I x.1), (3, .p y39 d), (4, .p y33 l), (5, .p (.int .i64) now), (6, .raw ww4), (7, .raw ww5), (30, .clo 100 [] [.p y31 ((runsV d l).1)])] [(ww5, .var [I (0 : Int)]), (ww4, .var [I (0 : Int)])] _; refine VC.text ?_; refine VO.c (.assign rfl) ?_; refine VO.nil ?_; refine ⟨rfl, ?_⟩; refine VC.block (VC.seq (VC.seq (VC.text ?_))); refine VO.c (.move rfl) ?_; refine VO.r (.ld vt3) ?_; refine VO.c (.gtr) (VO.go ?_); refine VC.condD rfl (fun c7 => ?_) (fun c7 => ?_)
    · have hlx : latP d l now x.2 = false := by rw [latP, decide_eq_false (show ¬ x.2 ≤ now by omega), Bool.and_false]
      refine VC.exit ?_; exact .inl ⟨rfl, rfl, (by rw [hq, fndL_skip hlx])⟩
    refine VC.skip (VC.seq (VC.text ?_)); refine VO.r (.ld vt39) ?_; refine VO.r (.ld vt33) ?_; refine VO.c (.move rfl) ?_; refine VO.call rfl rfl (VF.call (sMiss_ok hst hl)) ?_; refine VO.c (.move rfl) (VO.c (.extract) (VO.c (.extract) ?_)); refine VO.cell (.alloc zt51) ?_; intro ww6; refine VO.c (.assign rfl) ?_; refine VO.setV (cs' := [St (((missL d l x.2).headD z3).1), I (((missL d l x.2).headD z3).2.1), I (((missL d l x.2).headD z3).2.2)]) vt51 .v ?_; refine VO.shut [(14, .p y51 ((missL d l x.2).headD z3))] (.cons rfl (.var m0 .refl) .nil) ?_; refine VO.go (VC.seq ?_); refine VC.keep [(6, .raw ww4), (7, .raw ww5), (12, I x.2), (13, I ((missL d l x.2).length : Nat))] ⟨rfl, rfl, rfl, rfl, trivial⟩ ?_; refine VC.text ?_; refine VO.c (.move rfl) (VO.c (.eql) (VO.go ?_)); refine VC.condD rfl (fun c9 => ?_) (fun c9 => ?_)
    · have hlx : latP d l now x.2 = true := by rw [latP, decide_eq_true (show x.2 ≤ now by omega), decide_eq_true (List.eq_nil_of_length_eq_zero (by omega))] <;> rfl
      refine VC.seq (VC.text ?_); refine VO.c (.move rfl) ?_; refine VO.perm swap1 ?_; refine VO.setV (cs' := [I x.2]) vt3 .v ?_; refine VO.perm swap1 ?_; refine VO.setV (cs' := [I (0 : Int)]) vt34 .v ?_; refine VO.go ?_; refine VC.ret ?_; exact .inr ⟨(by intro h; cases h), ⟨rfl, x, rfl, (by rw [hq, fndL_hit hlx])⟩⟩
    have hlx : latP d l now x.2 = false := by rw [latP, decide_eq_false (fun e => c9 (by rw [e]; rfl)), Bool.false_and]
    refine VC.skip ?_; exact .inl ⟨rfl, rfl, (by rw [hq, fndL_skip hlx])⟩
  · rintro _ ⟨rfl, hq⟩; refine VC.seq (VC.text ?_); refine VO.perm swap1 ?_; refine VO.setV (cs' := [I (0 : Int)]) vt3 .v ?_; refine VO.perm swap1 ?_; refine VO.setV (cs' := [I (7 : Int)]) vt34 .v ?_; refine VO.go ?_; refine VC.ret ?_; exact VEnd.two rfl (.cell (x := (0 : Int)) rfl m1 vt3 .refl) (.cell (x := (7 : Int)) rfl m0 vt34 .refl) (pvI (by rw [latV, if_neg (by simpa using hf), hq]; rfl)) (pvI (by rw [latV, if_neg (by simpa using hf), hq] <;> rfl))
  rintro _ _ _ (⟨rfl, y, rfl, he⟩)
  · exact VEnd.two rfl (.cell (x := y.2) rfl m1 vt3 .refl) (.cell (x := (0 : Int)) rfl m0 vt34 .refl) (pvI (by rw [latV, if_neg (by simpa using hf), he])) (pvI (by rw [latV, if_neg (by simpa using hf), he]))
def latF (d : Dom) (l : List Pc) (now : Int) : Int := if latR d l now < 0 then 0 else latR d l now
def latG (d : Dom) (l : List Pc) (now : Int) : Int := if latR d l now < 0 then 7 else 0
theorem finM1 {d : Dom} {l : List Pc} {n : Int} (h : fieldA d l n = 0) : missV d l n = ((((missL d l n).length : Nat) : Int), (missL d l n).headD z3, (0 : Int)) := if_neg (by simpa using h)
theorem finL1 {d : Dom} {l : List Pc} {n : Int} (h : fieldA d l n = 0) : latV d l n = (latF d l n, latG d l n) := by
  rw [latV, if_neg (by simpa using h), lat_same (fieldA_ok h).1, latF, latG]; by_cases h2 : latR d l n < 0
  · rw [if_pos h2, if_pos h2, if_pos h2]
  rw [if_neg h2, if_neg h2, if_neg h2]
end Go.Proofs
namespace Go.Proofs
open Go.Fs Ieee
end Go.Proofs
namespace Go.Proofs
open Go.Fs
structure OkN (c : List Int × List Int) : Prop where
  len : c.2.length = c.1.length
  pos : 0 < c.1.length
  top : c.1.length ≤ 96
  all1 : ∀ x ∈ c.1, -1048576 ≤ x ∧ x ≤ 1048576
  all2 : ∀ x ∈ c.2, -1048576 ≤ x ∧ x ≤ 1048576
structure OkNs (l : List (List Int × List Int)) : Prop where
  pos : 0 < l.length
  top : l.length ≤ 64
  all : ∀ c ∈ l, OkN c
end Go.Proofs
namespace Go.Proofs
open Go.Fs
theorem flat_le {α : Type} {l : List (List α)} (j : Nat) : (l.take j).flatten.length ≤ l.flatten.length := by
  have : l.flatten = (l.take j).flatten ++ (l.drop j).flatten := by rw [← List.flatten_append, List.take_append_drop]
  rw [this, List.length_append]; omega
theorem flat_succ {α : Type} {l : List (List α)} {j : Nat} (hj : j < l.length) : (l.take (j + 1)).flatten = (l.take j).flatten ++ l[j] := by
  rw [List.take_succ_eq_append_getElem hj, List.flatten_append]; simp
end Go.Proofs
namespace Go.Fs
variable {α : Type} {lt : α → α → Bool}
def StrS (lt : α → α → Bool) (xs : List α) : Prop := xs.Pairwise (fun x y => lt x y = true)
def mrgS (lt : α → α → Bool) : List α → List α → List α
  | [], B => B
  | x :: A, [] => x :: A
  | x :: A, y :: B => if lt x y then x :: mrgS lt A (y :: B) else if lt y x then y :: mrgS lt (x :: A) B else x :: y :: mrgS lt A B
termination_by A B => A.length + B.length
def rmE (lt same : α → α → Bool) : List α → List α → Option (List α)
  | [], B => some B
  | x :: A, [] => some (x :: A)
  | x :: A, y :: B => if lt x y then (rmE lt same A (y :: B)).map (x :: ·) else if lt y x then (rmE lt same (x :: A) B).map (y :: ·) else if same x y then (rmE lt same A B).map (x :: ·) else none
termination_by A B => A.length + B.length
def pgL (lt same : α → α → Bool) : Option α → List α → Option (List α)
  | _, [] => some []
  | none, p :: r => (pgL lt same (some p) r).map (p :: ·)
  | some q, p :: r => if eqv lt q p then (if same q p then pgL lt same (some p) r else none) else (pgL lt same (some p) r).map (p :: ·)
theorem Weak.trans (W : Weak lt) {a b c : α} (h1 : lt a b = true) (h2 : lt b c = true) : lt a c = true := by
  cases h : lt a c with
  | true => rfl
  | false =>
    have h3 := W.neg _ _ _ h (W.asym _ _ h2); rw [h1] at h3; cases h3
theorem Weak.eq_lt (W : Weak lt) {a b c : α} (h1 : eqv lt a b = true) (h2 : lt b c = true) : lt a c = true := by
  obtain ⟨h3, h4⟩ := eqv_iff.1 h1
  cases h : lt a c with
  | true => rfl
  | false =>
    have h5 := W.neg _ _ _ h4 h; rw [h2] at h5; cases h5
theorem Weak.lt_ne (W : Weak lt) {a b : α} (h : lt a b = true) : eqv lt a b = false := by
  cases h2 : eqv lt a b with
  | false => rfl
  | true => rw [(eqv_iff.1 h2).1] at h; cases h
theorem Weak.lt_ne' (W : Weak lt) {a b : α} (h : lt a b = true) : eqv lt b a = false := by
  cases h2 : eqv lt b a with
  | false => rfl
  | true => rw [(eqv_iff.1 h2).2] at h; cases h
theorem mrgS_mem {z : α} : ∀ (A B : List α), z ∈ mrgS lt A B ↔ z ∈ A ∨ z ∈ B
  | [], B => by simp [mrgS]
  | x :: A, [] => by simp [mrgS]
  | x :: A, y :: B => by
    rw [mrgS]; split
    · rw [List.mem_cons, mrgS_mem A (y :: B), List.mem_cons, List.mem_cons (a := z) (b := x)]; exact or_assoc.symm
    split
    · rw [List.mem_cons, mrgS_mem (x :: A) B, List.mem_cons (a := z) (b := y)]; exact ⟨fun h => by rcases h with h | h | h <;> simp [h], fun h => by rcases h with h | h | h <;> simp [h]⟩
    rw [List.mem_cons, List.mem_cons, mrgS_mem A B, List.mem_cons, List.mem_cons]; exact ⟨fun h => by rcases h with h | h | h | h <;> simp [h], fun h => by rcases h with (h | h) | h | h <;> simp [h]⟩
termination_by A B => A.length + B.length
theorem StrS.head {x : α} {A : List α} (h : StrS lt (x :: A)) : ∀ a ∈ A, lt x a = true := (List.pairwise_cons.1 h).1
theorem StrS.tail {x : α} {A : List α} (h : StrS lt (x :: A)) : StrS lt A := (List.pairwise_cons.1 h).2
theorem StrS.srt (W : Weak lt) {A : List α} (h : StrS lt A) : Srt lt A := h.imp fun h => W.asym _ _ h
theorem mrgS_srt (W : Weak lt) : ∀ (A B : List α), StrS lt A → StrS lt B → Srt lt (mrgS lt A B)
  | [], B, _, hb => by rw [mrgS]; exact hb.srt W
  | x :: A, [], ha, _ => by rw [mrgS]; exact ha.srt W
  | x :: A, y :: B, ha, hb => by
    rw [mrgS]; split
    · rename_i h; refine List.pairwise_cons.2 ⟨fun z hz => W.asym _ _ ?_, mrgS_srt W A (y :: B) ha.tail hb⟩; rcases (mrgS_mem _ _).1 hz with h1 | h1
      · exact ha.head z h1
      rcases List.mem_cons.1 h1 with rfl | h1
      · exact h
      exact W.trans h (hb.head z h1)
    rename_i h0; split
    · rename_i h; refine List.pairwise_cons.2 ⟨fun z hz => W.asym _ _ ?_, mrgS_srt W (x :: A) B ha hb.tail⟩; rcases (mrgS_mem _ _).1 hz with h1 | h1
      · rcases List.mem_cons.1 h1 with rfl | h1
        · exact h
        exact W.trans h (ha.head z h1)
      exact hb.head z h1
    rename_i h; have he : eqv lt x y = true := eqv_iff.2 ⟨by simpa using h0, by simpa using h⟩; have he2 : eqv lt y x = true := eqv_iff.2 ⟨by simpa using h, by simpa using h0⟩; refine List.pairwise_cons.2 ⟨fun z hz => ?_, List.pairwise_cons.2 ⟨fun z hz => W.asym _ _ ?_, mrgS_srt W A B ha.tail hb.tail⟩⟩
    · rcases List.mem_cons.1 hz with rfl | hz
      · simpa using h
      refine W.asym _ _ ?_; rcases (mrgS_mem _ _).1 hz with h1 | h1
      · exact ha.head z h1
      exact W.eq_lt he (hb.head z h1)
    rcases (mrgS_mem _ _).1 hz with h1 | h1
    · exact W.eq_lt he2 (ha.head z h1)
    exact hb.head z h1
termination_by A B => A.length + B.length
theorem mrgS_same (W : Weak lt) : ∀ (A B : List α), StrS lt A → StrS lt B → SameEq lt (A ++ B) (mrgS lt A B)
  | [], B, _, _ => by rw [mrgS]; exact SameEq.refl _
  | x :: A, [], _, _ => by rw [mrgS, List.append_nil]; exact SameEq.refl _
  | x :: A, y :: B, ha, hb => by
    rw [mrgS]; split
    · exact SameEq.append (xs := [x]) (ys := [x]) (SameEq.refl _) (mrgS_same W A (y :: B) ha.tail hb)
    rename_i h0; split
    · rename_i h
      have h1 : SameEq lt ([] ++ ((x :: A) ++ ([y] ++ B))) ([] ++ ([y] ++ ((x :: A) ++ B))) := SameEq.swap W fun a ha' b hb' => by
        obtain rfl := List.mem_singleton.1 hb'; rcases List.mem_cons.1 ha' with rfl | h2
        · exact W.lt_ne' h
        exact W.lt_ne' (W.trans h (ha.head _ h2))
      exact h1.trans (SameEq.append (xs := [y]) (ys := [y]) (SameEq.refl _) (mrgS_same W (x :: A) B ha hb.tail))
    rename_i h; have he2 : eqv lt y x = true := eqv_iff.2 ⟨by simpa using h, by simpa using h0⟩
    have h1 : SameEq lt ([x] ++ (A ++ ([y] ++ B))) ([x] ++ ([y] ++ (A ++ B))) := SameEq.swap W fun a ha' b hb' => by
      obtain rfl := List.mem_singleton.1 hb'; exact W.lt_ne' (W.eq_lt he2 (ha.head _ ha'))
    exact h1.trans (SameEq.append (xs := [x, y]) (ys := [x, y]) (SameEq.refl _) (mrgS_same W A B ha.tail hb.tail))
termination_by A B => A.length + B.length
theorem sort_mrg (W : Weak lt) {A B : List α} (ha : StrS lt A) (hb : StrS lt B) : sortS lt (A ++ B) = mrgS lt A B := sortS_eq W (mrgS_srt W A B ha hb) (mrgS_same W A B ha hb)
variable {same : α → α → Bool}
theorem pgL_strict (W : Weak lt) : ∀ (B : List α) (q : Option α), StrS lt B → (∀ p ∈ q, ∀ b ∈ B, lt p b = true) → pgL lt same q B = some B
  | [], q, _, _ => by cases q <;> rfl
  | y :: B, none, hb, _ => by rw [pgL, pgL_strict W B (some y) hb.tail fun p hp => by obtain rfl := Option.some.inj hp; exact hb.head]; rfl
  | y :: B, some q, hb, hq => by
    rw [pgL, W.lt_ne (hq q rfl y List.mem_cons_self), pgL_strict W B (some y) hb.tail fun p hp => by obtain rfl := Option.some.inj hp; exact hb.head]; rfl
theorem pgL_cons (W : Weak lt) {x : α} {r : List α} {q : Option α} (hq : ∀ p ∈ q, lt p x = true) : pgL lt same q (x :: r) = (pgL lt same (some x) r).map (x :: ·) := by
  cases q with
  | none => rfl
  | some q => rw [pgL, W.lt_ne (hq q rfl)]; rfl
theorem pgL_mrg (W : Weak lt) : ∀ (A B : List α) (q : Option α), StrS lt A → StrS lt B → (∀ p ∈ q, ∀ a ∈ A, lt p a = true) → (∀ p ∈ q, ∀ b ∈ B, lt p b = true) → pgL lt same q (mrgS lt A B) = rmE lt same A B
  | [], B, q, _, hb, _, hq => by rw [mrgS, rmE, pgL_strict W B q hb hq]
  | x :: A, [], q, ha, _, hq, _ => by rw [mrgS, rmE, pgL_strict W _ q ha hq]
  | x :: A, y :: B, q, ha, hb, hqa, hqb => by
    rw [mrgS, rmE]; split
    · rename_i h
      rw [pgL_cons W fun p hp => hqa p hp x List.mem_cons_self, pgL_mrg W A (y :: B) (some x) ha.tail hb (fun p hp => by obtain rfl := Option.some.inj hp; exact ha.head) (fun p hp b hb' => by
        obtain rfl := Option.some.inj hp; rcases List.mem_cons.1 hb' with rfl | h1
        · exact h
        exact W.trans h (hb.head _ h1))]
    rename_i h0; split
    · rename_i h
      rw [pgL_cons W fun p hp => hqb p hp y List.mem_cons_self, pgL_mrg W (x :: A) B (some y) ha hb.tail (fun p hp a ha' => by
        obtain rfl := Option.some.inj hp; rcases List.mem_cons.1 ha' with rfl | h1
        · exact h
        exact W.trans h (ha.head _ h1)) (fun p hp => by obtain rfl := Option.some.inj hp; exact hb.head)]
    rename_i h; have he : eqv lt x y = true := eqv_iff.2 ⟨by simpa using h0, by simpa using h⟩; have he2 : eqv lt y x = true := eqv_iff.2 ⟨by simpa using h, by simpa using h0⟩; rw [pgL_cons W fun p hp => hqa p hp x List.mem_cons_self, pgL, he, if_pos rfl]; split
    · rw [pgL_mrg W A B (some y) ha.tail hb.tail (fun p hp a ha' => by obtain rfl := Option.some.inj hp; exact W.eq_lt he2 (ha.head _ ha')) (fun p hp => by obtain rfl := Option.some.inj hp; exact hb.head)]
    rfl
termination_by A B => A.length + B.length
theorem pgL_sort (W : Weak lt) {A B : List α} (ha : StrS lt A) (hb : StrS lt B) : pgL lt same none (sortS lt (A ++ B)) = rmE lt same A B := by
  rw [sort_mrg W ha hb, pgL_mrg W A B none ha hb (fun p hp => by cases hp) (fun p hp => by cases hp)]
theorem rmE_map {β : Type} {lt' same' : β → β → Bool} (f : α → β) : ∀ (A B : List α), (∀ a ∈ A, ∀ b ∈ B, lt' (f a) (f b) = lt a b ∧ lt' (f b) (f a) = lt b a ∧ same' (f a) (f b) = same a b) → rmE lt' same' (A.map f) (B.map f) = (rmE lt same A B).map (List.map f)
  | [], B, _ => by simp [rmE]
  | x :: A, [], _ => by simp [rmE]
  | x :: A, y :: B, h => by
    obtain ⟨e1, e2, e3⟩ := h x List.mem_cons_self y List.mem_cons_self; rw [List.map_cons, List.map_cons, rmE, rmE, e1, e2, e3]; have h1 := rmE_map f A (y :: B) fun a ha b hb => h a (List.mem_cons_of_mem _ ha) b hb; have h2 := rmE_map f (x :: A) B fun a ha b hb => h a ha b (List.mem_cons_of_mem _ hb); have h3 := rmE_map f A B fun a ha b hb => h a (List.mem_cons_of_mem _ ha) b (List.mem_cons_of_mem _ hb); rw [List.map_cons] at h1 h2; rw [h1, h2, h3]; split
    · cases rmE lt same A (y :: B) <;> rfl
    split
    · cases rmE lt same (x :: A) B <;> rfl
    split
    · cases rmE lt same A B <;> rfl
    rfl
termination_by A B => A.length + B.length
def prevE (d : α) (xs : List α) (i : Nat) : Option α := if i = 0 then none else some (xs.getD (i - 1) d)
def tieB (lt : α → α → Bool) (d : α) (xs : List α) (i : Nat) : Bool := decide (0 < i) && eqv lt (xs.getD (i - 1) d) (xs.getD i d)
theorem drop_getD {d : α} {xs : List α} {i : Nat} (hi : i < xs.length) : xs.drop i = xs.getD i d :: xs.drop (i + 1) := by
  rw [List.drop_eq_getElem_cons hi, List.getD_eq_getElem?_getD, List.getElem?_eq_getElem hi]; rfl
theorem prev_next {d : α} {xs : List α} {i : Nat} : prevE d xs (i + 1) = some (xs.getD i d) := by rw [prevE, if_neg (Nat.succ_ne_zero i)]; rfl
theorem pg_new {d : α} {xs : List α} {i : Nat} (hi : i < xs.length) (ht : tieB lt d xs i = false) : pgL lt same (prevE d xs i) (xs.drop i) = (pgL lt same (prevE d xs (i + 1)) (xs.drop (i + 1))).map (xs.getD i d :: ·) := by
  rw [drop_getD hi (d := d), prev_next]; unfold prevE; by_cases h : i = 0
  · rw [if_pos h]; rfl
  rw [if_neg h, pgL]
  have : eqv lt (xs.getD (i - 1) d) (xs.getD i d) = false := by
    unfold tieB at ht
    rwa [decide_eq_true (by omega), Bool.true_and] at ht
  rw [this]; rfl
theorem pg_tie {d : α} {xs : List α} {i : Nat} (hi : i < xs.length) (ht : tieB lt d xs i = true) : pgL lt same (prevE d xs i) (xs.drop i) = if same (xs.getD (i - 1) d) (xs.getD i d) then pgL lt same (prevE d xs (i + 1)) (xs.drop (i + 1)) else none := by
  unfold tieB at ht; rw [Bool.and_eq_true, decide_eq_true_eq] at ht; rw [drop_getD hi (d := d), prev_next]; unfold prevE; rw [if_neg (by omega), pgL, ht.2]; rfl
theorem pg_end {d : α} {xs : List α} {i : Nat} {q : Option α} (hi : xs.length ≤ i) : pgL lt same q (xs.drop i) = some [] := by
  rw [List.drop_eq_nil_of_le hi]; cases q <;> rfl
theorem map_app {q : Option (List α)} {r : List α} {x : α} : (q.map (x :: ·)).map (r ++ ·) = q.map ((r ++ [x]) ++ ·) := by
  cases q with
  | none => rfl
  | some s => simp
end Go.Fs
namespace Go.Fs
variable {P : Program} {orc : FuncId → List Value → Heap → Option (Value × Heap)} {rnd : Option Nat} {h h' h0 h1 h2 : Heap} {S S' S0 B G : List Nat} {σ σ' σr : Sto} {t t' : Tr} {ms : List Nat} {fl : VL} {ops : Array Oper} {n i mem : Nat} {l : List Oper} {K : VL → Sto → Prop} {Q : Ex → VL → Sto → Prop}
  {d : Tmp} {ty : TypeId} {pos : String} {after : Array Edge} {op : Op} {v pv : PV} {g : Option (Nat × Bool)} {x y z : Operand} {T T' e : TypeId} {τ τ' : Ty} {w : Value}
theorem VC.capRow {c : Code} {xs : List τ.den} {k : Nat} (hk : xs.length = k) (hx : VC P orc rnd c n fl ((w, .row e τ xs) :: σ) Q) : VC P orc rnd c n fl ((w, .cap e k τ xs) :: σ) Q := fun h0 G S0 t h ms I => by
  refine hx h0 G S0 t h ms { I with cells := fun c hc => ?_, new := I.new, apart := I.apart, slots := I.slots }; rcases List.mem_cons.1 hc with rfl | hc
  · obtain ⟨b, rs, m, h1, h2, h3, h4, h5, h6⟩ := I.cells _ List.mem_cons_self; subst hk; exact .inr ⟨b, rs, m, h1, h2, h3, by rwa [List.take_of_length_le (Nat.le_of_eq h4)] at h6⟩
  exact I.cells c (List.mem_cons_of_mem _ hc)
theorem SlV.cellsOf {v : Value} {ys : List τ.den} (hv : SlV h S τ v ys) (hp : 0 < τ.size) : lenV v = some ys.length ∧ ∃ vs, Fs.cellsOf τ.size ys.length v h = some vs ∧ Elems h S τ vs ys := by
  rcases hv with ⟨rfl, rfl⟩ | ⟨b, o, mk, rfl, hv⟩
  · exact ⟨rfl, [], rfl, Elems.nil⟩
  refine ⟨rfl, ?_⟩
  have e1 : Nat.ble ys.length ys.length = true := by rw [Nat.ble_eq]; exact Nat.le_refl _
  by_cases hz : ys.length = 0
  · obtain rfl := List.eq_nil_of_length_eq_zero hz; refine ⟨[], ?_, Elems.nil⟩; simp only [Fs.cellsOf, List.length_nil, Nat.zero_mul]; rfl
  rcases hv with rfl | ⟨h1, e', rs, own, more, h2, h3, h4⟩
  · exact absurd rfl hz
  have e2 : Nat.beq (ys.length * τ.size) 0 = false := beq_no (Nat.ne_of_gt (Nat.mul_pos (Nat.pos_of_ne_zero hz) hp))
  have e3 : Nat.ble (o + ys.length * τ.size) rs.length = true := by rw [Nat.ble_eq]; exact h3
  refine ⟨(rs.drop o).take (ys.length * τ.size), ?_, ?_, fun i hi => ?_⟩
  · simp only [Fs.cellsOf, e1, cond_true, e2, cond_false, h2, e3]
  · rw [List.length_take, List.length_drop]; omega
  have h9 : (i + 1) * τ.size ≤ ys.length * τ.size := Nat.mul_le_mul_right _ hi; rw [Nat.add_mul, Nat.one_mul] at h9; have := h4 i hi; rw [List.drop_take, List.take_take, List.drop_drop, Nat.min_eq_left (by omega)]; exact this
theorem MakeV.copyO {xs ys : List τ.den} (hT : ElT P T e τ) (hl : ys.length = xs.length) (hx : evV fl x = some (.raw w)) (hy : evV fl y = some (.v (.sl τ) ys)) :
    MakeV P fl ((w, .row e τ xs) :: σ) (.call { callee := .builtin .copy, args := #[x, y], argTypes := #[T, T'] }) fun v σ' => v = .v (.int .i64) ((ys.length : Nat) : Int) ∧ σ' = (w, .row e τ ys) :: σ :=
  ⟨rfl, fun S0 h t L => by
    have h1 : evalO t x = w := evV_ok L.slots hx; have hu := (evV_ok L.slots hy : RepV h _ (.sl τ) (evalO t y) ys).sl; obtain ⟨i, z, hi1, hi2, hi3, hi3', hi4, hi5, hi6⟩ := hT.sl.info; obtain ⟨c1, vs, c2, c3⟩ := hu.cellsOf hT.sl.pos; have hmin : Nat.min ys.length xs.length = ys.length := Nat.min_eq_left (Nat.le_of_eq hl); have hvl : vs.length = ys.length * τ.size := c3.1; have hvo : vs.all oneCell = true := Elems.allOne _ _ c3; rcases L.cells _ List.mem_cons_self with ⟨hw, rfl⟩ | ⟨b, rs, m, h3, h4, h5, h6⟩
    · obtain rfl := List.eq_nil_of_length_eq_zero hl; have hw' : w = .slice none 0 0 := hw; obtain rfl := List.eq_nil_of_length_eq_zero (by rw [hvl]; simp : vs.length = 0); refine ⟨.int .i64 ((0 : Nat) : Int), h, .v (.int .i64) ((0 : Nat) : Int), _, ⟨rfl, rfl⟩, Made.same L (Aft.refl _ _), RepV.ofInt _ _, fun _ _ _ _ _ => ?_⟩; show (fsCopy P #[T, T'] (evalO t x) (evalO t y) h) = _; rw [h1, hw']; have c1' : lenV (evalO t y) = some 0 := c1; have c2' : Fs.cellsOf τ.size 0 (evalO t y) h = some [] := c2; simp only [fsCopy, List.getElem?_toArray, List.getElem?_cons_zero, hT.sl.sl, hi1, c1', show lenV (.slice none 0 0) = some 0 from rfl, hi2, show Nat.min 0 0 = 0 from rfl, c2', List.length_nil, Nat.zero_mul]; rfl
    have hw : w = _ := h3
    have hbk : blk w = [b] := by rw [hw]; rfl
    have hrl := h6.1; have hnew : Elems h (own ((w, Cell.row e τ xs) :: σ) ++ S0) τ vs ys := c3; by_cases hz : ys.length = 0
    · obtain rfl := List.eq_nil_of_length_eq_zero hz; obtain rfl := List.eq_nil_of_length_eq_zero (by rw [← hl]; rfl : xs.length = 0); refine ⟨.int .i64 ((0 : Nat) : Int), h, .v (.int .i64) ((0 : Nat) : Int), _, ⟨rfl, rfl⟩, Made.same L (Aft.refl _ _), RepV.ofInt _ _, fun _ _ _ _ _ => ?_⟩; show (fsCopy P #[T, T'] (evalO t x) (evalO t y) h) = _; rw [h1, hw]; obtain rfl := List.eq_nil_of_length_eq_zero (by rw [hvl]; simp : vs.length = 0); have c1' : lenV (evalO t y) = some 0 := c1; have c2' : Fs.cellsOf τ.size 0 (evalO t y) h = some [] := c2; simp only [fsCopy, List.getElem?_toArray, List.getElem?_cons_zero, hT.sl.sl, hi1, c1', List.length_nil, show ∀ q m, lenV (.slice q 0 m) = some 0 from fun _ _ => rfl, hi2, show Nat.min 0 0 = 0 from rfl, c2', Nat.zero_mul]; rfl
    refine ⟨.int .i64 ((ys.length : Nat) : Int), h.set b (.row e vs true m), .v (.int .i64) ((ys.length : Nat) : Int), _, ⟨rfl, rfl⟩, Made.head L (Aft.set h5 (by rw [hbk]; simp)) (fun b hb => .inl hb) (by rw [hbk]; simp) fun hN => ?_, RepV.ofInt _ _, fun _ _ _ _ _ => ?_⟩
    · refine .inr ⟨b, _, m, by rw [hl]; exact h3, ?_, by rw [Heap.get_set h5, if_pos rfl], hnew.nx hN⟩; rw [own_cons]; exact List.mem_append_left _ (List.mem_append_left _ (by rw [hbk]; simp))
    show (fsCopy P #[T, T'] (evalO t x) (evalO t y) h) = _; have e2 : Nat.beq (ys.length * τ.size) 0 = false := beq_no (Nat.ne_of_gt (Nat.mul_pos (Nat.pos_of_ne_zero hz) hT.sl.pos))
    have e3 : Nat.ble (0 + ys.length * τ.size) rs.length = true := by rw [Nat.ble_eq, hrl, hl]; omega
    have e4 : Nat.beq vs.length (ys.length * τ.size) = true := by rw [hvl]; exact Nat.beq_refl _
    have e5 : splice rs 0 vs = vs := splice_all (by rw [hvl, hrl, hl]); rw [h1, hw]; simp only [fsCopy, List.getElem?_toArray, List.getElem?_cons_zero, hT.sl.sl, hi1, c1, show ∀ q m, lenV (.slice q xs.length m) = some xs.length from fun _ _ => rfl, hi2]
    simp only [show Nat.min ys.length xs.length = ys.length from hmin, c2, e4, hvo, Bool.and_self, cond_true, e2, cond_false, h5, e3, e5]⟩
theorem VO.copy {xs ys : List τ.den} (hx : evV fl x = some (.raw w)) (hy : evV fl y = some (.v (.sl τ) ys)) (hT : ElT P T e τ) (hl : ys.length = xs.length) (hk : VO P orc ops n l ((d, .v (.int .i64) ((ys.length : Nat) : Int)) :: fl) ((w, .row e τ ys) :: σ) K) (hw : wantV ops fl g = some true := by rfl) (hn : (Nat.blt d n && Nat.ble n 4000) = true := by rfl) :
    VO P orc ops n (⟨some d, .call { callee := .builtin .copy, args := #[x, y], argTypes := #[T, T'] }, ty, pos, after, g⟩ :: l) fl ((w, .row e τ xs) :: σ) K :=
  VO.mk (MakeV.copyO hT hl hx hy) (by rintro _ _ ⟨rfl, rfl⟩; exact hk) hw hn
end Go.Fs
namespace Go.Fs
variable {P : Program} {orc : FuncId → List Value → Heap → Option (Value × Heap)} {rnd : Option Nat} {h h' h0 h1 h2 : Heap} {S S' S0 B G : List Nat} {σ σ' σr : Sto} {t t' : Tr} {ms : List Nat} {fl : VL} {ops : Array Oper} {n i mem : Nat} {l : List Oper} {K : VL → Sto → Prop} {Q : Ex → VL → Sto → Prop}
  {d : Tmp} {ty : TypeId} {pos : String} {after : Array Edge} {op : Op} {v pv : PV} {g : Option (Nat × Bool)} {x y z : Operand} {T T' e : TypeId} {τ τ' : Ty} {w : Value}
inductive SetP : (τ : Ty) → τ.den → Nat → (τ' : Ty) → τ'.den → τ.den → Prop where
  | o {τ : Ty} {x y : τ.den} : SetP τ x 0 τ y y
  | l {a b : Ty} {x : (Ty.pair a b).den} {k : Nat} {τ' : Ty} {y : τ'.den} {z : a.den} (hs : SetP a x.1 k τ' y z) : SetP (.pair a b) x k τ' y (z, x.2)
  | r {a b : Ty} {x : (Ty.pair a b).den} {k k' : Nat} {τ' : Ty} {y : τ'.den} {z : b.den} (hs : SetP b x.2 k τ' y z) (hk : k' = a.size + k := by rfl) : SetP (.pair a b) x k' τ' y (x.1, z)
end Go.Fs
namespace Go.Proofs
open Go.Fs Ieee
abbrev y165 : Ty := (.sl (.sl (.pair (.pair (.int .i64) (.pair .str (.pair (.int .i64) (.pair (.int .i64) (.sl (.flt .f32)))))) (.int .i64))))
theorem vt101 : ValT Tryz.prog 101 y101 := valT_of (by kernel_rfl)
theorem el165 : ElT Tryz.prog 165 101 y101 := elT_of (by kernel_rfl)
theorem zt54 : ZerT Tryz.prog 54 (.flt .f32) := zerT_of (z := .float .f32 0) (by kernel_rfl) rfl rfl
theorem cmpI_zero {a b : Int} : cmpI a b = 0 ↔ a = b := by
  unfold cmpI; constructor
  · intro h; split at h
    · cases h
    split at h
    · cases h
    omega
  rintro rfl; simp
theorem cmpP_eqv {a b : Pc × Int} : cmpP a b = 0 ↔ eqv ltP a b = true := by
  have e3 : 0 ≤ firstE [] := by decide
  have h1 : cmpP a b = 0 ↔ a.1.1 = b.1.1 ∧ a.2 = b.2 ∧ a.1.2.2.1 = b.1.2.2.1 ∧ a.1.2.2.2.1 = b.1.2.2.2.1 := by
    unfold cmpP; rw [firstE_zero]; simp [cmpI_zero]
  rw [h1, eqv_iff]; unfold ltP cmpP; simp only [decide_eq_false_iff_not, Int.not_lt, cmpF, e3, and_true]; omega
def smP (x y : Pc × Int) : Bool := sameLv x.1.2.2.2.2 y.1.2.2.2.2
def allP (d : Dom) (a b : List Pc) : List (Pc × Int) := sortS ltP (a.map (plE d) ++ b.map (plE d))
def mrgB (d : Dom) (a b : List Pc) : Int := firstE [storeE d a, storeE d b]
def mrgQ (o : Option (List Pc)) : List Pc × Int := match o with
  | none => ([], 30)
  | some r => if (4096 : Int) < r.length then ([], 5) else (r, 0)
def mrgV (d : Dom) (a b : List Pc) : List Pc × Int := if mrgB d a b ≠ 0 then ([], mrgB d a b) else mrgQ ((pgL ltP smP none (allP d a b)).map (List.map (·.1)))
theorem zGrowP_ok {n : Nat} (h0 : 0 < n) (h1 : n ≤ 1000000) : VFG Tryz.prog OA 87 [nilV, I ((n : Nat) : Int)] [] (fun r g => ∃ w, r = .raw w ∧ g = [(w, .cap 104 n y104 [])]) := by
  refine VFG.enter Tryz.func87 rfl (fun _ _ => rfl) rfl ?_; show VC _ _ _ _ _ [(0, nilV), (1, I ((n : Nat) : Int))] [] _; refine VC.seq (VC.text ?_); refine VO.c (.assign rfl) ?_; refine VO.go (VC.seq (VC.seq (VC.text ?_))); refine VO.c (.move rfl) (VO.c (.lss) (VO.go ?_)); refine VC.condD rfl (fun c1 => ?_) (fun c1 => ?_)
  · exact absurd c1 (by omega)
  refine VC.skip (VC.seq (VC.seq (VC.text ?_))); refine VO.c (.move rfl) (VO.c (.move rfl) ?_); refine VO.r (.cap0 el101) ?_; refine VO.c (.move rfl) ?_; refine VO.r (.len0 el101) ?_; refine VO.c (.sub rfl rfl (by decide)) (VO.c (.sub rfl rfl (by omega)) (VO.c (.assign rfl) ?_)); refine VO.go (VC.seq (VC.text ?_)); refine VO.c (.move rfl) (VO.c (.gtr) (VO.go ?_)); refine VC.condD rfl (fun c4 => ?_) (fun c4 => ?_)
  · refine VC.text ?_; refine VO.c (.move rfl) (VO.c (.move rfl) ?_); refine VO.r (.cap0 el101) ?_; refine VO.r (.nil0 el101 rfl rfl) ?_; refine VO.c (.move rfl) ?_; refine VO.grow (k := n) rfl (congrArg (fun z : Int => some (PV.v (.int .i64) z)) (show (((n : Nat) : Int) - (((0 : Nat) : Int) - ((0 : Nat) : Int))) = ((n : Nat) : Int) by omega)) el101 (by kernel_rfl) (by omega) (by omega) ?_; intro bb1; refine VO.c (.move rfl) ?_; refine VO.r (.len0 el101) ?_; refine VO.r (.cut0 el101 rfl rfl) ?_; refine VO.c (.assign rfl) ?_; refine VO.go (VC.seq (VC.text ?_)); refine VO.c (.move rfl) (VO.c (.assign rfl) (VO.go ?_)); refine VC.ret ?_; exact VEndG.cap rfl evT m0 ⟨(.slice (some ⟨bb1, 0, none⟩) 0 0), rfl, (by rfl)⟩
  exact absurd (by omega) c4
theorem zConcatP1_ok {l : List (List ((Int × ByteArray × Int × Int × (List Nat)) × Int))} (hl : l.length < 100000) (h0 : 0 < l.flatten.length) (h1 : l.flatten.length ≤ 1000000) : VFG Tryz.prog OA 35 [.v y165 l] [] (fun r g => ∃ w, r = .raw w ∧ g = [(w, .row 104 y104 l.flatten)]) := by
  refine VFG.enter Tryz.func35 rfl (fun _ _ => rfl) rfl ?_; show VC _ _ _ _ _ [(0, .v y165 l)] [] _; refine VC.seq (VC.text ?_); refine VO.c (.assign rfl) ?_; refine VO.go (VC.seq (VC.text ?_)); refine VO.c (.assign rfl) ?_; refine VO.go (VC.seq (VC.seq (VC.text ?_))); refine VO.c (.move rfl) ?_; refine VO.r (.len el165) ?_; refine VO.c (.move rfl) ?_; refine VO.go (VC.block ?_); refine VC.keep [(0, .v y165 l), (3, I (((l.take 0).flatten.length : Nat) : Int)), (9, .v y165 l), (10, I ((l.length : Nat) : Int)), (11, I ((0 : Nat) : Int))] ⟨rfl, slI rfl (by rfl), rfl, rfl, rfl, trivial⟩ ?_; refine VC.loop (I := fun kk ff ss => ∃ (j : Nat), kk = l.length - j ∧ ff = [(0, .v y165 l), (3, I (((l.take j).flatten.length : Nat) : Int)), (9, .v y165 l), (10, I ((l.length : Nat) : Int)), (11, I ((j : Nat) : Int))] ∧ ss = [] ∧ (j ≤ l.length)) ?_ _ _ _ ⟨0, rfl, rfl, rfl, Nat.zero_le _⟩; rintro kk ff ss ⟨j, hk0, rfl, rfl, hj⟩; refine VC.seq (VC.text ?_); refine VO.c (.lss) ?_; refine VO.go (VC.seq ?_); refine VC.condD rfl (fun c3 => ?_) (fun c3 => ?_)
  · refine VC.skip (VC.seq (VC.block (VC.seq (VC.text ?_)))); refine VO.c (.ix (j := j) rfl rfl el165 (by omega)) ?_; refine VO.r (.ld vt101) ?_; refine VO.c (.assign rfl) ?_; refine VO.go (VC.seq (VC.text ?_)); have hs := flat_le (l := l) (j + 1); rw [flat_succ (by omega), List.length_append] at hs; refine VO.c (.move rfl) (VO.c (.move rfl) ?_); refine VO.r (.len el101) ?_; refine VO.c (.add rfl rfl (by omega)) (VO.c (.assign rfl) ?_); refine VO.go (VC.seq (VC.text ?_)); refine VO.c (.move rfl) (VO.c (.lss) (VO.go ?_)); refine VC.condD rfl (fun c6 => ?_) (fun c6 => ?_)
    · exact absurd c6 (by omega)
    refine VC.skip (VC.text ?_); refine VO.c (.add rfl rfl (by omega)) (VO.c (.move rfl) ?_); refine VO.nil ?_; refine ⟨_, [(0, .v y165 l), (3, I (((l.take (j + 1)).flatten.length : Nat) : Int)), (9, .v y165 l), (10, I ((l.length : Nat) : Int)), (11, I (((j + 1) : Nat) : Int))], ?_, ⟨rfl, slI rfl (by rw [flat_succ (by omega), List.length_append] <;> rfl), rfl, rfl, rfl, trivial⟩, (j + 1), rfl, rfl, rfl, (by omega)⟩; omega
  refine VC.exit (VC.seq (VC.text ?_)); have hjl : l.take j = l := List.take_of_length_le (by omega); refine VO.c (.move rfl) ?_; refine VO.callG [] rfl rfl rfl (VFG.call (zGrowP_ok (by rw [hjl]; exact h0) (by rw [hjl]; exact h1))) ?_; rintro _ _ ⟨ww2, rfl, rfl⟩; show VO _ _ _ _ _ _ [(ww2, .cap 104 ((l.take j).flatten.length) y104 [])] _; refine VO.c (.assign rfl) ?_; refine VO.go (VC.seq (VC.seq (VC.text ?_))); refine VO.c (.move rfl) ?_; refine VO.r (.len el165) ?_; refine VO.c (.move rfl) ?_; refine VO.go (VC.block ?_); refine VC.keep [(6, .raw ww2), (25, .v y165 l), (26, I ((l.length : Nat) : Int)), (27, I ((0 : Nat) : Int))] ⟨rfl, rfl, rfl, rfl, trivial⟩ ?_; refine VC.loop (I := fun kk ff ss => ∃ (i : Nat) (out : Value), kk = l.length - i ∧ ff = [(6, .raw out), (25, .v y165 l), (26, I ((l.length : Nat) : Int)), (27, I ((i : Nat) : Int))] ∧ ss = [(out, .cap 104 ((l.take j).flatten.length) y104 ((l.take i).flatten))] ∧ (i ≤ l.length)) ?_ _ _ _ ⟨0, ww2, rfl, rfl, rfl, Nat.zero_le _⟩; rintro kk ff ss ⟨i, out, hk2, rfl, rfl, hi⟩; refine VC.seq (VC.text ?_); refine VO.c (.lss) ?_; refine VO.go (VC.seq ?_); refine VC.condD rfl (fun c11 => ?_) (fun c11 => ?_)
  · refine VC.skip (VC.seq (VC.block (VC.seq (VC.text ?_)))); refine VO.c (.ix (j := i) rfl rfl el165 (by omega)) ?_; refine VO.r (.ld vt101) ?_; refine VO.c (.assign rfl) ?_; refine VO.go (VC.text ?_); have hs := flat_le (l := l) (i + 1); rw [flat_succ (by omega), List.length_append] at hs; refine VO.c (.move rfl) (VO.c (.move rfl) ?_); refine VO.appC rfl rfl el101 el101 (by rw [hjl]; exact hs) (by rw [hjl]; exact h1) ?_; intro ww3; refine VO.c (.assign rfl) ?_; refine VO.nil (VC.text ?_); refine VO.c (.add rfl rfl (by omega)) (VO.c (.move rfl) ?_); refine VO.nil ?_; refine ⟨_, [(6, .raw ww3), (25, .v y165 l), (26, I ((l.length : Nat) : Int)), (27, I (((i + 1) : Nat) : Int))], ?_, ⟨rfl, rfl, rfl, rfl, trivial⟩, (i + 1), ww3, rfl, rfl, (by rw [flat_succ (by omega)] <;> rfl), (by omega)⟩; omega
  refine VC.exit (VC.seq ?_); refine VC.capRow (by rw [hjl, List.take_of_length_le (by omega)]) ?_; refine VC.text ?_; refine VO.c (.move rfl) (VO.c (.assign rfl) (VO.go ?_)); refine VC.ret ?_; exact VEndG.row rfl evT ⟨out, rfl, (by rw [List.take_of_length_le (by omega)])⟩
theorem zGrowP0_ok {n : Nat} (h0 : n = 0) : VF Tryz.prog OA 87 [nilV, I ((n : Nat) : Int)] (nilV) := by
  refine VF.enter Tryz.func87 rfl (fun _ _ => rfl) rfl ?_; show VC _ _ _ _ _ [(0, nilV), (1, I ((n : Nat) : Int))] [] _; refine VC.seq (VC.text ?_); refine VO.c (.assign rfl) ?_; refine VO.go (VC.seq (VC.seq (VC.text ?_))); refine VO.c (.move rfl) (VO.c (.lss) (VO.go ?_)); refine VC.condD rfl (fun c1 => ?_) (fun c1 => ?_)
  · exact absurd c1 (by omega)
  refine VC.skip (VC.seq (VC.seq (VC.text ?_))); refine VO.c (.move rfl) (VO.c (.move rfl) ?_); refine VO.r (.cap0 el101) ?_; refine VO.c (.move rfl) ?_; refine VO.r (.len0 el101) ?_; refine VO.c (.sub rfl rfl (by decide)) (VO.c (.sub rfl rfl (by omega)) (VO.c (.assign rfl) ?_)); refine VO.go (VC.seq (VC.text ?_)); refine VO.c (.move rfl) (VO.c (.gtr) (VO.go ?_)); refine VC.condD rfl (fun c4 => ?_) (fun c4 => ?_)
  · exact absurd c4 (by omega)
  refine VC.skip (VC.seq (VC.text ?_)); refine VO.c (.move rfl) (VO.c (.assign rfl) (VO.go ?_)); refine VC.ret ?_; exact VEnd.one rfl evT rfl
theorem zConcatP0_ok {l : List (List ((Int × ByteArray × Int × Int × (List Nat)) × Int))} (hl : l.length < 100000) (h0 : l.flatten.length = 0) : VFG Tryz.prog OA 35 [.v y165 l] [] (fun r g => ∃ w, r = .raw w ∧ g = [(w, .row 104 y104 l.flatten)]) := by
  refine VFG.enter Tryz.func35 rfl (fun _ _ => rfl) rfl ?_; show VC _ _ _ _ _ [(0, .v y165 l)] [] _; refine VC.seq (VC.text ?_); refine VO.c (.assign rfl) ?_; refine VO.go (VC.seq (VC.text ?_)); refine VO.c (.assign rfl) ?_; refine VO.go (VC.seq (VC.seq (VC.text ?_))); refine VO.c (.move rfl) ?_; refine VO.r (.len el165) ?_; refine VO.c (.move rfl) ?_; refine VO.go (VC.block ?_); refine VC.keep [(0, .v y165 l), (3, I (((l.take 0).flatten.length : Nat) : Int)), (9, .v y165 l), (10, I ((l.length : Nat) : Int)), (11, I ((0 : Nat) : Int))] ⟨rfl, slI rfl (by rfl), rfl, rfl, rfl, trivial⟩ ?_; refine VC.loop (I := fun kk ff ss => ∃ (j : Nat), kk = l.length - j ∧ ff = [(0, .v y165 l), (3, I (((l.take j).flatten.length : Nat) : Int)), (9, .v y165 l), (10, I ((l.length : Nat) : Int)), (11, I ((j : Nat) : Int))] ∧ ss = [] ∧ (j ≤ l.length)) ?_ _ _ _ ⟨0, rfl, rfl, rfl, Nat.zero_le _⟩; rintro kk ff ss ⟨j, hk0, rfl, rfl, hj⟩; refine VC.seq (VC.text ?_); refine VO.c (.lss) ?_; refine VO.go (VC.seq ?_); refine VC.condD rfl (fun c3 => ?_) (fun c3 => ?_)
  · refine VC.skip (VC.seq (VC.block (VC.seq (VC.text ?_)))); refine VO.c (.ix (j := j) rfl rfl el165 (by omega)) ?_; refine VO.r (.ld vt101) ?_; refine VO.c (.assign rfl) ?_; refine VO.go (VC.seq (VC.text ?_)); have hs := flat_le (l := l) (j + 1); rw [flat_succ (by omega), List.length_append] at hs; refine VO.c (.move rfl) (VO.c (.move rfl) ?_); refine VO.r (.len el101) ?_; refine VO.c (.add rfl rfl (by omega)) (VO.c (.assign rfl) ?_); refine VO.go (VC.seq (VC.text ?_)); refine VO.c (.move rfl) (VO.c (.lss) (VO.go ?_)); refine VC.condD rfl (fun c6 => ?_) (fun c6 => ?_)
    · exact absurd c6 (by omega)
    refine VC.skip (VC.text ?_); refine VO.c (.add rfl rfl (by omega)) (VO.c (.move rfl) ?_); refine VO.nil ?_; refine ⟨_, [(0, .v y165 l), (3, I (((l.take (j + 1)).flatten.length : Nat) : Int)), (9, .v y165 l), (10, I ((l.length : Nat) : Int)), (11, I (((j + 1) : Nat) : Int))], ?_, ⟨rfl, slI rfl (by rw [flat_succ (by omega), List.length_append] <;> rfl), rfl, rfl, rfl, trivial⟩, (j + 1), rfl, rfl, rfl, (by omega)⟩; omega
  refine VC.exit (VC.seq (VC.text ?_)); have hjl : l.take j = l := List.take_of_length_le (by omega); refine VO.c (.move rfl) ?_; refine VO.call rfl rfl (VF.call (zGrowP0_ok (by rw [hjl]; exact h0))) ?_; refine VO.c (.assign rfl) ?_; refine VO.go (VC.seq (VC.seq (VC.text ?_))); refine VO.c (.move rfl) ?_; refine VO.r (.len el165) ?_; refine VO.c (.move rfl) ?_; refine VO.go (VC.block ?_); refine VC.cell0 104 y104 ?_; refine VC.keep [(6, .raw (.slice none 0 0)), (25, .v y165 l), (26, I ((l.length : Nat) : Int)), (27, I ((0 : Nat) : Int))] ⟨rfl, rfl, rfl, rfl, trivial⟩ ?_; refine VC.loop (I := fun kk ff ss => ∃ (i : Nat) (out : Value), kk = l.length - i ∧ ff = [(6, .raw out), (25, .v y165 l), (26, I ((l.length : Nat) : Int)), (27, I ((i : Nat) : Int))] ∧ ss = [(out, .row 104 y104 ((l.take i).flatten))] ∧ (i ≤ l.length)) ?_ _ _ _ ⟨0, (.slice none 0 0), rfl, rfl, rfl, Nat.zero_le _⟩; rintro kk ff ss ⟨i, out, hk2, rfl, rfl, hi⟩; refine VC.seq (VC.text ?_); refine VO.c (.lss) ?_; refine VO.go (VC.seq ?_); refine VC.condD rfl (fun c11 => ?_) (fun c11 => ?_)
  · refine VC.skip (VC.seq (VC.block (VC.seq (VC.text ?_)))); refine VO.c (.ix (j := i) rfl rfl el165 (by omega)) ?_; refine VO.r (.ld vt101) ?_; refine VO.c (.assign rfl) ?_; refine VO.go (VC.text ?_); have hs := flat_le (l := l) (i + 1); rw [flat_succ (by omega), List.length_append] at hs; refine VO.c (.move rfl) (VO.c (.move rfl) ?_); refine VO.app rfl rfl el101 el101 (by omega) ?_; intro ww4; refine VO.c (.assign rfl) ?_; refine VO.nil (VC.text ?_); refine VO.c (.add rfl rfl (by omega)) (VO.c (.move rfl) ?_); refine VO.nil ?_; refine ⟨_, [(6, .raw ww4), (25, .v y165 l), (26, I ((l.length : Nat) : Int)), (27, I (((i + 1) : Nat) : Int))], ?_, ⟨rfl, rfl, rfl, rfl, trivial⟩, (i + 1), ww4, rfl, rfl, (by rw [flat_succ (by omega)] <;> rfl), (by omega)⟩; omega
  refine VC.exit (VC.seq (VC.text ?_)); refine VO.c (.move rfl) (VO.c (.assign rfl) (VO.go ?_)); refine VC.ret ?_; exact VEndG.row rfl evT ⟨out, rfl, (by rw [List.take_of_length_le (by omega)])⟩
theorem zConcatP_ok {l : List (List (Pc × Int))} (hl : l.length < 100000) (h1 : l.flatten.length ≤ 1000000) : VFG Tryz.prog OA 35 [.v y165 l] [] (fun r g => ∃ w, r = .raw w ∧ g = [(w, .row 104 y104 l.flatten)]) := by
  by_cases h : l.flatten.length = 0
  · exact zConcatP0_ok hl h
  exact zConcatP1_ok hl (Nat.pos_of_ne_zero h) h1
theorem zEqLv_ok {a : List Nat} {b : List Nat} (ha : a.length < 100000) : VF Tryz.prog OA 39 [.v y41 a, .v y41 b] (B (sameLv a b)) := by
  refine VF.enter Tryz.func39 rfl (fun _ _ => rfl) rfl ?_; show VC _ _ _ _ _ [(0, .v y41 a), (1, .v y41 b)] [] _; refine VC.seq (VC.text ?_); refine VO.c (.assign rfl) ?_; refine VO.go (VC.seq (VC.seq (VC.text ?_))); refine VO.c (.move rfl) ?_; refine VO.r (.len el41) ?_; refine VO.c (.move rfl) ?_; refine VO.r (.len el41) ?_; refine VO.c (.neq) (VO.go ?_); refine VC.condD rfl (fun c1 => ?_) (fun c1 => ?_)
  · have hne : ¬ a.length = b.length := by omega
    refine VC.seq (VC.text ?_); refine VO.c (.assign rfl) (VO.go ?_); refine VC.ret ?_; exact VEnd.one rfl evT (pvE (by exact (decide_eq_false fun hh => hne hh.1).symm))
  have hle : a.length = b.length := by omega
  refine VC.skip (VC.seq (VC.seq (VC.text ?_))); refine VO.c (.move rfl) ?_; refine VO.r (.len el41) ?_; refine VO.c (.move rfl) ?_; refine VO.go (VC.block ?_); refine VC.keep [(0, .v y41 a), (1, .v y41 b), (12, I ((a.length : Nat) : Int)), (13, I ((0 : Nat) : Int))] ⟨rfl, rfl, rfl, rfl, trivial⟩ ?_; refine VC.loop (I := fun kk ff ss => ∃ (i : Nat), kk = a.length - i ∧ ff = [(0, .v y41 a), (1, .v y41 b), (12, I ((a.length : Nat) : Int)), (13, I ((i : Nat) : Int))] ∧ ss = [] ∧ (i ≤ a.length) ∧ (∀ j, j < i → fcmpE .neq .f32 (a.getD j 0) (b.getD j 0) = false)) ?_ _ _ _ ⟨0, rfl, rfl, rfl, Nat.zero_le _, (by intro j hj; omega)⟩; rintro kk ff ss ⟨i, hk0, rfl, rfl, hi, hn⟩; refine VC.seq (VC.text ?_); refine VO.c (.lss) ?_; refine VO.go (VC.seq ?_); refine VC.condD rfl (fun c4 => ?_) (fun c4 => ?_)
  · have hi' : i < a.length := by omega
    refine VC.skip (VC.seq (VC.block (VC.seq (VC.text ?_)))); refine VO.c (.move rfl) (VO.c (.assign rfl) ?_); refine VO.go (VC.seq (VC.drawn ?_)); refine VD.c (.move rfl) (VD.c (.move rfl) (VD.c (.ix (j := i) rfl rfl el41 (by omega)) ?_)); refine VD.r [] (.ld vt54) (.inl rfl) ?_; refine VD.c (.move rfl) (VD.c (.move rfl) (VD.nw [] (VD.c (.ix (j := i) rfl rfl el41 (by omega)) ?_))); refine VD.r [] (.ld vt54) (.inl rfl) ?_; refine VD.c (.fcmp .neq) (VD.go ?_); refine VC.condB rfl (fun c6 => ?_) (fun c6 => ?_)
    · have c6' : fcmpE .neq .f32 (a.getD i 0) (b.getD i 0) = true := by simpa [hi', show i < b.length by omega] using c6
      refine VC.seq (VC.text ?_); refine VO.c (.assign rfl) (VO.go ?_); refine VC.ret ?_; exact VEnd.one rfl evT (pvE (by exact (decide_eq_false fun hh => by rw [hh.2 i hi'] at c6'; cases c6').symm))
    have c6' : fcmpE .neq .f32 (a.getD i 0) (b.getD i 0) = false := by simpa [hi', show i < b.length by omega] using c6
    refine VC.skip (VC.text ?_); refine VO.c (.add rfl rfl (by omega)) (VO.c (.move rfl) ?_); refine VO.nil ?_; refine ⟨_, [(0, .v y41 a), (1, .v y41 b), (12, I ((a.length : Nat) : Int)), (13, I (((i + 1) : Nat) : Int))], ?_, ⟨rfl, rfl, rfl, rfl, trivial⟩, (i + 1), rfl, rfl, rfl, (by omega), (by intro j hj; rcases Nat.lt_succ_iff_lt_or_eq.1 hj with h | h; exact hn j h; subst h; exact c6')⟩; omega
  refine VC.exit (VC.seq (VC.text ?_)); refine VO.c (.assign rfl) (VO.go ?_); refine VC.ret ?_; exact VEnd.one rfl evT (pvE (by exact (decide_eq_true ⟨hle, fun j hj => hn j (by omega)⟩).symm))
theorem sOwned_ok {p : Int × ByteArray × Int × Int × (List Nat)} (hl : p.2.2.2.2.length < 100000) : VF Tryz.prog OA 40 [.v y43 p] (.v y43 p) := by
  refine VF.enter Tryz.func40 rfl (fun _ _ => rfl) rfl ?_; show VC _ _ _ _ _ [(0, .v y43 p)] [] _; refine VC.seq (VC.text ?_); refine VO.cell (.box (τ := y43) .v) ?_; intro ww5; refine VO.cell (.alloc zt43) ?_; intro ww6; refine VO.go (VC.seq (VC.text ?_)); refine VO.c (.faO (k := 4) m1) ?_; refine VO.r (.ldF (k := 4) m1 vt41) ?_; refine VO.r (.len el41) ?_; refine VO.cell (.make (k := p.2.2.2.2.length) rfl rfl el41 zt54 (by omega)) ?_; intro ww7; refine VO.c (.assign rfl) ?_; refine VO.go (VC.seq (VC.text ?_)); refine VO.c (.move rfl) (VO.c (.faO (k := 4) m2) ?_); refine VO.r (.ldF (k := 4) m2 vt41) ?_; refine VO.copy rfl rfl el41 (by simp) ?_; refine VO.go (VC.seq (VC.text ?_)); refine VO.c (.move rfl) (VO.c (.faO (k := 4) m2) ?_); refine VO.perm swap2 ?_; refine VO.one m1 fun ho8 => ?_; refine VO.setF (cs' := [I p.1, St p.2.1, I p.2.2.1, I p.2.2.2.1, .raw ww7]) 4 vt41 (.raw rfl (agg_one ho8) ho8) ?_; refine VO.go (VC.seq ?_); refine VC.perm swap1 ?_; refine VC.shutL [(ww7, .row 54 (.flt .f32) p.2.2.2.2), (ww5, .var [I p.1, St p.2.1, I p.2.2.1, I p.2.2.2.1, .raw ww7])] [(1, .p y43 (p.1, p.2.1, p.2.2.1, p.2.2.2.1, p.2.2.2.2))] rfl (.cons rfl (.var m1 (.cons .same (.cons .same (.cons .same (.cons .same (.cons (.row m0) .nil)))))) .nil) ?_; refine VC.text ?_; refine VO.r (.ld vt43) ?_; refine VO.setV (cs' := [I p.1, St p.2.1, I p.2.2.1, I p.2.2.2.1, .v y41 p.2.2.2.2]) vt43 .v ?_; refine VO.go ?_; refine VC.ret ?_; exact VEnd.one rfl (.cell (x := (p.1, p.2.1, p.2.2.1, p.2.2.2.1, p.2.2.2.2)) rfl m0 vt43 .refl) (pvE (by first | rfl | simp))
theorem mrgV_none {d : Dom} {a b : List Pc} (hb : mrgB d a b = 0) (h : pgL ltP smP none (allP d a b) = none) : mrgV d a b = ([], 30) := by rw [mrgV, if_neg (by simpa using hb), h] <;> rfl
theorem mrgV_some {d : Dom} {a b : List Pc} {o : List (Pc × Int)} (hb : mrgB d a b = 0) (h : pgL ltP smP none (allP d a b) = some o) : mrgV d a b = if (4096 : Int) < ((o.map (·.1)).length : Nat) then ([], 5) else (o.map (·.1), 0) := by rw [mrgV, if_neg (by simpa using hb), h] <;> rfl
theorem sMerge_ok {d : Int × Int × Int × (List (ByteArray × Int))} {a : List (Int × ByteArray × Int × Int × (List Nat))} {b : List (Int × ByteArray × Int × Int × (List Nat))} (hla : a.length < 100000) (hra : ∀ r ∈ a, r.2.2.2.2.length < 100000) (hlb : b.length < 100000) (hrb : ∀ r ∈ b, r.2.2.2.2.length < 100000) : VF Tryz.prog OA 9 [.v y39 d, .v y33 a, .v y33 b] (.tup [.v y33 ((mrgV d a b).1), I ((mrgV d a b).2)]) := by
  refine VF.enter Tryz.func9 rfl (fun _ _ => rfl) rfl ?_; show VC _ _ _ _ _ [(0, .v y39 d), (1, .v y33 a), (2, .v y33 b)] [] _; refine VC.seq (VC.text ?_)
  have hrp : ∀ x ∈ allP d a b, x.1.2.2.2.2.length < 100000 := fun x hx => by
    have h1 := (sortS_same ltP_weak _).symm.mem ltP_weak hx; rcases List.mem_append.1 h1 with h2 | h2
    · obtain ⟨p, hp, rfl⟩ := List.mem_map.1 h2; exact hra p hp
    obtain ⟨p, hp, rfl⟩ := List.mem_map.1 h2; exact hrb p hp
  have hal : (allP d a b).length = a.length + b.length := by rw [allP, sortS_len, List.length_append, List.length_map, List.length_map]
  refine VO.new (.box) ?_; refine VO.c (.assign rfl) (VO.c (.assign rfl) ?_); refine VO.go (VC.seq (VC.seq (VC.drawn ?_))); refine VD.r [] (.ld vt39) (.inl rfl) ?_; refine VD.c (.move rfl) ?_; refine VD.call rfl rfl (VF.call (sStore_ok hla hra)) ?_; refine VD.r [] (.ld vt39) (.inl rfl) ?_; refine VD.c (.move rfl) ?_; refine VD.call rfl rfl (VF.call (sStore_ok hlb hrb)) ?_; refine VD.nw [] ?_; refine VD.new (.lit [storeE d a, storeE d b] el164) ?_; refine VD.callO rfl rfl (VF.call (sFirst_ok (by first | assumption | omega | simp))) ?_; refine VD.c (.assign rfl) ?_; refine VD.go (VC.seq (VC.text ?_)); refine VO.c (.move rfl) (VO.c (.neq) (VO.go ?_)); refine VC.condD rfl (fun c2 => ?_) (fun c2 => ?_)
  · have hbad : mrgB d a b ≠ 0 := c2; refine VC.seq (VC.text ?_); refine VO.c (.move rfl) (VO.c (.assign rfl) (VO.c (.assign rfl) (VO.go ?_))); refine VC.ret ?_; exact VEnd.two rfl (evC .nil) evT (pvE (by rw [mrgV, if_pos hbad])) (pvI (by rw [mrgV, if_pos hbad] <;> rfl))
  have hbad : mrgB d a b = 0 := by simpa [mrgB] using c2
  have hb1 : storeE d a = 0 ∧ storeE d b = 0 := by have h := hbad; unfold mrgB at h; rw [firstE_zero] at h; exact ⟨h _ (by simp), h _ (by simp)⟩
  have hdl := (dom_ok (store_dom hb1.1).1).2.2.2.1; have hsa := (store_dom hb1.1).2.1; have hsb := (store_dom hb1.2).2.1; refine VC.skip (VC.seq (VC.drawn ?_)); refine VD.r [] (.ld vt39) (.inl rfl) ?_; refine VD.c (.move rfl) ?_; refine VD.call rfl rfl (VF.call (sPl_ok hdl hla)) ?_; refine VD.r [] (.ld vt39) (.inl rfl) ?_; refine VD.c (.move rfl) ?_; refine VD.call rfl rfl (VF.call (sPl_ok hdl hlb)) ?_; refine VD.nw [29, 26] ?_; refine VD.new (.lit [a.map (plE d), b.map (plE d)] el165) ?_; refine VD.callG rfl rfl (VFG.call (zConcatP_ok (by simp) (by simp; omega))) ?_; rintro _ _ ⟨ww9, rfl, rfl⟩; show VD _ _ _ _ _ _ _ _ [(ww9, .row 104 y104 ([a.map (plE d), b.map (plE d)].flatten))] _ _ _ _ _; refine VD.c (.assign rfl) ?_; refine VD.go (VC.seq (VC.text ?_)); rw [show [a.map (plE d), b.map (plE d)].flatten = a.map (plE d) ++ b.map (plE d) by simp]; refine VO.c (.move rfl) ?_; refine VO.callG [(ww9, .row 104 y104 (a.map (plE d) ++ b.map (plE d)))] rfl rfl rfl (VFG.call (zSSF_ok (by simp; omega) (fun _ _ => VF.call sCmpP_ok))) ?_; rintro _ _ ⟨rfl, rfl⟩; show VO _ _ _ _ _ _ [(ww9, .row 104 y104 (sortS ltP (a.map (plE d) ++ b.map (plE d))))] _; rw [show sortS ltP (a.map (plE d) ++ b.map (plE d)) = allP d a b from rfl]; refine VO.go (VC.seq (VC.text ?_)); refine VO.c (.assign rfl) ?_; refine VO.go (VC.seq (VC.seq ?_)); refine VC.shutL [(ww9, .row 104 y104 (allP d a b))] [(9, .v y101 (allP d a b))] rfl (.cons rfl (.row m0) .nil) ?_; refine VC.text ?_; refine VO.c (.move rfl) ?_; refine VO.r (.len el101) ?_; refine VO.c (.move rfl) ?_; refine VO.go (VC.block ?_); refine VC.cell0 43 y43 ?_; refine VC.keep [(9, .v y101 (allP d a b)), (10, .raw (.slice none 0 0)), (34, .v y101 (allP d a b)), (35, I (((allP d a b).length : Nat) : Int)), (36, I ((0 : Nat) : Int))] ⟨rfl, rfl, rfl, rfl, rfl, trivial⟩ ?_; refine VC.loop (I := fun kk ff ss => ∃ (i : Nat) (o : List (Pc × Int)) (out : Value), kk = (allP d a b).length - i ∧ ff = [(9, .v y101 (allP d a b)), (10, .raw out), (34, .v y101 (allP d a b)), (35, I (((allP d a b).length : Nat) : Int)), (36, I ((i : Nat) : Int))] ∧ ss = [(out, .row 43 y43 (o.map (·.1)))] ∧ (i ≤ (allP d a b).length) ∧ (o.length ≤ i) ∧ (pgL ltP smP none (allP d a b) = (pgL ltP smP (prevE zPl (allP d a b) i) ((allP d a b).drop i)).map (o ++ ·))) ?_ _ _ _ ⟨0, [], (.slice none 0 0), rfl, rfl, rfl, (by omega), (by simp), (by simp [prevE])⟩; rintro kk ff ss ⟨i, o, out, hk0, rfl, rfl, hi, ho, hq⟩; refine VC.seq (VC.text ?_); refine VO.c (.lss) ?_; refine VO.go (VC.seq ?_); refine VC.condD rfl (fun c8 => ?_) (fun c8 => ?_)
  · have hi' : i < (allP d a b).length := by omega
    refine VC.skip (VC.seq (VC.block (VC.seq (VC.text ?_)))); refine VO.c (.move rfl) (VO.c (.ix (j := i) rfl rfl el101 (by omega)) ?_); refine VO.r (.ld vt104) ?_; refine VO.cell (.alloc zt104) ?_; intro ww11; refine VO.c (.assign rfl) ?_; refine VO.setV (cs' := [I ((((allP d a b)[i]).1).1), St ((((allP d a b)[i]).1).2.1), I ((((allP d a b)[i]).1).2.2.1), I ((((allP d a b)[i]).1).2.2.2.1), .v y41 ((((allP d a b)[i]).1).2.2.2.2), I (((allP d a b)[i]).2)]) vt104 .v ?_; refine VO.shut [(12, .p y104 ((allP d a b)[i]))] (.cons rfl (.var m0 .refl) .nil) ?_; refine VO.go (VC.seq (VC.seq (VC.drawn ?_))); refine VD.c (.move rfl) (VD.c (.gtr) (VD.c (.move rfl) ?_)); refine VD.splitD (x := 43) rfl (fun g10_2 => ?_) (fun g10_2 => ?_)
    · have e1 : (allP d a b).getD (i - 1) zPl = (allP d a b)[(((i : Nat) : Int) - (1 : Int)).toNat]'(by omega) := by rw [getDg _ _ (by omega)]; congr 1; omega
      have e2 : (allP d a b).getD i zPl = (allP d a b)[i] := getDg _ _ hi'; refine VD.c (.move rfl) (VD.c (.move rfl) (VD.nw [] (VD.c (.sub rfl rfl (by omega)) ?_))); refine VD.c (.ixZ (k := (((i : Nat) : Int) - (1 : Int))) rfl rfl el101 (by omega) (by omega)) ?_; refine VD.r [] (.ld vt104) (.inl rfl) ?_; refine VD.r [] (.ld vt104) (.inl rfl) ?_; refine VD.call rfl rfl (VF.call (sCmpP_ok )) ?_; refine VD.c (.eql) (VD.c (.pickT rfl rfl) (VD.go ?_)); refine VC.condD rfl (fun c10 => ?_) (fun c10 => ?_)
      · have htie : tieB ltP zPl (allP d a b) i = true := by unfold tieB; rw [decide_eq_true (by omega), Bool.true_and, ← cmpP_eqv, e1, e2]; exact c10
        refine VC.seq (VC.seq (VC.drawn ?_)); refine VD.c (.move rfl) (VD.c (.move rfl) (VD.c (.sub rfl rfl (by omega)) (VD.c (.ixZ (k := (((i : Nat) : Int) - (1 : Int))) rfl rfl el101 (by omega) (by omega)) ?_))); refine VD.c (.fa (.l .o)) (VD.c (.fa (.r (.r (.r (.r .o))))) (VD.nw [] ?_)); refine VD.r [] (.ld vt41) (.inl rfl) ?_; refine VD.c (.fa (.l .o)) (VD.c (.fa (.r (.r (.r (.r .o))))) ?_); refine VD.r [] (.ld vt41) (.inl rfl) ?_; refine VD.call rfl rfl (VF.call (zEqLv_ok (hrp _ (List.getElem_mem _)))) ?_; refine VD.c (.not) (VD.go ?_); refine VC.condB rfl (fun c11 => ?_) (fun c11 => ?_)
        · try simp only [Bool.and_eq_true, Bool.or_eq_true, Bool.and_eq_false_iff, Bool.or_eq_false_iff, Bool.not_eq_true', Bool.not_eq_false', decide_eq_true_eq, decide_eq_false_iff_not] at c11
          have hsm : smP ((allP d a b).getD (i - 1) zPl) ((allP d a b).getD i zPl) = false := by rw [e1, e2]; exact c11
          have hpg : pgL ltP smP none (allP d a b) = none := by rw [hq, pg_tie hi' htie, if_neg (by rw [hsm]; exact Bool.false_ne_true)] <;> rfl
          refine VC.seq (VC.text ?_); refine VO.c (.assign rfl) (VO.c (.assign rfl) (VO.go ?_)); refine VC.ret ?_; exact VEnd.two rfl (evC .nil) evT (pvE (by rw [mrgV_none hbad hpg])) (pvI (by rw [mrgV_none hbad hpg]))
        try simp only [Bool.and_eq_true, Bool.or_eq_true, Bool.and_eq_false_iff, Bool.or_eq_false_iff, Bool.not_eq_true', Bool.not_eq_false', decide_eq_true_eq, decide_eq_false_iff_not] at c11
        have hsm : smP ((allP d a b).getD (i - 1) zPl) ((allP d a b).getD i zPl) = true := by rw [e1, e2]; exact c11
        refine VC.skip (VC.exit (VC.text ?_)); refine VO.c (.add rfl rfl (by omega)) (VO.c (.move rfl) ?_); refine VO.nil ?_; refine ⟨_, [(9, .v y101 (allP d a b)), (10, .raw out), (34, .v y101 (allP d a b)), (35, I (((allP d a b).length : Nat) : Int)), (36, I (((i + 1) : Nat) : Int))], ?_, ⟨rfl, rfl, rfl, rfl, rfl, trivial⟩, (i + 1), (if tieB ltP zPl (allP d a b) i then o else o ++ [(allP d a b).getD i zPl]), out, rfl, rfl, (by first | rw [if_pos htie] | (rw [if_neg (by rw [htie]; exact Bool.false_ne_true), List.map_append, getDg _ _ hi']; rfl)), (by omega), (by split <;> (try rw [List.length_append, List.length_singleton]) <;> omega), (by first | (rw [if_pos htie, hq, pg_tie hi' htie, if_pos hsm]) | (rw [if_neg (by rw [htie]; exact Bool.false_ne_true), hq, pg_new hi' htie, map_app]))⟩; omega
      have htie : tieB ltP zPl (allP d a b) i = false := by unfold tieB; rw [decide_eq_true (by omega), Bool.true_and, Bool.eq_false_iff]; intro hh; rw [← cmpP_eqv, e1, e2] at hh; exact c10 hh
      refine VC.skip (VC.text ?_); refine VO.c (.move rfl) (VO.c (.fa (.l .o)) ?_); refine VO.r (.ld vt43) ?_; refine VO.call rfl rfl (VF.call (sOwned_ok (hrp _ (List.getElem_mem _)))) ?_; refine VO.new (.lit [(((allP d a b)[i]).1)] el33) ?_; refine VO.app rfl rfl el33 el33 (by simp; omega) ?_; intro ww12; refine VO.c (.assign rfl) ?_; refine VO.nil (VC.text ?_); refine VO.c (.add rfl rfl (by omega)) (VO.c (.move rfl) ?_); refine VO.nil ?_; refine ⟨_, [(9, .v y101 (allP d a b)), (10, .raw ww12), (34, .v y101 (allP d a b)), (35, I (((allP d a b).length : Nat) : Int)), (36, I (((i + 1) : Nat) : Int))], ?_, ⟨rfl, rfl, rfl, rfl, rfl, trivial⟩, (i + 1), (if tieB ltP zPl (allP d a b) i then o else o ++ [(allP d a b).getD i zPl]), ww12, rfl, rfl, (by first | rw [if_pos htie] | (rw [if_neg (by rw [htie]; exact Bool.false_ne_true), List.map_append, getDg _ _ hi']; rfl)), (by omega), (by split <;> (try rw [List.length_append, List.length_singleton]) <;> omega), (by first | (rw [if_pos htie, hq, pg_tie hi' htie, if_pos hsm]) | (rw [if_neg (by rw [htie]; exact Bool.false_ne_true), hq, pg_new hi' htie, map_app]))⟩; omega
    have htie : tieB ltP zPl (allP d a b) i = false := by unfold tieB; rw [decide_eq_false (by omega)] <;> rfl
    refine VD.skip (VD.skip (VD.nw [] (VD.skip ?_))); refine VD.skip (VD.skip (VD.skip (VD.skip ?_))); refine VD.skip (VD.c (.pickF rfl rfl) (VD.go ?_)); refine VC.condF rfl ?_; refine VC.skip (VC.text ?_); refine VO.c (.move rfl) (VO.c (.fa (.l .o)) ?_); refine VO.r (.ld vt43) ?_; refine VO.call rfl rfl (VF.call (sOwned_ok (hrp _ (List.getElem_mem _)))) ?_; refine VO.new (.lit [(((allP d a b)[i]).1)] el33) ?_; refine VO.app rfl rfl el33 el33 (by simp; omega) ?_; intro ww13; refine VO.c (.assign rfl) ?_; refine VO.nil (VC.text ?_); refine VO.c (.add rfl rfl (by omega)) (VO.c (.move rfl) ?_); refine VO.nil ?_; refine ⟨_, [(9, .v y101 (allP d a b)), (10, .raw ww13), (34, .v y101 (allP d a b)), (35, I (((allP d a b).length : Nat) : Int)), (36, I (((i + 1) : Nat) : Int))], ?_, ⟨rfl, rfl, rfl, rfl, rfl, trivial⟩, (i + 1), (if tieB ltP zPl (allP d a b) i then o else o ++ [(allP d a b).getD i zPl]), ww13, rfl, rfl, (by first | rw [if_pos htie] | (rw [if_neg (by rw [htie]; exact Bool.false_ne_true), List.map_append, getDg _ _ hi']; rfl)), (by omega), (by split <;> (try rw [List.length_append, List.length_singleton]) <;> omega), (by first | (rw [if_pos htie, hq, pg_tie hi' htie, if_pos hsm]) | (rw [if_neg (by rw [htie]; exact Bool.false_ne_true), hq, pg_new hi' htie, map_app]))⟩; omega
  refine VC.exit (VC.seq (VC.seq (VC.text ?_)))
  have hfin : pgL ltP smP none (allP d a b) = some o := by rw [hq, pg_end (d := zPl) (by omega)]; simp
  refine VO.c (.move rfl) ?_; refine VO.r (.lenO m0 el33) ?_; refine VO.c (.gtr) (VO.go ?_); refine VC.condD rfl (fun c15 => ?_) (fun c15 => ?_)
  · refine VC.seq (VC.text ?_); refine VO.c (.assign rfl) (VO.c (.assign rfl) (VO.go ?_)); refine VC.ret ?_; exact VEnd.two rfl (evC .nil) evT (pvE (by rw [mrgV_some hbad hfin, if_pos (by simpa using c15)])) (pvI (by rw [mrgV_some hbad hfin, if_pos (by simpa using c15)]))
  refine VC.skip (VC.seq (VC.text ?_)); refine VO.c (.move rfl) (VO.c (.assign rfl) (VO.c (.assign rfl) (VO.go ?_))); refine VC.ret ?_; exact VEnd.two rfl (evC (.row m0)) evT (pvE (by rw [mrgV_some hbad hfin, if_neg (by simpa using c15)])) (pvI (by rw [mrgV_some hbad hfin, if_neg (by simpa using c15)]))
end Go.Proofs
namespace Go.Proofs
open Go.Fs Ieee
def smL (a b : Pc) : Bool := sameLv a.2.2.2.2 b.2.2.2.2
end Go.Proofs
namespace Go.Proofs
open Go.Fs Ieee
theorem ltP_bef {d : Dom} {a b : Pc} (hd : domE d = 0) (ha : pcE d a = 0) (hb : pcE d b = 0) : ltP (plE d a) (plE d b) = befE d a b := by
  have h := cmp_bef hd ha hb; unfold ltP; by_cases h2 : 0 ≤ cmpP (plE d a) (plE d b)
  · rw [decide_eq_true h2] at h; rw [decide_eq_false (by omega), ← Bool.not_not (befE d a b), ← h] <;> rfl
  rw [decide_eq_false h2] at h; rw [decide_eq_true (by omega), ← Bool.not_not (befE d a b), ← h] <;> rfl
theorem store_str {d : Dom} {l : List Pc} (hs : storeE d l = 0) : StrS ltP (l.map (plE d)) := by
  obtain ⟨hd, _, hz⟩ := store_dom hs; refine List.pairwise_iff_getElem.2 fun i j hi hj h => ?_; rw [List.length_map] at hi hj; rw [List.getElem_map, List.getElem_map, pcA_eq hi, pcA_eq hj]; have := all_lt hz j h hj; unfold ltP; exact decide_eq_true (by omega)
theorem store_pc {d : Dom} {l : List Pc} (hs : storeE d l = 0) : ∀ p ∈ l, pcE d p = 0 := fun p hp => by
  obtain ⟨i, hi, rfl⟩ := List.getElem_of_mem hp; have := piece_zero ((store_dom hs).2.2 i hi)
  rwa [← pcA_eq hi] at this
theorem mrg_same {d : Dom} {a b : List Pc} (ha : storeE d a = 0) (hb : storeE d b = 0) : pgL ltP smP none (allP d a b) = (rmE (befE d) smL a b).map (List.map (plE d)) := by
  have hd := (store_dom ha).1; unfold allP; rw [pgL_sort ltP_weak (store_str ha) (store_str hb)]; exact rmE_map (plE d) a b fun x hx y hy => ⟨ltP_bef hd (store_pc ha x hx) (store_pc hb y hy), ltP_bef hd (store_pc hb y hy) (store_pc ha x hx), rfl⟩
theorem pl_fst {d : Dom} (l : List Pc) : (l.map (plE d)).map (·.1) = l := by rw [List.map_map]; exact List.map_id' l
theorem mrg_val {d : Dom} {a b : List Pc} (ha : storeE d a = 0) (hb : storeE d b = 0) : mrgV d a b = mrgQ (rmE (befE d) smL a b) := by
  have h0 : mrgB d a b = 0 := by unfold mrgB; rw [ha, hb] <;> rfl
  rw [mrgV, if_neg (by simpa using h0), mrg_same ha hb]
  cases rmE (befE d) smL a b with
  | none => rfl
  | some o => show mrgQ (some ((o.map (plE d)).map (·.1))) = _; rw [pl_fst]
def samePc (a b : Pc) : Bool := decide (a.1 = b.1 ∧ a.2.1 = b.2.1 ∧ a.2.2.1 = b.2.2.1 ∧ a.2.2.2.1 = b.2.2.2.1 ∧ sameLv a.2.2.2.2 b.2.2.2.2 = true)
def sameSt (a b : List Pc) : Bool := decide (a.length = b.length ∧ ∀ i, i < a.length → samePc (pcA a i) (pcA b i) = true)
theorem store_lv {d : Dom} {l : List Pc} (hs : storeE d l = 0) : ∀ p ∈ l, ∀ x ∈ p.2.2.2.2, lvlE x = 0 := fun p hp => (pc_lv (store_pc hs p hp)).2
theorem rSame_ok {a : List (Int × ByteArray × Int × Int × (List Nat))} {b : List (Int × ByteArray × Int × Int × (List Nat))} (ha : a.length < 100000) (hr : ∀ r ∈ a, r.2.2.2.2.length < 100000) : VF Tryz.prog OA 15 [.v y25 a, .v y25 b] (B (sameSt a b)) := by
  refine VF.enter Tryz.func15 rfl (fun _ _ => rfl) rfl ?_; show VC _ _ _ _ _ [(0, .v y25 a), (1, .v y25 b)] [] _; refine VC.seq (VC.text ?_); refine VO.c (.assign rfl) ?_; refine VO.go (VC.seq (VC.seq (VC.text ?_))); refine VO.c (.move rfl) ?_; refine VO.r (.len el25) ?_; refine VO.c (.move rfl) ?_; refine VO.r (.len el25) ?_; refine VO.c (.neq) (VO.go ?_); refine VC.condD rfl (fun c1 => ?_) (fun c1 => ?_)
  · have hne : ¬ a.length = b.length := by omega
    refine VC.seq (VC.text ?_); refine VO.c (.assign rfl) (VO.go ?_); refine VC.ret ?_; exact VEnd.one rfl evT (pvE (by exact (decide_eq_false fun hh => hne hh.1).symm))
  have hle : a.length = b.length := by omega
  refine VC.skip (VC.seq (VC.seq (VC.text ?_))); refine VO.c (.assign rfl) ?_; refine VO.go (VC.block ?_); refine VC.keep [(0, .v y25 a), (1, .v y25 b), (5, I ((0 : Nat) : Int))] ⟨rfl, rfl, rfl, trivial⟩ ?_; refine VC.loop (I := fun kk ff ss => ∃ (i : Nat), kk = a.length - i ∧ ff = [(0, .v y25 a), (1, .v y25 b), (5, I ((i : Nat) : Int))] ∧ ss = [] ∧ (i ≤ a.length) ∧ (∀ j, j < i → samePc (pcA a j) (pcA b j) = true)) ?_ _ _ _ ⟨0, rfl, rfl, rfl, Nat.zero_le _, (by intro j hj; omega)⟩; rintro kk ff ss ⟨i, hk0, rfl, rfl, hi, hn⟩; refine VC.seq (VC.seq (VC.text ?_)); refine VO.c (.move rfl) (VO.c (.move rfl) ?_); refine VO.r (.len el25) ?_; refine VO.c (.lss) (VO.go ?_); refine VC.condD rfl (fun c4 => ?_) (fun c4 => ?_)
  · have hi' : i < a.length := by omega
    have hj' : i < b.length := by omega
    refine VC.skip (VC.seq (VC.block (VC.seq ?_))); refine VC.join [(0, .v y25 a), (1, .v y25 b), (5, I ((i : Nat) : Int)), (80, B (!samePc a[i] b[i]))] [] ?_ ?_
    · skip
      refine VC.drawn ?_; refine VD.c (.move rfl) (VD.c (.move rfl) (VD.c (.ix (j := i) rfl rfl el25 (by omega)) (VD.c (.fa (.l .o)) ?_))); refine VD.r [] (.ld vt3) (.inl rfl) ?_; refine VD.c (.move rfl) (VD.nw [] (VD.c (.move rfl) (VD.c (.ix (j := i) rfl rfl el25 (by omega)) ?_))); refine VD.c (.fa (.l .o)) ?_; refine VD.r [] (.ld vt3) (.inl rfl) ?_; refine VD.c (.neq) (VD.c (.move rfl) ?_); refine VD.splitD (x := 28) rfl (fun g6_11 => ?_) (fun g6_11 => ?_)
      · refine VD.nw [] (VD.skip (VD.skip (VD.skip ?_))); refine VD.skip (VD.skip (VD.skip (VD.skip ?_))); refine VD.nw [] (VD.skip (VD.skip (VD.skip ?_))); refine VD.skip (VD.c (.pickT rfl rfl) (VD.c (.move rfl) (VD.skip ?_))); refine VD.nw [] (VD.skip (VD.skip (VD.skip ?_))); refine VD.skip (VD.skip (VD.skip (VD.skip ?_))); refine VD.nw [] (VD.skip (VD.skip (VD.skip ?_))); refine VD.c (.pickT rfl rfl) (VD.c (.move rfl) (VD.skip (VD.skip ?_))); refine VD.nw [] (VD.skip (VD.skip (VD.skip ?_))); refine VD.skip (VD.skip (VD.skip (VD.skip ?_))); refine VD.nw [] (VD.skip (VD.skip (VD.c (.pickT rfl rfl) ?_))); refine VD.c (.move rfl) (VD.skip (VD.skip (VD.skip ?_))); refine VD.nw [] (VD.skip (VD.skip (VD.skip ?_))); refine VD.skip (VD.skip (VD.skip (VD.skip ?_))); refine VD.nw [] (VD.skip (VD.skip (VD.c (.pickT rfl rfl) ?_))); refine VD.nil ?_; exact ⟨⟨rfl, rfl, rfl, slE rfl (by unfold samePc; simp_all), trivial⟩, rfl⟩
      refine VD.nw [] (VD.c (.move rfl) (VD.c (.move rfl) (VD.c (.ix (j := i) rfl rfl el25 (by omega)) ?_))); refine VD.c (.fa (.r (.l .o))) ?_; refine VD.r [] (.ld vt9) (.inl rfl) ?_; refine VD.c (.move rfl) (VD.c (.move rfl) (VD.nw [] (VD.c (.ix (j := i) rfl rfl el25 (by omega)) ?_))); refine VD.c (.fa (.r (.l .o))) ?_; refine VD.r [] (.ld vt9) (.inl rfl) ?_; refine VD.c (.sneq) (VD.c (.pickF rfl rfl) (VD.c (.move rfl) ?_)); refine VD.splitD (x := 41) rfl (fun g6_24 => ?_) (fun g6_24 => ?_)
      · refine VD.nw [] (VD.skip (VD.skip (VD.skip ?_))); refine VD.skip (VD.skip (VD.skip (VD.skip ?_))); refine VD.nw [] (VD.skip (VD.skip (VD.skip ?_))); refine VD.skip (VD.c (.pickT rfl rfl) (VD.c (.move rfl) (VD.skip ?_))); refine VD.nw [] (VD.skip (VD.skip (VD.skip ?_))); refine VD.skip (VD.skip (VD.skip (VD.skip ?_))); refine VD.nw [] (VD.skip (VD.skip (VD.skip ?_))); refine VD.c (.pickT rfl rfl) (VD.c (.move rfl) (VD.skip (VD.skip ?_))); refine VD.nw [] (VD.skip (VD.skip (VD.skip ?_))); refine VD.skip (VD.skip (VD.skip (VD.skip ?_))); refine VD.nw [] (VD.skip (VD.skip (VD.skip ?_))); refine VD.c (.pickT rfl rfl) ?_; refine VD.nil ?_; exact ⟨⟨rfl, rfl, rfl, slE rfl (by unfold samePc; simp_all), trivial⟩, rfl⟩
      refine VD.nw [] (VD.c (.move rfl) (VD.c (.move rfl) (VD.c (.ix (j := i) rfl rfl el25 (by omega)) ?_))); refine VD.c (.fa (.r (.r (.l .o)))) ?_; refine VD.r [] (.ld vt3) (.inl rfl) ?_; refine VD.c (.move rfl) (VD.c (.move rfl) (VD.nw [] (VD.c (.ix (j := i) rfl rfl el25 (by omega)) ?_))); refine VD.c (.fa (.r (.r (.l .o)))) ?_; refine VD.r [] (.ld vt3) (.inl rfl) ?_; refine VD.c (.neq) (VD.c (.pickF rfl rfl) (VD.c (.move rfl) ?_)); refine VD.splitD (x := 54) rfl (fun g6_37 => ?_) (fun g6_37 => ?_)
      · refine VD.nw [] (VD.skip (VD.skip (VD.skip ?_))); refine VD.skip (VD.skip (VD.skip (VD.skip ?_))); refine VD.nw [] (VD.skip (VD.skip (VD.skip ?_))); refine VD.skip (VD.c (.pickT rfl rfl) (VD.c (.move rfl) (VD.skip ?_))); refine VD.nw [] (VD.skip (VD.skip (VD.skip ?_))); refine VD.skip (VD.skip (VD.skip (VD.skip ?_))); refine VD.nw [] (VD.skip (VD.skip (VD.skip ?_))); refine VD.skip (VD.c (.pickT rfl rfl) ?_); refine VD.nil ?_; exact ⟨⟨rfl, rfl, rfl, slE rfl (by unfold samePc; simp_all), trivial⟩, rfl⟩
      refine VD.nw [] (VD.c (.move rfl) (VD.c (.move rfl) (VD.c (.ix (j := i) rfl rfl el25 (by omega)) ?_))); refine VD.c (.fa (.r (.r (.r (.l .o))))) ?_; refine VD.r [] (.ld vt3) (.inl rfl) ?_; refine VD.c (.move rfl) (VD.c (.move rfl) (VD.nw [] (VD.c (.ix (j := i) rfl rfl el25 (by omega)) ?_))); refine VD.c (.fa (.r (.r (.r (.l .o))))) ?_; refine VD.r [] (.ld vt3) (.inl rfl) ?_; refine VD.c (.neq) (VD.c (.pickF rfl rfl) (VD.c (.move rfl) ?_)); refine VD.splitD (x := 67) rfl (fun g6_50 => ?_) (fun g6_50 => ?_)
      · refine VD.nw [] (VD.skip (VD.skip (VD.skip ?_))); refine VD.skip (VD.skip (VD.skip (VD.skip ?_))); refine VD.nw [] (VD.skip (VD.skip (VD.skip ?_))); refine VD.skip (VD.skip (VD.c (.pickT rfl rfl) ?_)); refine VD.nil ?_; exact ⟨⟨rfl, rfl, rfl, slE rfl (by unfold samePc; simp_all), trivial⟩, rfl⟩
      refine VD.nw [] (VD.c (.move rfl) (VD.c (.move rfl) (VD.c (.ix (j := i) rfl rfl el25 (by omega)) ?_))); refine VD.c (.fa (.r (.r (.r (.r .o))))) ?_; refine VD.r [] (.ld vt41) (.inl rfl) ?_; refine VD.c (.move rfl) (VD.c (.move rfl) (VD.nw [] (VD.c (.ix (j := i) rfl rfl el25 (by omega)) ?_))); refine VD.c (.fa (.r (.r (.r (.r .o))))) ?_; refine VD.r [] (.ld vt41) (.inl rfl) ?_; refine VD.call rfl rfl (VF.call (rSameLv_ok (hr _ (List.getElem_mem _)))) ?_; refine VD.c (.not) (VD.c (.pickF rfl rfl) ?_); refine VD.nil ?_; exact ⟨⟨rfl, rfl, rfl, slE rfl (by unfold samePc; simp_all), trivial⟩, rfl⟩
    refine VC.condB rfl (fun c6 => ?_) (fun c6 => ?_)
    · try simp only [Bool.and_eq_true, Bool.or_eq_true, Bool.and_eq_false_iff, Bool.or_eq_false_iff, Bool.not_eq_true', Bool.not_eq_false', decide_eq_true_eq, decide_eq_false_iff_not] at c6
      have c6' : samePc a[i] b[i] = false := by simpa using c6
      refine VC.seq (VC.text ?_); refine VO.c (.assign rfl) (VO.go ?_); refine VC.ret ?_; exact VEnd.one rfl evT (pvE (by exact (decide_eq_false fun hh => by have := hh.2 i hi'; rw [← pcA_eq hi', ← pcA_eq hj', c6'] at this; cases this).symm))
    try simp only [Bool.and_eq_true, Bool.or_eq_true, Bool.and_eq_false_iff, Bool.or_eq_false_iff, Bool.not_eq_true', Bool.not_eq_false', decide_eq_true_eq, decide_eq_false_iff_not] at c6
    have c6' : samePc a[i] b[i] = true := by simpa using c6
    refine VC.skip (VC.text ?_); refine VO.c (.move rfl) (VO.c (.add rfl rfl (by omega)) (VO.c (.assign rfl) ?_)); refine VO.nil ?_; refine ⟨_, [(0, .v y25 a), (1, .v y25 b), (5, I (((i + 1) : Nat) : Int))], ?_, ⟨rfl, rfl, rfl, trivial⟩, (i + 1), rfl, rfl, rfl, (by omega), (by intro j hj; rcases Nat.lt_succ_iff_lt_or_eq.1 hj with h | h; exact hn j h; subst h; rw [← pcA_eq hi', ← pcA_eq hj']; exact c6')⟩; omega
  refine VC.exit (VC.seq (VC.text ?_)); refine VO.c (.assign rfl) (VO.go ?_); refine VC.ret ?_; exact VEnd.one rfl evT (pvE (by exact (decide_eq_true ⟨hle, fun j hj => hn j (by omega)⟩).symm))
theorem lTold_ok {l : List (Int × ByteArray × Int × Int × (List Nat))} (hl : l.length < 100000) : VF Tryz.prog OA 14 [.v y33 l] (.v y25 l) := by
  refine VF.enter Tryz.func14 rfl (fun _ _ => rfl) rfl ?_; show VC _ _ _ _ _ [(0, .v y33 l)] [] _; refine VC.seq (VC.text ?_); refine VO.c (.assign rfl) ?_; refine VO.go (VC.seq (VC.text ?_)); refine VO.c (.assign rfl) ?_; refine VO.go (VC.seq (VC.seq (VC.text ?_))); refine VO.c (.move rfl) ?_; refine VO.r (.len el33) ?_; refine VO.c (.move rfl) ?_; refine VO.go (VC.block ?_); refine VC.cell0 45 y45 ?_; refine VC.keep [(3, .raw (.slice none 0 0)), (6, .v y33 l), (7, I ((l.length : Nat) : Int)), (8, I ((0 : Nat) : Int))] ⟨rfl, rfl, rfl, rfl, trivial⟩ ?_; refine VC.loop (I := fun kk ff ss => ∃ (j : Nat) (out : Value), kk = l.length - j ∧ ff = [(3, .raw out), (6, .v y33 l), (7, I ((l.length : Nat) : Int)), (8, I ((j : Nat) : Int))] ∧ ss = [(out, .row 45 y45 (l.take j))] ∧ (j ≤ l.length)) ?_ _ _ _ ⟨0, (.slice none 0 0), rfl, rfl, rfl, Nat.zero_le _⟩; rintro kk ff ss ⟨j, out, hk0, rfl, rfl, hj⟩; refine VC.seq (VC.text ?_); refine VO.c (.lss) ?_; refine VO.go (VC.seq ?_); refine VC.condD rfl (fun c3 => ?_) (fun c3 => ?_)
  · refine VC.skip (VC.seq (VC.block (VC.seq (VC.text ?_)))); refine VO.c (.ix (j := j) rfl rfl el33 (by omega)) ?_; refine VO.r (.ld vt43) ?_; refine VO.cell (.alloc zt43) ?_; intro ww1; refine VO.setV (cs' := [I ((l[j]).1), St ((l[j]).2.1), I ((l[j]).2.2.1), I ((l[j]).2.2.2.1), .v y41 ((l[j]).2.2.2.2)]) vt43 .v ?_; refine VO.shut [(5, .p y43 (l[j]))] (.cons rfl (.var m0 .refl) .nil) ?_; refine VO.go (VC.text ?_); refine VO.c (.move rfl) ?_; refine VO.r (.ld vt43) ?_; refine VO.new (.lit [l[j]] el25) ?_; refine VO.app rfl rfl el25 el25 (by simp; omega) ?_; intro ww2; refine VO.c (.assign rfl) ?_; refine VO.nil (VC.text ?_); refine VO.c (.add rfl rfl (by omega)) (VO.c (.move rfl) ?_); refine VO.nil ?_; refine ⟨_, [(3, .raw ww2), (6, .v y33 l), (7, I ((l.length : Nat) : Int)), (8, I (((j + 1) : Nat) : Int))], ?_, ⟨rfl, rfl, rfl, rfl, trivial⟩, (j + 1), ww2, rfl, rfl, (by rw [List.take_succ_eq_append_getElem (by omega)] <;> rfl), (by omega)⟩; omega
  refine VC.exit (VC.seq (VC.text ?_)); refine VO.c (.move rfl) (VO.c (.assign rfl) (VO.go ?_)); refine VC.ret ?_; exact VEnd.one rfl (evC (.row m0)) (pvE (by rw [List.take_of_length_le (by omega)]))
end Go.Proofs
