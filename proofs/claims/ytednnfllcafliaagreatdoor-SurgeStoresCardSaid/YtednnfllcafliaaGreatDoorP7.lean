/- Two strictly sorted lists merged: a stable sort of both, then each once. No condition. Runs told by what the slots tell: rows of known room that are full, rows that are nothing yet, copies, parts of a row's element. No condition. Runs told by what the slots tell: parts of an own row's element. No condition. -/
import Derived.Test.YtednnfllcafliaaGreatDoorP6
import Derived.Test.YtednnfllcafliaaGreatDoorP5
set_option linter.all false
namespace Go.Proofs
open Go.Fs Ieee
set_option linter.unusedVariables false
abbrev y96 : Ty := (.sl (.pair (.int .i64) (.pair .str (.pair (.int .i64) (.pair (.int .i64) (.sl (.flt .f32)))))))
abbrev y152 : Ty := (.pair (.int .i64) (.pair .str (.pair (.int .i64) (.pair (.int .i64) (.sl (.flt .f32))))))
theorem vt95 : ValT Tryz.prog 95 y95 := valT_of (by kernel_rfl)
theorem vt152 : ValT Tryz.prog 152 y152 := valT_of (by kernel_rfl)
theorem el96 : ElT Tryz.prog 96 152 y152 := elT_of (by kernel_rfl)
/-! ## The reference's stores -/
theorem idx_none {l : Mems} {x : ByteArray} : ∀ (i : Nat), mget (idxM l i) x = none → ∀ k, k < i → nmE l k ≠ x
  | 0, _, k, hk => by omega
  | i + 1, h, k, hk => by
    rw [idxM, mget_mset] at h
    split at h
    · cases h
    · rename_i hx
      rcases Nat.lt_succ_iff_lt_or_eq.1 hk with h3 | h3
      · exact idx_none i h k h3
      · subst h3; exact fun e => hx e.symm
theorem idx_some {l : Mems} {x : ByteArray} {v : Int} : ∀ (i : Nat), mget (idxM l i) x = some v → ∃ k, k < i ∧ v = (k : Int) ∧ nmE l k = x
  | 0, h => by cases h
  | i + 1, h => by
    rw [idxM, mget_mset] at h
    split at h
    · rename_i hx
      injection h with h
      exact ⟨i, by omega, h.symm, hx.symm⟩
    · obtain ⟨k, h1, h2, h3⟩ := idx_some i h
      exact ⟨k, by omega, h2, h3⟩
theorem mem_dist {l : Mems} {i k : Nat} (h : memE l i = 0) (hk : k < i) : nmE l k ≠ nmE l i := fun e => by
  unfold memE at h
  rw [firstE_zero] at h
  have h1 := h _ (List.mem_cons_of_mem _ (List.mem_cons_of_mem _ List.mem_cons_self))
  rw [(known_iff i).2 ⟨k, hk, e⟩] at h1
  cases h1
theorem hasM_eq {d : Dom} (hd : domE d = 0) (x : ByteArray) : hasM d x = if memAt d.2.2.2 x < 0 then none else some (memAt d.2.2.2 x) := by
  obtain ⟨_, _, _, _, _, hz⟩ := dom_ok hd
  cases hg : hasM d x with
  | none =>
    have h1 := idx_none _ hg
    rw [← memAt_none fun k hk => by rw [nmE_eq hk]; exact h1 k hk]
    rfl
  | some v =>
    obtain ⟨k, hk, hv, hn⟩ := idx_some _ hg
    rw [← memAt_some hk (by rw [nmE_eq hk]; exact hn) fun j hj => by rw [nmE_eq (by omega), ← hn]; exact mem_dist (hz k hk) hj]
    rw [if_neg (by omega), hv]
theorem pcPre_eq {d : Dom} {p : Pc} (hd : domE d = 0) : pcPre d p = if rangeE p.1 0 100000 ≠ 0 then rangeE p.1 0 100000 else if memAt d.2.2.2 p.2.1 < 0 then 10 else if firstE [rangeE p.2.2.1 0 (d.2.2.1 - 1), rangeE p.2.2.2.1 0 (d.1 - 1)] ≠ 0 then firstE [rangeE p.2.2.1 0 (d.2.2.1 - 1), rangeE p.2.2.2.1 0 (d.1 - 1)] else if (p.2.2.2.2.length : Int) ≠ d.2.1 then 2 else 0 := by
  have e : pcPre d p = firstE ([rangeE p.1 0 100000] ++ ([whenE (!(hasM d p.2.1).isSome) 10] ++ ([rangeE p.2.2.1 0 (d.2.2.1 - 1), rangeE p.2.2.2.1 0 (d.1 - 1)] ++ [whenE (decide ((p.2.2.2.2.length : Int) ≠ d.2.1)) 2]))) := rfl
  rw [e, firstE_app, firstE_one]
  by_cases h1 : rangeE p.1 0 100000 = 0
  · rw [if_pos h1, if_neg (by simpa using h1), firstE_app, firstE_one, hasM_eq hd]
    by_cases h2 : memAt d.2.2.2 p.2.1 < 0
    · rw [if_pos h2, if_pos h2] <;> rfl
    · rw [if_neg h2, if_neg h2]
      show firstE _ = _
      rw [firstE_app]
      by_cases h3 : firstE [rangeE p.2.2.1 0 (d.2.2.1 - 1), rangeE p.2.2.2.1 0 (d.1 - 1)] = 0
      · rw [if_pos h3, if_neg (by simpa using h3), firstE_one]
        by_cases h4 : (p.2.2.2.2.length : Int) ≠ d.2.1
        · rw [whenE_t h4, if_pos h4]
        · rw [whenE_f h4, if_neg h4]
      · rw [if_neg h3, if_pos h3]
  · rw [if_neg h1, if_pos h1]
theorem rPc_ok {d : Int × Int × Int × (List (ByteArray × Int))} {p : Int × ByteArray × Int × Int × (List Nat)} (hd : domE d = 0) (hv : p.2.2.2.2.length < 100000) : VF Tryz.prog OA 129 [.v y95 d, .v y152 p] (I (pcE d p)) := by
  refine VF.enter Tryz.func129 rfl (fun _ _ => rfl) rfl ?_
  show VC _ _ _ _ _ [(0, .v y95 d), (1, .v y152 p)] [] _
  refine VC.seq ?_
  refine VC.text ?_
  have hdd := dom_ok hd
  have hq := pcPre_eq (p := p) hd
  refine VO.new (.box) ?_
  refine VO.new (.box) ?_
  refine VO.c (.assign rfl) ?_
  refine VO.go ?_
  refine VC.seq ?_
  refine VC.seq ?_
  refine VC.text ?_
  refine VO.c (.fa (.l .o)) ?_
  refine VO.r (.ld vt3) ?_
  refine VO.call rfl rfl (VF.call (rCheckRange_ok )) ?_
  refine VO.c (.assign rfl) ?_
  refine VO.go ?_
  refine VC.seq ?_
  refine VC.text ?_
  refine VO.c (.move rfl) ?_
  refine VO.c (.neq) ?_
  refine VO.go ?_
  refine VC.condD rfl (fun c2 => ?_) (fun c2 => ?_)
  · have hn : pcPre d p ≠ 0 := by rw [hq, if_pos c2]; exact c2
    refine VC.seq ?_
    refine VC.text ?_
    refine VO.c (.move rfl) ?_
    refine VO.c (.assign rfl) ?_
    refine VO.go ?_
    refine VC.ret ?_
    exact VEnd.one rfl evT (pvI (by rw [pcE, if_neg hn, hq, if_pos c2]))
  · have c2' : rangeE p.1 0 100000 = 0 := by simpa using c2
    refine VC.skip ?_
    show VC _ _ _ _ _ _ _ _
    refine VC.seq ?_
    refine VC.seq ?_
    refine VC.text ?_
    refine VO.r (.ld vt95) ?_
    refine VO.c (.fa (.r (.l .o))) ?_
    refine VO.r (.ld vt9) ?_
    refine VO.call rfl rfl (VF.call (rMemAt_ok (by omega))) ?_
    refine VO.c (.lss) ?_
    refine VO.go ?_
    refine VC.condD rfl (fun c4 => ?_) (fun c4 => ?_)
    · have hn : pcPre d p = 10 := by rw [hq, if_neg c2, if_pos c4]
      refine VC.seq ?_
      refine VC.text ?_
      refine VO.c (.assign rfl) ?_
      refine VO.go ?_
      refine VC.ret ?_
      exact VEnd.one rfl evT (pvI (by rw [pcE, hn, if_neg (by decide)]))
    · refine VC.skip ?_
      show VC _ _ _ _ _ _ _ _
      refine VC.seq ?_
      refine VC.seq ?_
      refine VC.drawn ?_
      refine VD.c (.fa (.r (.r (.l .o)))) ?_
      refine VD.r [] (.ld vt3) (.inl rfl) ?_
      refine VD.c (.fa (.r (.r (.l .o)))) ?_
      refine VD.r [] (.ld vt3) (.inl rfl) ?_
      refine VD.c (.sub rfl rfl (by omega)) ?_
      refine VD.call rfl rfl (VF.call (rCheckRange_ok )) ?_
      refine VD.nw [] ?_
      refine VD.c (.fa (.r (.r (.r (.l .o))))) ?_
      refine VD.r [] (.ld vt3) (.inl rfl) ?_
      refine VD.c (.fa (.l .o)) ?_
      refine VD.r [] (.ld vt3) (.inl rfl) ?_
      refine VD.c (.sub rfl rfl (by omega)) ?_
      refine VD.call rfl rfl (VF.call (rCheckRange_ok )) ?_
      refine VD.new (.lit [rangeE p.2.2.1 (0 : Int) (d.2.2.1 - (1 : Int)), rangeE p.2.2.2.1 (0 : Int) (d.1 - (1 : Int))] el22) ?_
      refine VD.nw [32] ?_
      refine VD.callO rfl rfl (VF.call (rFirst_ok (by first | assumption | omega | simp))) ?_
      refine VD.c (.assign rfl) ?_
      refine VD.go ?_
      refine VC.seq ?_
      refine VC.text ?_
      refine VO.c (.move rfl) ?_
      refine VO.c (.neq) ?_
      refine VO.go ?_
      refine VC.condD rfl (fun c7 => ?_) (fun c7 => ?_)
      · have hn : pcPre d p = firstE [rangeE p.2.2.1 0 (d.2.2.1 - 1), rangeE p.2.2.2.1 0 (d.1 - 1)] := by rw [hq, if_neg c2, if_neg c4, if_pos c7]
        refine VC.seq ?_
        refine VC.keep [(2, .p y95 d), (3, .p y152 p), (6, I (firstE [rangeE p.2.2.1 (0 : Int) (d.2.2.1 - (1 : Int)), rangeE p.2.2.2.1 (0 : Int) (d.1 - (1 : Int))]))] ⟨rfl, rfl, rfl, trivial⟩ ?_
        refine VC.text ?_
        refine VO.c (.move rfl) ?_
        refine VO.c (.assign rfl) ?_
        refine VO.go ?_
        refine VC.ret ?_
        exact VEnd.one rfl evT (pvI (by rw [pcE, hn, if_neg c7]))
      · refine VC.skip ?_
        show VC _ _ _ _ _ _ _ _
        refine VC.seq ?_
        refine VC.seq ?_
        refine VC.keep [(2, .p y95 d), (3, .p y152 p)] ⟨rfl, rfl, trivial⟩ ?_
        refine VC.text ?_
        refine VO.c (.fa (.r (.r (.r (.r .o))))) ?_
        refine VO.r (.ld vt124) ?_
        refine VO.r (.len el124) ?_
        refine VO.c (.fa (.r (.l .o))) ?_
        refine VO.r (.ld vt3) ?_
        refine VO.c (.neq) ?_
        refine VO.go ?_
        refine VC.condD rfl (fun c9 => ?_) (fun c9 => ?_)
        · have hn : pcPre d p = 2 := by rw [hq, if_neg c2, if_neg c4, if_neg c7, if_pos c9]
          refine VC.seq ?_
          refine VC.text ?_
          refine VO.c (.assign rfl) ?_
          refine VO.go ?_
          refine VC.ret ?_
          exact VEnd.one rfl evT (pvI (by rw [pcE, hn, if_neg (by decide)]))
        · have hn : pcPre d p = 0 := by rw [hq, if_neg c2, if_neg c4, if_neg c7, if_neg c9]
          refine VC.skip ?_
          show VC _ _ _ _ _ _ _ _
          refine VC.seq ?_
          refine VC.seq ?_
          refine VC.text ?_
          refine VO.c (.assign rfl) ?_
          refine VO.go ?_
          refine VC.block ?_
          refine VC.keep [(3, .p y152 p), (7, I ((0 : Nat) : Int))] ⟨rfl, rfl, trivial⟩ ?_
          refine VC.loop (I := fun kk ff ss => ∃ (i : Nat), kk = p.2.2.2.2.length - i ∧ ff = [(3, .p y152 p), (7, I ((i : Nat) : Int))] ∧ ss = [] ∧ (i ≤ p.2.2.2.2.length) ∧ (firstE (p.2.2.2.2.map lvlE) = firstE ((p.2.2.2.2.drop i).map lvlE))) ?_ _ _ _ ⟨0, rfl, rfl, rfl, Nat.zero_le _, (by rfl)⟩
          rintro kk ff ss ⟨i, hk0, rfl, rfl, hi, hf⟩
          refine VC.seq ?_
          refine VC.seq ?_
          refine VC.text ?_
          refine VO.c (.move rfl) ?_
          refine VO.c (.fa (.r (.r (.r (.r .o))))) ?_
          refine VO.r (.ld vt124) ?_
          refine VO.r (.len el124) ?_
          refine VO.c (.lss) ?_
          refine VO.go ?_
          refine VC.condD rfl (fun c12 => ?_) (fun c12 => ?_)
          · refine VC.skip ?_
            show VC _ _ _ _ _ _ _ _
            refine VC.seq ?_
            refine VC.block ?_
            refine VC.seq ?_
            refine VC.text ?_
            refine VO.c (.fa (.r (.r (.r (.r .o))))) ?_
            refine VO.r (.ld vt124) ?_
            refine VO.c (.move rfl) ?_
            refine VO.c (.ix (j := i) rfl rfl el124 (by omega)) ?_
            refine VO.r (.ld vt127) ?_
            refine VO.call rfl rfl (VF.call (rLv_ok )) ?_
            refine VO.c (.assign rfl) ?_
            refine VO.go ?_
            refine VC.seq ?_
            refine VC.text ?_
            refine VO.c (.move rfl) ?_
            refine VO.c (.neq) ?_
            refine VO.go ?_
            refine VC.condD rfl (fun c15 => ?_) (fun c15 => ?_)
            · refine VC.seq ?_
              refine VC.text ?_
              refine VO.c (.move rfl) ?_
              refine VO.c (.assign rfl) ?_
              refine VO.go ?_
              refine VC.ret ?_
              exact VEnd.one rfl evT (pvI (by rw [pcE, if_pos hn, hf, firstE_map_drop (by omega), if_neg c15]))
            · refine VC.skip ?_
              show VC _ _ _ _ _ _ _ _
              refine VC.text ?_
              refine VO.c (.move rfl) ?_
              refine VO.c (.add rfl rfl (by omega)) ?_
              refine VO.c (.assign rfl) ?_
              refine VO.nil ?_
              refine ⟨_, [(3, .p y152 p), (7, I (((i + 1) : Nat) : Int))], ?_, ⟨rfl, rfl, trivial⟩, (i + 1), rfl, rfl, rfl, (by omega), (by rw [hf, firstE_map_drop (by omega), if_pos (by simpa using c15)])⟩
              omega
          · refine VC.exit ?_
            show VC _ _ _ _ _ _ _ _
            refine VC.seq ?_
            refine VC.text ?_
            refine VO.c (.assign rfl) ?_
            refine VO.go ?_
            refine VC.ret ?_
            exact VEnd.one rfl evT (pvI (by rw [pcE, if_pos hn, hf, firstE_map_end (by omega)]))
def befE (d : Dom) (a b : Pc) : Bool := if a.1 ≠ b.1 then decide (a.1 < b.1) else if memAt d.2.2.2 a.2.1 ≠ memAt d.2.2.2 b.2.1 then decide (memAt d.2.2.2 a.2.1 < memAt d.2.2.2 b.2.1) else if a.2.2.1 ≠ b.2.2.1 then decide (a.2.2.1 < b.2.2.1) else decide (a.2.2.2.1 < b.2.2.2.1)
theorem rBef_ok {d : Int × Int × Int × (List (ByteArray × Int))} {a : Int × ByteArray × Int × Int × (List Nat)} {b : Int × ByteArray × Int × Int × (List Nat)} (hd : d.2.2.2.length ≤ 16) : VF Tryz.prog OA 130 [.v y95 d, .v y152 a, .v y152 b] (B (befE d a b)) := by
  refine VF.enter Tryz.func130 rfl (fun _ _ => rfl) rfl ?_
  show VC _ _ _ _ _ [(0, .v y95 d), (1, .v y152 a), (2, .v y152 b)] [] _
  refine VC.seq ?_
  refine VC.text ?_
  refine VO.new (.box) ?_
  refine VO.new (.box) ?_
  refine VO.new (.box) ?_
  refine VO.c (.assign rfl) ?_
  refine VO.go ?_
  refine VC.seq ?_
  refine VC.seq ?_
  refine VC.text ?_
  refine VO.c (.fa (.l .o)) ?_
  refine VO.r (.ld vt3) ?_
  refine VO.c (.fa (.l .o)) ?_
  refine VO.r (.ld vt3) ?_
  refine VO.c (.neq) ?_
  refine VO.go ?_
  refine VC.condD rfl (fun c1 => ?_) (fun c1 => ?_)
  · refine VC.seq ?_
    refine VC.text ?_
    refine VO.c (.fa (.l .o)) ?_
    refine VO.r (.ld vt3) ?_
    refine VO.c (.fa (.l .o)) ?_
    refine VO.r (.ld vt3) ?_
    refine VO.c (.lss) ?_
    refine VO.c (.assign rfl) ?_
    refine VO.go ?_
    refine VC.ret ?_
    exact VEnd.one rfl evT (pvE (by rw [befE, if_pos c1]))
  · refine VC.skip ?_
    show VC _ _ _ _ _ _ _ _
    refine VC.seq ?_
    refine VC.seq ?_
    refine VC.drawn ?_
    refine VD.r [] (.ld vt95) (.inl rfl) ?_
    refine VD.c (.fa (.r (.l .o))) ?_
    refine VD.r [] (.ld vt9) (.inl rfl) ?_
    refine VD.call rfl rfl (VF.call (rMemAt_ok hd)) ?_
    refine VD.r [] (.ld vt95) (.inl rfl) ?_
    refine VD.c (.fa (.r (.l .o))) ?_
    refine VD.nw [] ?_
    refine VD.r [] (.ld vt9) (.inl rfl) ?_
    refine VD.call rfl rfl (VF.call (rMemAt_ok hd)) ?_
    refine VD.c (.assign rfl) ?_
    refine VD.c (.assign rfl) ?_
    refine VD.go ?_
    refine VC.seq ?_
    refine VC.text ?_
    refine VO.c (.move rfl) ?_
    refine VO.c (.move rfl) ?_
    refine VO.c (.neq) ?_
    refine VO.go ?_
    refine VC.condD rfl (fun c4 => ?_) (fun c4 => ?_)
    · refine VC.seq ?_
      refine VC.text ?_
      refine VO.c (.move rfl) ?_
      refine VO.c (.move rfl) ?_
      refine VO.c (.lss) ?_
      refine VO.c (.assign rfl) ?_
      refine VO.go ?_
      refine VC.ret ?_
      exact VEnd.one rfl evT (pvE (by rw [befE, if_neg c1, if_pos c4]))
    · refine VC.skip ?_
      show VC _ _ _ _ _ _ _ _
      refine VC.seq ?_
      refine VC.seq ?_
      refine VC.text ?_
      refine VO.c (.fa (.r (.r (.l .o)))) ?_
      refine VO.r (.ld vt3) ?_
      refine VO.c (.fa (.r (.r (.l .o)))) ?_
      refine VO.r (.ld vt3) ?_
      refine VO.c (.neq) ?_
      refine VO.go ?_
      refine VC.condD rfl (fun c6 => ?_) (fun c6 => ?_)
      · refine VC.seq ?_
        refine VC.text ?_
        refine VO.c (.fa (.r (.r (.l .o)))) ?_
        refine VO.r (.ld vt3) ?_
        refine VO.c (.fa (.r (.r (.l .o)))) ?_
        refine VO.r (.ld vt3) ?_
        refine VO.c (.lss) ?_
        refine VO.c (.assign rfl) ?_
        refine VO.go ?_
        refine VC.ret ?_
        exact VEnd.one rfl evT (pvE (by rw [befE, if_neg c1, if_neg c4, if_pos c6]))
      · refine VC.skip ?_
        show VC _ _ _ _ _ _ _ _
        refine VC.seq ?_
        refine VC.text ?_
        refine VO.c (.fa (.r (.r (.r (.l .o))))) ?_
        refine VO.r (.ld vt3) ?_
        refine VO.c (.fa (.r (.r (.r (.l .o))))) ?_
        refine VO.r (.ld vt3) ?_
        refine VO.c (.lss) ?_
        refine VO.c (.assign rfl) ?_
        refine VO.go ?_
        refine VC.ret ?_
        exact VEnd.one rfl evT (pvE (by rw [befE, if_neg c1, if_neg c4, if_neg c6]))
theorem cmpI_lt {a b : Int} (h : a < b) : cmpI a b = -1 := by rw [cmpI, if_pos h]
theorem cmpI_eq {a b : Int} (h : a = b) : cmpI a b = 0 := by rw [cmpI, if_neg (by omega), if_neg (by omega)]
theorem cmpI_gt {a b : Int} (h : b < a) : cmpI a b = 1 := by rw [cmpI, if_neg (by omega), if_pos h]
theorem firstE_cmp {a b : Int} {r : List Int} : (0 ≤ firstE (cmpI a b :: r)) = (b < a ∨ a = b ∧ 0 ≤ firstE r) := by
  rcases Int.lt_trichotomy a b with h | h | h
  · rw [cmpI_lt h]
    refine propext ⟨fun hh => by simp [firstE] at hh, fun hh => by omega⟩
  · rw [cmpI_eq h]
    refine propext ⟨fun hh => .inr ⟨h, by simpa [firstE] using hh⟩, fun hh => ?_⟩
    rcases hh with hh | hh
    · omega
    · simpa [firstE] using hh.2
  · rw [cmpI_gt h]
    exact propext ⟨fun _ => .inl h, fun _ => by simp [firstE]⟩
theorem pc_known {d : Dom} {p : Pc} (hd : domE d = 0) (h : pcE d p = 0) : (hasM d p.2.1).getD 0 = memAt d.2.2.2 p.2.1 := by
  have h1 : pcPre d p = 0 := by
    unfold pcE at h
    split at h
    · assumption
    · contradiction
  rw [pcPre_eq hd] at h1
  split at h1
  · contradiction
  · split at h1
    · cases h1
    · rename_i h2
      rw [hasM_eq hd, if_neg h2] <;> rfl
theorem cmp_bef {d : Dom} {a b : Pc} (hd : domE d = 0) (ha : pcE d a = 0) (hb : pcE d b = 0) : decide (0 ≤ cmpP (plE d a) (plE d b)) = !befE d a b := by
  have e1 := pc_known hd ha
  have e2 := pc_known hd hb
  rw [Bool.eq_iff_iff, decide_eq_true_iff]
  unfold cmpP plE befE
  simp only [firstE_cmp, e1, e2]
  have e3 : 0 ≤ firstE [] := by decide
  generalize memAt d.2.2.2 a.2.1 = u
  generalize memAt d.2.2.2 b.2.1 = v
  by_cases h1 : a.1 ≠ b.1
  · rw [if_pos h1]; simp; omega
  · rw [if_neg h1]
    by_cases h2 : u ≠ v
    · rw [if_pos h2]; simp; omega
    · rw [if_neg h2]
      by_cases h3 : a.2.2.1 ≠ b.2.2.1
      · rw [if_pos h3]; simp; omega
      · rw [if_neg h3]; simp [e3]; omega
theorem piece_ne {d : Dom} {l : List Pc} {i : Nat} (h : pcE d (pcA l i) ≠ 0) : pieceE d l i = pcE d (pcA l i) := by
  rw [pieceE, firstE, if_neg h]
theorem piece_z {d : Dom} {l : List Pc} {i : Nat} (h : pcE d (pcA l i) = 0) : pieceE d l i = whenE (decide (0 < i) && decide (0 ≤ cmpP (plE d (pcA l (i - 1))) (plE d (pcA l i)))) 11 := by
  rw [pieceE, show ∀ x y : Int, firstE [x, y] = firstE ([x] ++ [y]) from fun _ _ => rfl, firstE_app, firstE_one, if_pos h, firstE_one]
theorem piece_zero {d : Dom} {l : List Pc} {i : Nat} (h : pieceE d l i = 0) : pcE d (pcA l i) = 0 := by
  unfold pieceE at h
  rw [firstE_zero] at h
  exact h _ List.mem_cons_self
theorem storeP_eq {d : Dom} {l : List Pc} : storeP d l = if domE d ≠ 0 then domE d else if (4096 : Int) < l.length then 5 else 0 := by
  rw [storeP, show ∀ x y : Int, firstE [x, y] = firstE ([x] ++ [y]) from fun _ _ => rfl, firstE_app, firstE_one, firstE_one]
  by_cases h : domE d = 0
  · rw [if_pos h, if_neg (by simpa using h)]
    by_cases h2 : (4096 : Int) < l.length
    · rw [whenE_t h2, if_pos h2]
    · rw [whenE_f h2, if_neg h2]
  · rw [if_neg h, if_pos h]
theorem bef_i {d : Dom} {l : List Pc} {i j : Nat} (h : j < l.length) (hi : i < l.length) (e : j = i - 1) : befE d l[j] l[i] = befE d (pcA l (i - 1)) (pcA l i) := by
  subst e; rw [pcA_eq, pcA_eq]
theorem rStore_ok {d : Int × Int × Int × (List (ByteArray × Int))} {l : List (Int × ByteArray × Int × Int × (List Nat))} (hl : l.length < 100000) (hv : ∀ p ∈ l, p.2.2.2.2.length < 100000) : VF Tryz.prog OA 57 [.v y95 d, .v y96 l] (I (storeE d l)) := by
  refine VF.enter Tryz.func57 rfl (fun _ _ => rfl) rfl ?_
  show VC _ _ _ _ _ [(0, .v y95 d), (1, .v y96 l)] [] _
  refine VC.seq ?_
  refine VC.text ?_
  refine VO.new (.box) ?_
  refine VO.c (.assign rfl) ?_
  refine VO.go ?_
  refine VC.seq ?_
  refine VC.seq ?_
  refine VC.text ?_
  refine VO.r (.ld vt95) ?_
  refine VO.call rfl rfl (VF.call (rDom_ok )) ?_
  refine VO.c (.assign rfl) ?_
  refine VO.go ?_
  refine VC.seq ?_
  refine VC.text ?_
  refine VO.c (.move rfl) ?_
  refine VO.c (.neq) ?_
  refine VO.go ?_
  refine VC.condD rfl (fun c2 => ?_) (fun c2 => ?_)
  · have hn : storeP d l = domE d := by rw [storeP_eq, if_pos c2]
    refine VC.seq ?_
    refine VC.text ?_
    refine VO.c (.move rfl) ?_
    refine VO.c (.assign rfl) ?_
    refine VO.go ?_
    refine VC.ret ?_
    exact VEnd.one rfl evT (pvI (by rw [storeE, hn, if_neg c2]))
  · have hd : domE d = 0 := by simpa using c2
    have hdd := dom_ok hd
    refine VC.skip ?_
    show VC _ _ _ _ _ _ _ _
    refine VC.seq ?_
    refine VC.seq ?_
    refine VC.text ?_
    refine VO.c (.move rfl) ?_
    refine VO.r (.len el96) ?_
    refine VO.c (.gtr) ?_
    refine VO.go ?_
    refine VC.condD rfl (fun c4 => ?_) (fun c4 => ?_)
    · have hn : storeP d l = 5 := by rw [storeP_eq, if_neg c2, if_pos c4]
      refine VC.seq ?_
      refine VC.text ?_
      refine VO.c (.assign rfl) ?_
      refine VO.go ?_
      refine VC.ret ?_
      exact VEnd.one rfl evT (pvI (by rw [storeE, hn, if_neg (by decide)]))
    · have hn : storeP d l = 0 := by rw [storeP_eq, if_neg c2, if_neg c4]
      refine VC.skip ?_
      show VC _ _ _ _ _ _ _ _
      refine VC.seq ?_
      refine VC.seq ?_
      refine VC.text ?_
      refine VO.c (.assign rfl) ?_
      refine VO.go ?_
      refine VC.block ?_
      refine VC.keep [(1, .v y96 l), (2, .p y95 d), (6, I ((0 : Nat) : Int))] ⟨rfl, rfl, rfl, trivial⟩ ?_
      refine VC.loop (I := fun kk ff ss => ∃ (i : Nat), kk = l.length - i ∧ ff = [(1, .v y96 l), (2, .p y95 d), (6, I ((i : Nat) : Int))] ∧ ss = [] ∧ (i ≤ l.length) ∧ (∀ k, k < i → pieceE d l k = 0)) ?_ _ _ _ ⟨0, rfl, rfl, rfl, Nat.zero_le _, (by intro k hk; omega)⟩
      rintro kk ff ss ⟨i, hk0, rfl, rfl, hi, hz⟩
      refine VC.seq ?_
      refine VC.seq ?_
      refine VC.text ?_
      refine VO.c (.move rfl) ?_
      refine VO.c (.move rfl) ?_
      refine VO.r (.len el96) ?_
      refine VO.c (.lss) ?_
      refine VO.go ?_
      refine VC.condD rfl (fun c7 => ?_) (fun c7 => ?_)
      · have hi' : i < l.length := by omega
        refine VC.skip ?_
        show VC _ _ _ _ _ _ _ _
        refine VC.seq ?_
        refine VC.block ?_
        refine VC.seq ?_
        refine VC.seq ?_
        refine VC.drawn ?_
        refine VD.r [] (.ld vt95) (.inl rfl) ?_
        refine VD.c (.move rfl) ?_
        refine VD.c (.move rfl) ?_
        refine VD.c (.ix (j := i) rfl rfl el96 (by omega)) ?_
        refine VD.r [] (.ld vt152) (.inl rfl) ?_
        refine VD.call rfl rfl (VF.call (rPc_ok hd (hv _ (List.getElem_mem _)))) ?_
        refine VD.nw [] ?_
        refine VD.c (.assign rfl) ?_
        refine VD.go ?_
        refine VC.seq ?_
        refine VC.text ?_
        refine VO.c (.move rfl) ?_
        refine VO.c (.neq) ?_
        refine VO.go ?_
        refine VC.condD rfl (fun c10 => ?_) (fun c10 => ?_)
        · have c10' : pcE d (pcA l i) ≠ 0 := by rw [← pcA_eq hi']; exact c10
          refine VC.seq ?_
          refine VC.text ?_
          refine VO.c (.move rfl) ?_
          refine VO.c (.assign rfl) ?_
          refine VO.go ?_
          refine VC.ret ?_
          exact VEnd.one rfl evT (pvI (by rw [storeE, if_pos hn, ← firstE_range hi' hz (by rw [piece_ne c10']; exact c10'), piece_ne c10', pcA_eq hi']))
        · have c10' : pcE d (pcA l i) = 0 := by rw [← pcA_eq hi']; simpa using c10
          refine VC.skip ?_
          show VC _ _ _ _ _ _ _ _
          refine VC.seq ?_
          refine VC.join [(1, .v y96 l), (2, .p y95 d), (6, I ((i : Nat) : Int)), (46, B (decide (0 < i) && decide (0 ≤ cmpP (plE d (pcA l (i - 1))) (plE d (pcA l i)))))] [] ?_ ?_
          · skip
            refine VC.drawn ?_
            refine VD.c (.move rfl) ?_
            refine VD.c (.gtr) ?_
            refine VD.c (.move rfl) ?_
            refine VD.splitD (x := 33) rfl (fun g12_2 => ?_) (fun g12_2 => ?_)
            · refine VD.r [] (.ld vt95) (.inl rfl) ?_
              refine VD.c (.move rfl) ?_
              refine VD.nw [] ?_
              refine VD.c (.move rfl) ?_
              refine VD.c (.sub rfl rfl (by omega)) ?_
              refine VD.c (.ixZ (k := (((i : Nat) : Int) - (1 : Int))) rfl rfl el96 (by omega) (by omega)) ?_
              refine VD.r [] (.ld vt152) (.inl rfl) ?_
              refine VD.c (.move rfl) ?_
              refine VD.c (.move rfl) ?_
              refine VD.c (.ix (j := i) rfl rfl el96 (by omega)) ?_
              refine VD.nw [] ?_
              refine VD.r [] (.ld vt152) (.inl rfl) ?_
              refine VD.call rfl rfl (VF.call (rBef_ok hdd.2.2.2.1)) ?_
              refine VD.c (.not) ?_
              refine VD.c (.pickT rfl rfl) ?_
              refine VD.nil ?_
              exact ⟨⟨rfl, rfl, rfl, slE rfl (by first | (rw [cmp_bef hd (piece_zero (hz (i - 1) (by omega))) c10', decide_eq_true (show 0 < i by omega), Bool.true_and, bef_i _ _ (by omega)]) | (rw [decide_eq_false (by omega)]; rfl)), trivial⟩, rfl⟩
            · refine VD.skip ?_
              refine VD.skip ?_
              refine VD.nw [] ?_
              refine VD.skip ?_
              refine VD.skip ?_
              refine VD.skip ?_
              refine VD.skip ?_
              refine VD.skip ?_
              refine VD.skip ?_
              refine VD.skip ?_
              refine VD.nw [] ?_
              refine VD.skip ?_
              refine VD.skip ?_
              refine VD.skip ?_
              refine VD.c (.pickF rfl rfl) ?_
              refine VD.nil ?_
              exact ⟨⟨rfl, rfl, rfl, slE rfl (by first | (rw [cmp_bef hd (piece_zero (hz (i - 1) (by omega))) c10', decide_eq_true (show 0 < i by omega), Bool.true_and, bef_i _ _ (by omega)]) | (rw [decide_eq_false (by omega)]; rfl)), trivial⟩, rfl⟩
          show VC _ _ _ _ _ _ _ _
          refine VC.condB rfl (fun c12 => ?_) (fun c12 => ?_)
          · try simp only [Bool.and_eq_true, Bool.or_eq_true, Bool.and_eq_false_iff, Bool.or_eq_false_iff, Bool.not_eq_true', Bool.not_eq_false', decide_eq_true_eq, decide_eq_false_iff_not] at c12
            have c12' : (decide (0 < i) && decide (0 ≤ cmpP (plE d (pcA l (i - 1))) (plE d (pcA l i)))) = true := by rw [decide_eq_true c12.1, decide_eq_true c12.2] <;> rfl
            refine VC.seq ?_
            refine VC.text ?_
            refine VO.c (.assign rfl) ?_
            refine VO.go ?_
            refine VC.ret ?_
            exact VEnd.one rfl evT (pvI (by rw [storeE, if_pos hn, ← firstE_range hi' hz (by rw [piece_z c10', c12']; decide), piece_z c10', c12'] <;> rfl))
          · try simp only [Bool.and_eq_true, Bool.or_eq_true, Bool.and_eq_false_iff, Bool.or_eq_false_iff, Bool.not_eq_true', Bool.not_eq_false', decide_eq_true_eq, decide_eq_false_iff_not] at c12
            have c12' : (decide (0 < i) && decide (0 ≤ cmpP (plE d (pcA l (i - 1))) (plE d (pcA l i)))) = false := by rw [Bool.eq_false_iff]; simp only [ne_eq, Bool.and_eq_true, decide_eq_true_iff]; omega
            refine VC.skip ?_
            show VC _ _ _ _ _ _ _ _
            refine VC.text ?_
            refine VO.c (.move rfl) ?_
            refine VO.c (.add rfl rfl (by omega)) ?_
            refine VO.c (.assign rfl) ?_
            refine VO.nil ?_
            refine ⟨_, [(1, .v y96 l), (2, .p y95 d), (6, I (((i + 1) : Nat) : Int))], ?_, ⟨rfl, rfl, rfl, trivial⟩, (i + 1), rfl, rfl, rfl, (by omega), (by intro k hk; rcases Nat.lt_succ_iff_lt_or_eq.1 hk with h | h; exact hz k h; subst h; rw [piece_z c10', c12'] <;> rfl)⟩
            omega
      · refine VC.exit ?_
        show VC _ _ _ _ _ _ _ _
        refine VC.seq ?_
        refine VC.text ?_
        refine VO.c (.assign rfl) ?_
        refine VO.go ?_
        refine VC.ret ?_
        exact VEnd.one rfl evT (pvI (by rw [storeE, if_pos hn]; exact firstE_range0 (fun k hk => hz k (by omega))))
end Go.Proofs
namespace Go.Proofs
open Go.Fs Ieee
set_option linter.unusedVariables false
abbrev y141 : Ty := (.pair .str (.pair (.int .i64) (.int .i64)))
abbrev y208 : Ty := (.mp (.pair .str (.pair (.int .i64) (.int .i64))) (.pair (.int .i64) (.pair .str (.pair (.int .i64) (.pair (.int .i64) (.sl (.flt .f32)))))))
/-! ## The pieces of a run -/
abbrev Sl := ByteArray × Int × Int
def slotE (p : Pc) : Sl := (p.2.1, p.2.2.1, p.2.2.2.1)
def runM (l : List Pc) (n : Int) : Nat → List (Sl × Pc)
  | 0 => []
  | i + 1 => if (pcA l i).1 = n then mset (runM l n i) (slotE (pcA l i)) (pcA l i) else runM l n i
def rowsQ (q : Nat → Option (List Nat)) (n : Nat) : List (List Nat) × Bool := bif (List.range n).all (fun r => (q r).isSome) then ((List.range n).map (fun r => (q r).getD []), true) else ([], false)
def hasQ (m : List (Sl × Pc)) (x : ByteArray) (t : Int) (r : Nat) : Option (List Nat) := (mget m (x, t, (r : Int))).map (·.2.2.2.2)
end Go.Proofs
namespace Go.Proofs
open Go.Fs Ieee
set_option linter.unusedVariables false
abbrev y145 : Ty := (.pair .str (.pair (.int .i64) (.int .i64)))
/-! ## The field of a member -/
def fieldA (d : Dom) (l : List Pc) (n : Int) : Int := firstE [storeE d l, rangeE n 0 100000]
def fieldB2 (d : Dom) (x : ByteArray) (t : Int) : Int := firstE [whenE (!(hasM d x).isSome) 10, rangeE t 0 (d.2.2.1 - 1)]
def fieldV (d : Dom) (l : List Pc) (n : Int) (x : ByteArray) (t : Int) : List (List Nat) × Int := if fieldA d l n ≠ 0 then ([], fieldA d l n) else if fieldB2 d x t ≠ 0 then ([], fieldB2 d x t) else ((rowsQ (hasQ (runM l n l.length) x t) d.1.toNat).1, whenE (!(rowsQ (hasQ (runM l n l.length) x t) d.1.toNat).2) 7)
theorem store_dom {d : Dom} {l : List Pc} (h : storeE d l = 0) : domE d = 0 ∧ l.length ≤ 4096 ∧ ∀ k, k < l.length → pieceE d l k = 0 := by
  unfold storeE at h
  split at h
  · rename_i h0
    have := storeP_ok h0
    rw [firstE_zero] at h
    exact ⟨this.1, this.2, fun k hk => h _ (List.mem_map_of_mem (List.mem_range.2 hk))⟩
  · contradiction
def fieldC (d : Dom) (n : Int) (x : ByteArray) (t : Int) : Int := if rangeE n 0 100000 ≠ 0 then rangeE n 0 100000 else if memAt d.2.2.2 x < 0 then 10 else rangeE t 0 (d.2.2.1 - 1)
def hitB (n : Int) (s : Sl) (p : Pc) : Bool := decide (p.1 = n ∧ p.2.1 = s.1 ∧ p.2.2.1 = s.2.1 ∧ p.2.2.2.1 = s.2.2)
def fndE (l : List Pc) (n : Int) (s : Sl) : Int := if l.findIdx (hitB n s) < l.length then (l.findIdx (hitB n s) : Nat) else -1
def plusZ (x : Nat) : Nat := (single.add x 0).getD 0
theorem u32_0 : u32 0 = some 0 := by decide +kernel
theorem plusZ_ok {x : Nat} (h : lvlE x = 0) : single.add x 0 = some (plusZ x) ∧ lvlE (plusZ x) = 0 ∧ u32 (plusZ x) = u32 x := by
  obtain ⟨h1, h2, h3⟩ := lvl_ok h
  obtain ⟨r, hr, hr2⟩ := add32 h1 u32_0 (by
    rw [Int.add_zero, Int.natAbs_mul]
    exact rep_small (n := (sxE x).natAbs) (j := 145) (by show _ < 2 ^ (23 + 1); omega) (by decide))
  have e : plusZ x = r := by rw [plusZ, hr] <;> rfl
  rw [Int.add_zero] at hr2
  rw [e]
  exact ⟨hr, (lvl_of hr2 h2 h3).1, by rw [hr2, h1]⟩
theorem rPlain_ok {l : List Nat} (hl : l.length < 100000) (hv : ∀ x ∈ l, lvlE x = 0) : VF Tryz.prog OA 133 [.v y124 l] (.v y124 (l.map plusZ)) := by
  refine VF.enter Tryz.func133 rfl (fun _ _ => rfl) rfl ?_
  show VC _ _ _ _ _ [(0, .v y124 l)] [] _
  refine VC.seq ?_
  refine VC.text ?_
  refine VO.c (.assign rfl) ?_
  refine VO.go ?_
  refine VC.seq ?_
  refine VC.text ?_
  refine VO.c (.assign rfl) ?_
  refine VO.go ?_
  refine VC.seq ?_
  refine VC.seq ?_
  refine VC.text ?_
  refine VO.c (.assign rfl) ?_
  refine VO.go ?_
  refine VC.block ?_
  refine VC.cell0 127 (.flt .f32) ?_
  refine VC.keep [(0, .v y124 l), (3, .raw (.slice none 0 0)), (4, I ((0 : Nat) : Int))] ⟨rfl, rfl, rfl, trivial⟩ ?_
  refine VC.loop (I := fun kk ff ss => ∃ (i : Nat) (out : Value), kk = l.length - i ∧ ff = [(0, .v y124 l), (3, .raw out), (4, I ((i : Nat) : Int))] ∧ ss = [(out, .row 127 (.flt .f32) ((l.take i).map plusZ))] ∧ (i ≤ l.length)) ?_ _ _ _ ⟨0, (.slice none 0 0), rfl, rfl, rfl, Nat.zero_le _⟩
  rintro kk ff ss ⟨i, out, hk0, rfl, rfl, hi⟩
  refine VC.seq ?_
  refine VC.seq ?_
  refine VC.text ?_
  refine VO.c (.move rfl) ?_
  refine VO.c (.move rfl) ?_
  refine VO.r (.len el124) ?_
  refine VO.c (.lss) ?_
  refine VO.go ?_
  refine VC.condD rfl (fun c3 => ?_) (fun c3 => ?_)
  · have hp := (plusZ_ok (hv _ (List.getElem_mem (show i < l.length by omega)))).1
    refine VC.skip ?_
    show VC _ _ _ _ _ _ _ _
    refine VC.seq ?_
    refine VC.block ?_
    refine VC.text ?_
    refine VO.c (.move rfl) ?_
    refine VO.c (.move rfl) ?_
    refine VO.c (.move rfl) ?_
    refine VO.c (.ix (j := i) rfl rfl el124 (by omega)) ?_
    refine VO.r (.ld vt127) ?_
    refine VO.c (.fop (add32E hp)) ?_
    refine VO.new (.lit [plusZ l[i]] el124) ?_
    refine VO.app rfl rfl el124 el124 (by simp; omega) ?_
    intro ww1
    refine VO.c (.assign rfl) ?_
    refine VO.nil ?_
    show VC _ _ _ _ _ _ _ _
    refine VC.text ?_
    refine VO.c (.move rfl) ?_
    refine VO.c (.add rfl rfl (by omega)) ?_
    refine VO.c (.assign rfl) ?_
    refine VO.nil ?_
    refine ⟨_, [(0, .v y124 l), (3, .raw ww1), (4, I (((i + 1) : Nat) : Int))], ?_, ⟨rfl, rfl, rfl, trivial⟩, (i + 1), ww1, rfl, rfl, (by rw [List.take_succ_eq_append_getElem (by omega), List.map_append] <;> rfl), (by omega)⟩
    omega
  · refine VC.exit ?_
    show VC _ _ _ _ _ _ _ _
    refine VC.seq ?_
    refine VC.text ?_
    refine VO.c (.move rfl) ?_
    refine VO.c (.assign rfl) ?_
    refine VO.go ?_
    refine VC.ret ?_
    exact VEnd.one rfl (evC (.row m0)) (pvE (by rw [List.take_of_length_le (by omega)]))
def fndQ (l : List Pc) (n : Int) (x : ByteArray) (t : Int) (r : Nat) : Option (List Nat) := if fndE l n (x, t, (r : Int)) < 0 then none else some ((pcA l (fndE l n (x, t, (r : Int))).toNat).2.2.2.2.map plusZ)
end Go.Proofs
namespace Go.Proofs
open Go.Fs Ieee
set_option linter.unusedVariables false
abbrev y93 : Ty := (.sl (.pair .str (.int .i64)))
abbrev y203 : Ty := (.pair .str (.int .i64))
theorem vt203 : ValT Tryz.prog 203 y203 := valT_of (by kernel_rfl)
theorem zt106 : ZerT Tryz.prog 106 y106 := zerT_of (z := .agg #[.int .i64 0, .int .i64 0, .int .i64 0, .slice none 0 0]) (by kernel_rfl) rfl rfl
theorem zt152 : ZerT Tryz.prog 152 y152 := zerT_of (z := .agg #[.int .i64 0, .string ByteArray.empty, .int .i64 0, .int .i64 0, .slice none 0 0]) (by kernel_rfl) rfl rfl
theorem zt203 : ZerT Tryz.prog 203 y203 := zerT_of (z := .agg #[.string ByteArray.empty, .int .i64 0]) (by kernel_rfl) rfl rfl
theorem bt106 : BldT Tryz.prog 106 y106 [(0, 1), (1, 1), (2, 1), (3, 1)] := bldT_of zt106 rfl (by kernel_rfl)
/-! ## What a law asks and says -/
def sameLv (a b : List Nat) : Bool := decide (a.length = b.length ∧ ∀ i, i < a.length → fcmpE .neq .f32 (a.getD i 0) (b.getD i 0) = false)
theorem rSameLv_ok {a : List Nat} {b : List Nat} (ha : a.length < 100000) : VF Tryz.prog OA 134 [.v y124 a, .v y124 b] (B (sameLv a b)) := by
  refine VF.enter Tryz.func134 rfl (fun _ _ => rfl) rfl ?_
  show VC _ _ _ _ _ [(0, .v y124 a), (1, .v y124 b)] [] _
  refine VC.seq ?_
  refine VC.text ?_
  refine VO.c (.assign rfl) ?_
  refine VO.go ?_
  refine VC.seq ?_
  refine VC.seq ?_
  refine VC.text ?_
  refine VO.c (.move rfl) ?_
  refine VO.r (.len el124) ?_
  refine VO.c (.move rfl) ?_
  refine VO.r (.len el124) ?_
  refine VO.c (.neq) ?_
  refine VO.go ?_
  refine VC.condD rfl (fun c1 => ?_) (fun c1 => ?_)
  · have hne : ¬ a.length = b.length := by omega
    refine VC.seq ?_
    refine VC.text ?_
    refine VO.c (.assign rfl) ?_
    refine VO.go ?_
    refine VC.ret ?_
    exact VEnd.one rfl evT (pvE (by exact (decide_eq_false fun hh => hne hh.1).symm))
  · have hle : a.length = b.length := by omega
    refine VC.skip ?_
    show VC _ _ _ _ _ _ _ _
    refine VC.seq ?_
    refine VC.seq ?_
    refine VC.text ?_
    refine VO.c (.assign rfl) ?_
    refine VO.go ?_
    refine VC.block ?_
    refine VC.keep [(0, .v y124 a), (1, .v y124 b), (5, I ((0 : Nat) : Int))] ⟨rfl, rfl, rfl, trivial⟩ ?_
    refine VC.loop (I := fun kk ff ss => ∃ (i : Nat), kk = a.length - i ∧ ff = [(0, .v y124 a), (1, .v y124 b), (5, I ((i : Nat) : Int))] ∧ ss = [] ∧ (i ≤ a.length) ∧ (∀ j, j < i → fcmpE .neq .f32 (a.getD j 0) (b.getD j 0) = false)) ?_ _ _ _ ⟨0, rfl, rfl, rfl, Nat.zero_le _, (by intro j hj; omega)⟩
    rintro kk ff ss ⟨i, hk0, rfl, rfl, hi, hn⟩
    refine VC.seq ?_
    refine VC.seq ?_
    refine VC.text ?_
    refine VO.c (.move rfl) ?_
    refine VO.c (.move rfl) ?_
    refine VO.r (.len el124) ?_
    refine VO.c (.lss) ?_
    refine VO.go ?_
    refine VC.condD rfl (fun c4 => ?_) (fun c4 => ?_)
    · have hi' : i < a.length := by omega
      refine VC.skip ?_
      show VC _ _ _ _ _ _ _ _
      refine VC.seq ?_
      refine VC.block ?_
      refine VC.seq ?_
      refine VC.drawn ?_
      refine VD.c (.move rfl) ?_
      refine VD.c (.move rfl) ?_
      refine VD.c (.ix (j := i) rfl rfl el124 (by omega)) ?_
      refine VD.r [] (.ld vt127) (.inl rfl) ?_
      refine VD.c (.move rfl) ?_
      refine VD.c (.move rfl) ?_
      refine VD.nw [] ?_
      refine VD.c (.ix (j := i) rfl rfl el124 (by omega)) ?_
      refine VD.r [] (.ld vt127) (.inl rfl) ?_
      refine VD.c (.fcmp .neq) ?_
      refine VD.go ?_
      refine VC.condB rfl (fun c6 => ?_) (fun c6 => ?_)
      · have c6' : fcmpE .neq .f32 (a.getD i 0) (b.getD i 0) = true := by simpa [hi', show i < b.length by omega] using c6
        refine VC.seq ?_
        refine VC.text ?_
        refine VO.c (.assign rfl) ?_
        refine VO.go ?_
        refine VC.ret ?_
        exact VEnd.one rfl evT (pvE (by exact (decide_eq_false fun hh => by rw [hh.2 i hi'] at c6'; cases c6').symm))
      · have c6' : fcmpE .neq .f32 (a.getD i 0) (b.getD i 0) = false := by simpa [hi', show i < b.length by omega] using c6
        refine VC.skip ?_
        show VC _ _ _ _ _ _ _ _
        refine VC.text ?_
        refine VO.c (.move rfl) ?_
        refine VO.c (.add rfl rfl (by omega)) ?_
        refine VO.c (.assign rfl) ?_
        refine VO.nil ?_
        refine ⟨_, [(0, .v y124 a), (1, .v y124 b), (5, I (((i + 1) : Nat) : Int))], ?_, ⟨rfl, rfl, rfl, trivial⟩, (i + 1), rfl, rfl, rfl, (by omega), (by intro j hj; rcases Nat.lt_succ_iff_lt_or_eq.1 hj with h | h; exact hn j h; subst h; exact c6')⟩
        omega
    · refine VC.exit ?_
      show VC _ _ _ _ _ _ _ _
      refine VC.seq ?_
      refine VC.text ?_
      refine VO.c (.assign rfl) ?_
      refine VO.go ?_
      refine VC.ret ?_
      exact VEnd.one rfl evT (pvE (by exact (decide_eq_true ⟨hle, fun j hj => hn j (by omega)⟩).symm))
def sameRw (a b : List (List Nat)) : Bool := decide (a.length = b.length ∧ ∀ i, i < a.length → sameLv (a.getD i []) (b.getD i []) = true)
def shortD (d : Dom) : Bool := decide ((d.2.2.2.length ≤ 3 ∨ d.2.2.2.length = 17) ∧ (∀ i, i < d.2.2.2.length → (nmE d.2.2.2 i).size ≤ 60) ∧ (d.1 ≤ 3 ∨ 8 < d.1) ∧ (d.2.1 ≤ 3 ∨ 8 < d.2.1) ∧ (d.2.2.1 ≤ 3 ∨ 96 < d.2.2.1))
theorem rShortD_ok {d : Int × Int × Int × (List (ByteArray × Int))} (hl : d.2.2.2.length ≤ 9223372036854775807) : VF Tryz.prog OA 52 [.v y95 d] (B (shortD d)) := by
  refine VF.enter Tryz.func52 rfl (fun _ _ => rfl) rfl ?_
  show VC _ _ _ _ _ [(0, .v y95 d)] [] _
  refine VC.seq ?_
  refine VC.text ?_
  refine VO.new (.box) ?_
  refine VO.c (.assign rfl) ?_
  refine VO.go ?_
  refine VC.seq ?_
  refine VC.seq ?_
  refine VC.text ?_
  refine VO.c (.fa (.r (.r (.r .o)))) ?_
  refine VO.r (.ld vt93) ?_
  refine VO.r (.len el93) ?_
  refine VO.c (.gtr) ?_
  refine VO.c (.move rfl) ?_
  refine VO.cg (r := decide ((3 : Int) < ((d.2.2.2.length : Nat) : Int))) (w := true) [] trivial (fun hgd => have g1_4 : (3 : Int) < ((d.2.2.2.length : Nat) : Int) := (by simpa using hgd); (.fa (.r (.r (.r .o))))) ?_
  refine VO.rg (r := decide ((3 : Int) < ((d.2.2.2.length : Nat) : Int))) (w := true) [(9, .p y93 d.2.2.2)] ⟨rfl, trivial⟩ (fun hgd => have g1_4 : (3 : Int) < ((d.2.2.2.length : Nat) : Int) := (by simpa using hgd); (.ld vt93)) ?_
  refine VO.rg (r := decide ((3 : Int) < ((d.2.2.2.length : Nat) : Int))) (w := true) [(10, .v y93 d.2.2.2)] ⟨rfl, trivial⟩ (fun hgd => have g1_4 : (3 : Int) < ((d.2.2.2.length : Nat) : Int) := (by simpa using hgd); (.len el93)) ?_
  refine VO.cg (r := decide ((3 : Int) < ((d.2.2.2.length : Nat) : Int))) (w := true) [(11, I ((d.2.2.2.length : Nat) : Int))] ⟨rfl, trivial⟩ (fun hgd => have g1_4 : (3 : Int) < ((d.2.2.2.length : Nat) : Int) := (by simpa using hgd); (.neq)) ?_
  refine VO.c (.and) ?_
  refine VO.go ?_
  refine VC.condB rfl (fun c1 => ?_) (fun c1 => ?_)
  · try simp only [Bool.and_eq_true, Bool.or_eq_true, Bool.and_eq_false_iff, Bool.or_eq_false_iff, Bool.not_eq_true', Bool.not_eq_false', decide_eq_true_eq, decide_eq_false_iff_not] at c1
    refine VC.seq ?_
    refine VC.text ?_
    refine VO.c (.assign rfl) ?_
    refine VO.go ?_
    refine VC.ret ?_
    exact VEnd.one rfl evT (pvE (by exact (decide_eq_false fun hh => by have := hh.1; omega).symm))
  · try simp only [Bool.and_eq_true, Bool.or_eq_true, Bool.and_eq_false_iff, Bool.or_eq_false_iff, Bool.not_eq_true', Bool.not_eq_false', decide_eq_true_eq, decide_eq_false_iff_not] at c1
    refine VC.skip ?_
    show VC _ _ _ _ _ _ _ _
    refine VC.seq ?_
    refine VC.seq ?_
    refine VC.text ?_
    refine VO.c (.assign rfl) ?_
    refine VO.go ?_
    refine VC.block ?_
    refine VC.keep [(1, .p y95 d), (3, I ((0 : Nat) : Int))] ⟨rfl, rfl, trivial⟩ ?_
    refine VC.loop (I := fun kk ff ss => ∃ (i : Nat), kk = d.2.2.2.length - i ∧ ff = [(1, .p y95 d), (3, I ((i : Nat) : Int))] ∧ ss = [] ∧ (i ≤ d.2.2.2.length) ∧ (∀ j, j < i → (nmE d.2.2.2 j).size ≤ 60)) ?_ _ _ _ ⟨0, rfl, rfl, rfl, Nat.zero_le _, (by intro j hj; omega)⟩
    rintro kk ff ss ⟨i, hk0, rfl, rfl, hi, hn⟩
    refine VC.seq ?_
    refine VC.seq ?_
    refine VC.text ?_
    refine VO.c (.move rfl) ?_
    refine VO.c (.fa (.r (.r (.r .o)))) ?_
    refine VO.r (.ld vt93) ?_
    refine VO.r (.len el93) ?_
    refine VO.c (.lss) ?_
    refine VO.go ?_
    refine VC.condD rfl (fun c4 => ?_) (fun c4 => ?_)
    · have hi' : i < d.2.2.2.length := by omega
      refine VC.skip ?_
      show VC _ _ _ _ _ _ _ _
      refine VC.seq ?_
      refine VC.block ?_
      refine VC.seq ?_
      refine VC.text ?_
      refine VO.c (.fa (.r (.r (.r .o)))) ?_
      refine VO.r (.ld vt93) ?_
      refine VO.c (.move rfl) ?_
      refine VO.c (.ix (j := i) rfl rfl el93 (by omega)) ?_
      refine VO.c (.fa (.l .o)) ?_
      refine VO.r (.ld vt9) ?_
      refine VO.r (.lenS) ?_
      refine VO.c (.gtr) ?_
      refine VO.go ?_
      refine VC.condD rfl (fun c6 => ?_) (fun c6 => ?_)
      · refine VC.seq ?_
        refine VC.text ?_
        refine VO.c (.assign rfl) ?_
        refine VO.go ?_
        refine VC.ret ?_
        exact VEnd.one rfl evT (pvE (by exact (decide_eq_false fun hh => by have := hh.2.1 i hi'; rw [← nmE_eq hi'] at this; omega).symm))
      · refine VC.skip ?_
        show VC _ _ _ _ _ _ _ _
        refine VC.text ?_
        refine VO.c (.move rfl) ?_
        refine VO.c (.add rfl rfl (by omega)) ?_
        refine VO.c (.assign rfl) ?_
        refine VO.nil ?_
        refine ⟨_, [(1, .p y95 d), (3, I (((i + 1) : Nat) : Int))], ?_, ⟨rfl, rfl, trivial⟩, (i + 1), rfl, rfl, rfl, (by omega), (by intro j hj; rcases Nat.lt_succ_iff_lt_or_eq.1 hj with h | h; exact hn j h; subst h; rw [← nmE_eq hi']; omega)⟩
        omega
    · have he : shortD d = decide ((d.1 ≤ 3 ∨ 8 < d.1) ∧ (d.2.1 ≤ 3 ∨ 8 < d.2.1) ∧ (d.2.2.1 ≤ 3 ∨ 96 < d.2.2.1)) := decide_eq_decide.2 ⟨fun h => h.2.2, fun h => ⟨by omega, fun j hj => hn j (by omega), h⟩⟩
      refine VC.exit ?_
      show VC _ _ _ _ _ _ _ _
      refine VC.seq ?_
      refine VC.join [(2, B (shortD d))] [] ?_ ?_
      · skip
        refine VC.text ?_
        refine VO.c (.fa (.l .o)) ?_
        refine VO.r (.ld vt3) ?_
        refine VO.c (.leq) ?_
        refine VO.c (.move rfl) ?_
        refine VO.cg (r := decide (d.1 ≤ (3 : Int))) (w := false) [] trivial (fun hgd => have g8_3 : ¬ (d.1 ≤ (3 : Int)) := (by simpa using hgd); (.fa (.l .o))) ?_
        refine VO.rg (r := decide (d.1 ≤ (3 : Int))) (w := false) [(33, .p (.int .i64) d.1)] ⟨rfl, trivial⟩ (fun hgd => have g8_3 : ¬ (d.1 ≤ (3 : Int)) := (by simpa using hgd); (.ld vt3)) ?_
        refine VO.cg (r := decide (d.1 ≤ (3 : Int))) (w := false) [(34, I d.1)] ⟨rfl, trivial⟩ (fun hgd => have g8_3 : ¬ (d.1 ≤ (3 : Int)) := (by simpa using hgd); (.gtr)) ?_
        refine VO.c (.or) ?_
        refine VO.c (.move rfl) ?_
        refine VO.splitB (x := 37) rfl (fun g8_8 => ?_) (fun g8_8 => ?_)
        · try simp only [Bool.and_eq_true, Bool.or_eq_true, Bool.and_eq_false_iff, Bool.or_eq_false_iff, Bool.not_eq_true', Bool.not_eq_false', decide_eq_true_eq, decide_eq_false_iff_not] at g8_8
          refine VO.c (.fa (.r (.l .o))) ?_
          refine VO.r (.ld vt3) ?_
          refine VO.c (.leq) ?_
          refine VO.c (.move rfl) ?_
          refine VO.cg (r := decide (d.2.1 ≤ (3 : Int))) (w := false) [] trivial (fun hgd => have g8_12 : ¬ (d.2.1 ≤ (3 : Int)) := (by simpa using hgd); (.fa (.r (.l .o)))) ?_
          refine VO.rg (r := decide (d.2.1 ≤ (3 : Int))) (w := false) [(42, .p (.int .i64) d.2.1)] ⟨rfl, trivial⟩ (fun hgd => have g8_12 : ¬ (d.2.1 ≤ (3 : Int)) := (by simpa using hgd); (.ld vt3)) ?_
          refine VO.cg (r := decide (d.2.1 ≤ (3 : Int))) (w := false) [(43, I d.2.1)] ⟨rfl, trivial⟩ (fun hgd => have g8_12 : ¬ (d.2.1 ≤ (3 : Int)) := (by simpa using hgd); (.gtr)) ?_
          refine VO.c (.or) ?_
          refine VO.c (.pickT rfl rfl) ?_
          refine VO.c (.move rfl) ?_
          refine VO.splitB (x := 47) rfl (fun g8_18 => ?_) (fun g8_18 => ?_)
          · try simp only [Bool.and_eq_true, Bool.or_eq_true, Bool.and_eq_false_iff, Bool.or_eq_false_iff, Bool.not_eq_true', Bool.not_eq_false', decide_eq_true_eq, decide_eq_false_iff_not] at g8_18
            refine VO.c (.fa (.r (.r (.l .o)))) ?_
            refine VO.r (.ld vt3) ?_
            refine VO.c (.leq) ?_
            refine VO.c (.move rfl) ?_
            refine VO.cg (r := decide (d.2.2.1 ≤ (3 : Int))) (w := false) [] trivial (fun hgd => have g8_22 : ¬ (d.2.2.1 ≤ (3 : Int)) := (by simpa using hgd); (.fa (.r (.r (.l .o))))) ?_
            refine VO.rg (r := decide (d.2.2.1 ≤ (3 : Int))) (w := false) [(52, .p (.int .i64) d.2.2.1)] ⟨rfl, trivial⟩ (fun hgd => have g8_22 : ¬ (d.2.2.1 ≤ (3 : Int)) := (by simpa using hgd); (.ld vt3)) ?_
            refine VO.cg (r := decide (d.2.2.1 ≤ (3 : Int))) (w := false) [(53, I d.2.2.1)] ⟨rfl, trivial⟩ (fun hgd => have g8_22 : ¬ (d.2.2.1 ≤ (3 : Int)) := (by simpa using hgd); (.gtr)) ?_
            refine VO.c (.or) ?_
            refine VO.c (.pickT rfl rfl) ?_
            refine VO.c (.assign rfl) ?_
            refine VO.nil ?_
            exact ⟨⟨slE rfl (by rw [he, Bool.eq_iff_iff]; simp only [Bool.and_eq_true, Bool.or_eq_true, decide_eq_true_eq, Bool.false_eq_true, true_iff, false_iff] <;> omega), trivial⟩, rfl⟩
          · try simp only [Bool.and_eq_true, Bool.or_eq_true, Bool.and_eq_false_iff, Bool.or_eq_false_iff, Bool.not_eq_true', Bool.not_eq_false', decide_eq_true_eq, decide_eq_false_iff_not] at g8_18
            refine VO.skip ?_
            refine VO.skip ?_
            refine VO.skip ?_
            refine VO.skip ?_
            refine VO.skip ?_
            refine VO.skip ?_
            refine VO.skip ?_
            refine VO.skip ?_
            refine VO.c (.pickF rfl rfl) ?_
            refine VO.c (.assign rfl) ?_
            refine VO.nil ?_
            exact ⟨⟨slE rfl (by rw [he, Bool.eq_iff_iff]; simp only [Bool.and_eq_true, Bool.or_eq_true, decide_eq_true_eq, Bool.false_eq_true, true_iff, false_iff] <;> omega), trivial⟩, rfl⟩
        · try simp only [Bool.and_eq_true, Bool.or_eq_true, Bool.and_eq_false_iff, Bool.or_eq_false_iff, Bool.not_eq_true', Bool.not_eq_false', decide_eq_true_eq, decide_eq_false_iff_not] at g8_8
          refine VO.skip ?_
          refine VO.skip ?_
          refine VO.skip ?_
          refine VO.skip ?_
          refine VO.skip ?_
          refine VO.skip ?_
          refine VO.skip ?_
          refine VO.skip ?_
          refine VO.c (.pickF rfl rfl) ?_
          refine VO.c (.move rfl) ?_
          refine VO.skip ?_
          refine VO.skip ?_
          refine VO.skip ?_
          refine VO.skip ?_
          refine VO.skip ?_
          refine VO.skip ?_
          refine VO.skip ?_
          refine VO.skip ?_
          refine VO.c (.pickF rfl rfl) ?_
          refine VO.c (.assign rfl) ?_
          refine VO.nil ?_
          exact ⟨⟨slE rfl (by rw [he, Bool.eq_iff_iff]; simp only [Bool.and_eq_true, Bool.or_eq_true, decide_eq_true_eq, Bool.false_eq_true, true_iff, false_iff] <;> omega), trivial⟩, rfl⟩
      show VC _ _ _ _ _ _ _ _
      refine VC.ret ?_
      exact VEnd.one rfl evT (pvE (by first | rfl | simp))
def shortS (l : List Pc) (k : Int) : Bool := decide (((l.length : Int) ≤ k ∨ (l.length : Int) = 4097) ∧ ∀ i, i < l.length → (pcA l i).2.1.size ≤ 60 ∧ (pcA l i).2.2.2.2.length ≤ 9)
theorem rShortS_ok {l : List (Int × ByteArray × Int × Int × (List Nat))} {k : Int} (hl : l.length ≤ 9223372036854775807) : VF Tryz.prog OA 53 [.v y96 l, I k] (B (shortS l k)) := by
  refine VF.enter Tryz.func53 rfl (fun _ _ => rfl) rfl ?_
  show VC _ _ _ _ _ [(0, .v y96 l), (1, I k)] [] _
  refine VC.seq ?_
  refine VC.text ?_
  refine VO.c (.assign rfl) ?_
  refine VO.go ?_
  refine VC.seq ?_
  refine VC.seq ?_
  refine VC.text ?_
  refine VO.c (.move rfl) ?_
  refine VO.r (.len el96) ?_
  refine VO.c (.move rfl) ?_
  refine VO.c (.gtr) ?_
  refine VO.c (.move rfl) ?_
  refine VO.cg (r := decide (k < ((l.length : Nat) : Int))) (w := true) [] trivial (fun hgd => have g1_4 : k < ((l.length : Nat) : Int) := (by simpa using hgd); (.move rfl)) ?_
  refine VO.rg (r := decide (k < ((l.length : Nat) : Int))) (w := true) [(11, .v y96 l)] ⟨rfl, trivial⟩ (fun hgd => have g1_4 : k < ((l.length : Nat) : Int) := (by simpa using hgd); (.len el96)) ?_
  refine VO.cg (r := decide (k < ((l.length : Nat) : Int))) (w := true) [(12, I ((l.length : Nat) : Int))] ⟨rfl, trivial⟩ (fun hgd => have g1_4 : k < ((l.length : Nat) : Int) := (by simpa using hgd); (.neq)) ?_
  refine VO.c (.and) ?_
  refine VO.go ?_
  refine VC.condB rfl (fun c1 => ?_) (fun c1 => ?_)
  · try simp only [Bool.and_eq_true, Bool.or_eq_true, Bool.and_eq_false_iff, Bool.or_eq_false_iff, Bool.not_eq_true', Bool.not_eq_false', decide_eq_true_eq, decide_eq_false_iff_not] at c1
    refine VC.seq ?_
    refine VC.text ?_
    refine VO.c (.assign rfl) ?_
    refine VO.go ?_
    refine VC.ret ?_
    exact VEnd.one rfl evT (pvE (by exact (decide_eq_false fun hh => by have := hh.1; omega).symm))
  · try simp only [Bool.and_eq_true, Bool.or_eq_true, Bool.and_eq_false_iff, Bool.or_eq_false_iff, Bool.not_eq_true', Bool.not_eq_false', decide_eq_true_eq, decide_eq_false_iff_not] at c1
    refine VC.skip ?_
    show VC _ _ _ _ _ _ _ _
    refine VC.seq ?_
    refine VC.seq ?_
    refine VC.text ?_
    refine VO.c (.assign rfl) ?_
    refine VO.go ?_
    refine VC.block ?_
    refine VC.keep [(0, .v y96 l), (5, I ((0 : Nat) : Int))] ⟨rfl, rfl, trivial⟩ ?_
    refine VC.loop (I := fun kk ff ss => ∃ (i : Nat), kk = l.length - i ∧ ff = [(0, .v y96 l), (5, I ((i : Nat) : Int))] ∧ ss = [] ∧ (i ≤ l.length) ∧ (∀ j, j < i → (pcA l j).2.1.size ≤ 60 ∧ (pcA l j).2.2.2.2.length ≤ 9)) ?_ _ _ _ ⟨0, rfl, rfl, rfl, Nat.zero_le _, (by intro j hj; omega)⟩
    rintro kk ff ss ⟨i, hk0, rfl, rfl, hi, hn⟩
    refine VC.seq ?_
    refine VC.seq ?_
    refine VC.text ?_
    refine VO.c (.move rfl) ?_
    refine VO.c (.move rfl) ?_
    refine VO.r (.len el96) ?_
    refine VO.c (.lss) ?_
    refine VO.go ?_
    refine VC.condD rfl (fun c4 => ?_) (fun c4 => ?_)
    · have hi' : i < l.length := by omega
      refine VC.skip ?_
      show VC _ _ _ _ _ _ _ _
      refine VC.seq ?_
      refine VC.block ?_
      refine VC.seq ?_
      refine VC.join [(0, .v y96 l), (5, I ((i : Nat) : Int)), (36, B (!decide ((pcA l i).2.1.size ≤ 60 ∧ (pcA l i).2.2.2.2.length ≤ 9)))] [] ?_ ?_
      · skip
        refine VC.text ?_
        refine VO.c (.move rfl) ?_
        refine VO.c (.move rfl) ?_
        refine VO.c (.ix (j := i) rfl rfl el96 (by omega)) ?_
        refine VO.c (.fa (.r (.l .o))) ?_
        refine VO.r (.ld vt9) ?_
        refine VO.r (.lenS) ?_
        refine VO.c (.gtr) ?_
        refine VO.c (.move rfl) ?_
        refine VO.splitD (x := 28) rfl (fun g6_7 => ?_) (fun g6_7 => ?_)
        · refine VO.skip ?_
          refine VO.skip ?_
          refine VO.skip ?_
          refine VO.skip ?_
          refine VO.skip ?_
          refine VO.skip ?_
          refine VO.skip ?_
          refine VO.c (.pickT rfl rfl) ?_
          refine VO.nil ?_
          exact ⟨⟨rfl, rfl, slE rfl (by rw [← pcA_eq hi', Bool.eq_iff_iff]; simp <;> omega), trivial⟩, rfl⟩
        · refine VO.c (.move rfl) ?_
          refine VO.c (.move rfl) ?_
          refine VO.c (.ix (j := i) rfl rfl el96 (by omega)) ?_
          refine VO.c (.fa (.r (.r (.r (.r .o))))) ?_
          refine VO.r (.ld vt124) ?_
          refine VO.r (.len el124) ?_
          refine VO.c (.gtr) ?_
          refine VO.c (.pickF rfl rfl) ?_
          refine VO.nil ?_
          exact ⟨⟨rfl, rfl, slE rfl (by rw [← pcA_eq hi', Bool.eq_iff_iff]; simp <;> omega), trivial⟩, rfl⟩
      show VC _ _ _ _ _ _ _ _
      refine VC.condB rfl (fun c6 => ?_) (fun c6 => ?_)
      · try simp only [Bool.and_eq_true, Bool.or_eq_true, Bool.and_eq_false_iff, Bool.or_eq_false_iff, Bool.not_eq_true', Bool.not_eq_false', decide_eq_true_eq, decide_eq_false_iff_not] at c6
        have c6' : ¬ ((pcA l i).2.1.size ≤ 60 ∧ (pcA l i).2.2.2.2.length ≤ 9) := by omega
        refine VC.seq ?_
        refine VC.text ?_
        refine VO.c (.assign rfl) ?_
        refine VO.go ?_
        refine VC.ret ?_
        exact VEnd.one rfl evT (pvE (by exact (decide_eq_false fun hh => c6' (hh.2 i hi')).symm))
      · try simp only [Bool.and_eq_true, Bool.or_eq_true, Bool.and_eq_false_iff, Bool.or_eq_false_iff, Bool.not_eq_true', Bool.not_eq_false', decide_eq_true_eq, decide_eq_false_iff_not] at c6
        have c6' : (pcA l i).2.1.size ≤ 60 ∧ (pcA l i).2.2.2.2.length ≤ 9 := by omega
        refine VC.skip ?_
        show VC _ _ _ _ _ _ _ _
        refine VC.text ?_
        refine VO.c (.move rfl) ?_
        refine VO.c (.add rfl rfl (by omega)) ?_
        refine VO.c (.assign rfl) ?_
        refine VO.nil ?_
        refine ⟨_, [(0, .v y96 l), (5, I (((i + 1) : Nat) : Int))], ?_, ⟨rfl, rfl, trivial⟩, (i + 1), rfl, rfl, rfl, (by omega), (by intro j hj; rcases Nat.lt_succ_iff_lt_or_eq.1 hj with h | h; exact hn j h; subst h; exact c6')⟩
        omega
    · refine VC.exit ?_
      show VC _ _ _ _ _ _ _ _
      refine VC.seq ?_
      refine VC.text ?_
      refine VO.c (.assign rfl) ?_
      refine VO.go ?_
      refine VC.ret ?_
      exact VEnd.one rfl evT (pvE (by exact (decide_eq_true ⟨by omega, fun j hj => hn j (by omega)⟩).symm))
theorem lDom_ok {d : Int × Int × Int × (List (ByteArray × Int))} (hl : d.2.2.2.length < 100000) : VF Tryz.prog OA 55 [.v y95 d] (.v y106 d) := by
  refine VF.enter Tryz.func55 rfl (fun _ _ => rfl) rfl ?_
  show VC _ _ _ _ _ [(0, .v y95 d)] [] _
  refine VC.seq ?_
  refine VC.text ?_
  refine VO.new (.box) ?_
  refine VO.cell (.alloc zt106) ?_
  intro ww1
  refine VO.go ?_
  refine VC.seq ?_
  refine VC.text ?_
  refine VO.c (.fa (.l .o)) ?_
  refine VO.r (.ld vt3) ?_
  refine VO.c (.fa (.r (.l .o))) ?_
  refine VO.r (.ld vt3) ?_
  refine VO.c (.fa (.r (.r (.l .o)))) ?_
  refine VO.r (.ld vt3) ?_
  refine VO.c (.buildA (cs := [I d.1, I d.2.1, I d.2.2.1, nilV]) bt106 rfl) ?_
  refine VO.cell (.alloc zt106) ?_
  intro ww2
  refine VO.setV (cs' := [I d.1, I d.2.1, I d.2.2.1, nilV]) vt106 (.aggs rfl rfl) ?_
  refine VO.go ?_
  refine VC.seq ?_
  refine VC.seq ?_
  refine VC.text ?_
  refine VO.c (.fa (.r (.r (.r .o)))) ?_
  refine VO.r (.ld vt93) ?_
  refine VO.r (.len el93) ?_
  refine VO.c (.move rfl) ?_
  refine VO.go ?_
  refine VC.block ?_
  refine VC.cell0 210 y210 ?_
  refine VC.keep [(2, .raw ww1), (3, .raw ww2), (14, .v y93 d.2.2.2), (15, I ((d.2.2.2.length : Nat) : Int)), (16, I ((0 : Nat) : Int))] ⟨rfl, rfl, rfl, rfl, rfl, trivial⟩ ?_
  refine VC.loop (I := fun kk ff ss => ∃ (i : Nat) (w : Value), kk = d.2.2.2.length - i ∧ ff = [(2, .raw ww1), (3, .raw ww2), (14, .v y93 d.2.2.2), (15, I ((d.2.2.2.length : Nat) : Int)), (16, I ((i : Nat) : Int))] ∧ ss = [(w, .row 210 y210 (d.2.2.2.take i)), (ww2, .var [I d.1, I d.2.1, I d.2.2.1, .raw w]), (ww1, .var [I (0 : Int), I (0 : Int), I (0 : Int), .v y104 []])] ∧ (i ≤ d.2.2.2.length)) ?_ _ _ _ ⟨0, (.slice none 0 0), rfl, rfl, rfl, Nat.zero_le _⟩
  rintro kk ff ss ⟨i, w, hk0, rfl, rfl, hi⟩
  refine VC.seq ?_
  refine VC.text ?_
  refine VO.c (.lss) ?_
  refine VO.go ?_
  refine VC.seq ?_
  refine VC.condD rfl (fun c3 => ?_) (fun c3 => ?_)
  · refine VC.skip ?_
    show VC _ _ _ _ _ _ _ _
    refine VC.seq ?_
    refine VC.block ?_
    refine VC.seq ?_
    refine VC.text ?_
    refine VO.c (.ix (j := i) rfl rfl el93 (by omega)) ?_
    refine VO.r (.ld vt203) ?_
    refine VO.cell (.alloc zt203) ?_
    intro ww3
    refine VO.setV (cs' := [St ((d.2.2.2[i]).1), I ((d.2.2.2[i]).2)]) vt203 .v ?_
    refine VO.shut [(5, .p y203 (d.2.2.2[i]))] (.cons rfl (.var m0 .refl) .nil) ?_
    refine VO.go ?_
    refine VC.text ?_
    refine VO.c (.faO (k := 3) m1) ?_
    refine VO.r (.ldF (k := 3) m1 vt104) ?_
    refine VO.r (.ld vt203) ?_
    refine VO.new (.lit [d.2.2.2[i]] el104) ?_
    refine VO.app rfl rfl el104 el104 (by simp; omega) ?_
    intro ww4
    refine VO.c (.faO (k := 3) m1) ?_
    refine VO.perm swap1 ?_
    refine VO.one m1 fun ho5 => ?_
    refine VO.setF (cs' := [I d.1, I d.2.1, I d.2.2.1, .raw ww4]) 3 vt104 (.raw rfl (agg_one ho5) ho5) ?_
    refine VO.nil ?_
    show VC _ _ _ _ _ _ _ _
    refine VC.text ?_
    refine VO.c (.add rfl rfl (by omega)) ?_
    refine VO.c (.move rfl) ?_
    refine VO.perm swap2 ?_
    refine VO.perm swap1 ?_
    refine VO.perm swap2 ?_
    refine VO.nil ?_
    refine ⟨_, [(2, .raw ww1), (3, .raw ww2), (14, .v y93 d.2.2.2), (15, I ((d.2.2.2.length : Nat) : Int)), (16, I (((i + 1) : Nat) : Int))], ?_, ⟨rfl, rfl, rfl, rfl, rfl, trivial⟩, (i + 1), ww4, rfl, rfl, (by rw [List.take_succ_eq_append_getElem (by omega)] <;> rfl), (by omega)⟩
    omega
  · refine VC.exit ?_
    show VC _ _ _ _ _ _ _ _
    refine VC.seq ?_
    refine VC.shutL [(w, .row 210 y210 (d.2.2.2.take i)), (ww2, .var [I d.1, I d.2.1, I d.2.2.1, .raw w])] [(3, .p y106 (d.1, d.2.1, d.2.2.1, (d.2.2.2.take i)))] rfl (.cons rfl (.var m1 (.cons .same (.cons .same (.cons .same (.cons (.row m0) .nil))))) .nil) ?_
    refine VC.text ?_
    refine VO.r (.ld vt106) ?_
    refine VO.setV (cs' := [I d.1, I d.2.1, I d.2.2.1, .v y104 (d.2.2.2.take i)]) vt106 .v ?_
    refine VO.go ?_
    refine VC.ret ?_
    exact VEnd.one rfl (.cell (x := (d.1, d.2.1, d.2.2.1, (d.2.2.2.take i))) rfl m0 vt106 .refl) (pvE (by rw [List.take_of_length_le (by omega)]))
theorem lPc_ok {p : Int × ByteArray × Int × Int × (List Nat)} (hl : p.2.2.2.2.length < 100000) : VF Tryz.prog OA 83 [.v y152 p] (.v y160 p) := by
  refine VF.enter Tryz.func83 rfl (fun _ _ => rfl) rfl ?_
  show VC _ _ _ _ _ [(0, .v y152 p)] [] _
  refine VC.seq ?_
  refine VC.text ?_
  refine VO.new (.box) ?_
  refine VO.cell (.alloc zt160) ?_
  intro ww6
  refine VO.go ?_
  refine VC.seq ?_
  refine VC.text ?_
  refine VO.r (.ld vt152) ?_
  refine VO.cell (.alloc zt160) ?_
  intro ww7
  refine VO.setV (cs' := [I p.1, St p.2.1, I p.2.2.1, I p.2.2.2.1, .v y124 p.2.2.2.2]) vt160 .v ?_
  refine VO.go ?_
  refine VC.seq ?_
  refine VC.text ?_
  refine VO.cell (.lit0 el124) ?_
  intro ww8
  refine VO.c (.fa (.r (.r (.r (.r .o))))) ?_
  refine VO.r (.ld vt124) ?_
  refine VO.app rfl rfl el124 el124 (by simp; omega) ?_
  intro ww9
  refine VO.c (.faO (k := 4) m1) ?_
  refine VO.perm swap1 ?_
  refine VO.one m1 fun ho10 => ?_
  refine VO.setF (cs' := [I p.1, St p.2.1, I p.2.2.1, I p.2.2.2.1, .raw ww9]) 4 vt124 (.raw rfl (agg_one ho10) ho10) ?_
  refine VO.go ?_
  refine VC.seq ?_
  refine VC.perm swap1 ?_
  refine VC.shutL [(ww9, .row 127 (.flt .f32) p.2.2.2.2), (ww7, .var [I p.1, St p.2.1, I p.2.2.1, I p.2.2.2.1, .raw ww9])] [(3, .p y160 (p.1, p.2.1, p.2.2.1, p.2.2.2.1, p.2.2.2.2))] rfl (.cons rfl (.var m1 (.cons .same (.cons .same (.cons .same (.cons .same (.cons (.row m0) .nil)))))) .nil) ?_
  refine VC.text ?_
  refine VO.r (.ld vt160) ?_
  refine VO.setV (cs' := [I p.1, St p.2.1, I p.2.2.1, I p.2.2.2.1, .v y124 p.2.2.2.2]) vt160 .v ?_
  refine VO.go ?_
  refine VC.ret ?_
  exact VEnd.one rfl (.cell (x := (p.1, p.2.1, p.2.2.1, p.2.2.2.1, p.2.2.2.2)) rfl m0 vt160 .refl) (pvE (by first | rfl | simp))
theorem lPcs_ok {l : List (Int × ByteArray × Int × Int × (List Nat))} (hl : l.length < 100000) (hr : ∀ r ∈ l, r.2.2.2.2.length < 100000) : VF Tryz.prog OA 56 [.v y96 l] (.v y108 l) := by
  refine VF.enter Tryz.func56 rfl (fun _ _ => rfl) rfl ?_
  show VC _ _ _ _ _ [(0, .v y96 l)] [] _
  refine VC.seq ?_
  refine VC.text ?_
  refine VO.c (.assign rfl) ?_
  refine VO.go ?_
  refine VC.seq ?_
  refine VC.text ?_
  refine VO.c (.assign rfl) ?_
  refine VO.go ?_
  refine VC.seq ?_
  refine VC.seq ?_
  refine VC.text ?_
  refine VO.c (.move rfl) ?_
  refine VO.r (.len el96) ?_
  refine VO.c (.move rfl) ?_
  refine VO.go ?_
  refine VC.block ?_
  refine VC.cell0 160 y160 ?_
  refine VC.keep [(3, .raw (.slice none 0 0)), (6, .v y96 l), (7, I ((l.length : Nat) : Int)), (8, I ((0 : Nat) : Int))] ⟨rfl, rfl, rfl, rfl, trivial⟩ ?_
  refine VC.loop (I := fun kk ff ss => ∃ (j : Nat) (out : Value), kk = l.length - j ∧ ff = [(3, .raw out), (6, .v y96 l), (7, I ((l.length : Nat) : Int)), (8, I ((j : Nat) : Int))] ∧ ss = [(out, .row 160 y160 (l.take j))] ∧ (j ≤ l.length)) ?_ _ _ _ ⟨0, (.slice none 0 0), rfl, rfl, rfl, Nat.zero_le _⟩
  rintro kk ff ss ⟨j, out, hk0, rfl, rfl, hj⟩
  refine VC.seq ?_
  refine VC.text ?_
  refine VO.c (.lss) ?_
  refine VO.go ?_
  refine VC.seq ?_
  refine VC.condD rfl (fun c3 => ?_) (fun c3 => ?_)
  · refine VC.skip ?_
    show VC _ _ _ _ _ _ _ _
    refine VC.seq ?_
    refine VC.block ?_
    refine VC.seq ?_
    refine VC.text ?_
    refine VO.c (.ix (j := j) rfl rfl el96 (by omega)) ?_
    refine VO.r (.ld vt152) ?_
    refine VO.cell (.alloc zt152) ?_
    intro ww11
    refine VO.setV (cs' := [I ((l[j]).1), St ((l[j]).2.1), I ((l[j]).2.2.1), I ((l[j]).2.2.2.1), .v y124 ((l[j]).2.2.2.2)]) vt152 .v ?_
    refine VO.shut [(5, .p y152 (l[j]))] (.cons rfl (.var m0 .refl) .nil) ?_
    refine VO.go ?_
    refine VC.text ?_
    refine VO.c (.move rfl) ?_
    refine VO.r (.ld vt152) ?_
    refine VO.call rfl rfl (VF.call (lPc_ok (hr _ (List.getElem_mem _)))) ?_
    refine VO.new (.lit [(l[j])] el108) ?_
    refine VO.app rfl rfl el108 el108 (by simp; omega) ?_
    intro ww12
    refine VO.c (.assign rfl) ?_
    refine VO.nil ?_
    show VC _ _ _ _ _ _ _ _
    refine VC.text ?_
    refine VO.c (.add rfl rfl (by omega)) ?_
    refine VO.c (.move rfl) ?_
    refine VO.nil ?_
    refine ⟨_, [(3, .raw ww12), (6, .v y96 l), (7, I ((l.length : Nat) : Int)), (8, I (((j + 1) : Nat) : Int))], ?_, ⟨rfl, rfl, rfl, rfl, trivial⟩, (j + 1), ww12, rfl, rfl, (by rw [List.take_succ_eq_append_getElem (by omega)] <;> rfl), (by omega)⟩
    omega
  · refine VC.exit ?_
    show VC _ _ _ _ _ _ _ _
    refine VC.seq ?_
    refine VC.text ?_
    refine VO.c (.move rfl) ?_
    refine VO.c (.assign rfl) ?_
    refine VO.go ?_
    refine VC.ret ?_
    exact VEnd.one rfl (evC (.row m0)) (pvE (by rw [List.take_of_length_le (by omega)]))
end Go.Proofs
namespace Go.Proofs
open Go.Fs Ieee
set_option linter.unusedVariables false
abbrev y98 : Ty := (.pair (.int .i64) (.pair .str (.int .i64)))
/-! ## The law of fields -/
theorem pc_lv {d : Dom} {p : Pc} (h : pcE d p = 0) : pcPre d p = 0 ∧ ∀ x ∈ p.2.2.2.2, lvlE x = 0 := by
  unfold pcE at h
  split at h
  · rename_i h0
    rw [firstE_zero] at h
    exact ⟨h0, fun x hx => h _ (List.mem_map_of_mem hx)⟩
  · contradiction
theorem step_lt {d : Dom} {l : List Pc} {i : Nat} (h : pieceE d l (i + 1) = 0) : ¬ 0 ≤ cmpP (plE d (pcA l i)) (plE d (pcA l (i + 1))) := fun hc => by
  rw [piece_z (piece_zero h)] at h
  rw [show i + 1 - 1 = i from rfl, decide_eq_true hc, decide_eq_true (Nat.succ_pos i)] at h
  cases h
theorem cmp_trans {a b c : Pc × Int} (h1 : ¬ 0 ≤ cmpP a b) (h2 : ¬ 0 ≤ cmpP b c) : ¬ 0 ≤ cmpP a c := by
  unfold cmpP at *
  have e3 : 0 ≤ firstE [] := by decide
  simp only [firstE_cmp, e3, and_true] at *
  omega
theorem all_lt {d : Dom} {l : List Pc} (hz : ∀ k, k < l.length → pieceE d l k = 0) {j : Nat} : ∀ (i : Nat), j < i → i < l.length → ¬ 0 ≤ cmpP (plE d (pcA l j)) (plE d (pcA l i))
  | 0, h, _ => by omega
  | i + 1, h, hi => by
    have h1 := step_lt (hz _ hi)
    rcases Nat.lt_succ_iff_lt_or_eq.1 h with h3 | h3
    · exact cmp_trans (all_lt hz i h3 (by omega)) h1
    · subst h3; exact h1
theorem same_plus {v : List Nat} (h : ∀ x ∈ v, lvlE x = 0) : sameLv v (v.map plusZ) = true := by
  refine decide_eq_true ⟨by simp, fun i hi => ?_⟩
  have h1 := h _ (List.getElem_mem hi)
  have h2 := lvl_ok h1
  have h3 := plusZ_ok h1
  rw [List.getD_eq_getElem?_getD, List.getD_eq_getElem?_getD, List.getElem?_map, List.getElem?_eq_getElem hi]
  show fcmpE .neq .f32 v[i] (plusZ v[i]) = false
  rw [(fcmp32 h2.1 (h3.2.2.trans h2.1)).2.1]
  exact decide_eq_false (by simp)
end Go.Proofs
namespace Go.Proofs
open Go.Fs Ieee
set_option linter.unusedVariables false
/-! ## What is missing -/
def slM (d : Dom) (m t r : Nat) : Sl := (nmE d.2.2.2 m, (t : Int), (r : Int))
def preT (d : Dom) (m t : Nat) : List Sl := (List.range t).flatMap fun t => (List.range d.1.toNat).map (slM d m t)
def preM (d : Dom) (m : Nat) : List Sl := (List.range m).flatMap fun m => preT d m d.2.2.1.toNat
def preR (d : Dom) (m t r : Nat) : List Sl := preM d m ++ (preT d m t ++ (List.range r).map (slM d m t))
def lost (l : List Pc) (n : Int) (s : Sl) : Bool := decide (fndE l n s < 0)
def missL (d : Dom) (l : List Pc) (n : Int) : List Sl := (preM d d.2.2.2.length).filter (lost l n)
def z3 : Sl := (ByteArray.empty, 0, 0)
def cntE (d : Dom) (l : List Pc) (n : Int) (m t r : Nat) : Nat := ((preR d m t r).filter (lost l n)).length
def hdE (d : Dom) (l : List Pc) (n : Int) (m t r : Nat) : Sl := ((preR d m t r).filter (lost l n)).headD z3
end Go.Proofs
namespace Go.Proofs
open Go.Fs Ieee
set_option linter.unusedVariables false

/-! ## Courses of a run -/
abbrev Tf := List Int × Int × Int
def fldE (d : Dom) (l : List Pc) (n : Int) (x : ByteArray) (t : Nat) : List (List Nat) × Bool := rowsQ (hasQ (runM l n l.length) x t) d.1.toNat
def lvsE (d : Dom) (l : List Pc) (n : Int) (p : Int × Int) (x : ByteArray) (k : Nat) : List Int := (List.range k).map fun t => (atE (fldE d l n x t).1 p).fdiv 16
def wholeB (d : Dom) (l : List Pc) (n : Int) : Bool := decide (∀ i, i < d.2.2.2.length → ∀ t, t < d.2.2.1.toNat → (fldE d l n (nmE d.2.2.2 i) t).2 = true)
def csE (d : Dom) (l : List Pc) (n : Int) (p : Int × Int) (tr : Tf) (k : Nat) : List (Int × List Int) := (List.range k).map fun i => (wgtE d.2.2.2 i, applyE tr (lvsE d l n p (nmE d.2.2.2 i) d.2.2.1.toNat))
def folA (d : Dom) (p : Int × Int) (tr : Tf) : Int := firstE [placeE p d.1 d.2.1, transferE tr]
def folV (d : Dom) (l : List Pc) (n : Int) (p : Int × Int) (tr : Tf) : List (Int × List Int) × Int := if fieldA d l n ≠ 0 then ([], fieldA d l n) else if folA d p tr ≠ 0 then ([], folA d p tr) else bif wholeB d l n then (csE d l n p tr d.2.2.2.length, 0) else ([], 7)
end Go.Proofs
namespace Go.Proofs
open Go.Fs Ieee
set_option linter.unusedVariables false
/-! ## The reference's courses -/
def plusF (F : List (List Nat)) : List (List Nat) := F.map fun r => r.map plusZ
def folR (d : Dom) (l : List Pc) (n : Int) (p : Int × Int) (tr : Tf) : List (Int × List Int) × Bool := bif decide (missL d l n = []) then (csE d l n p tr d.2.2.2.length, true) else ([], false)
end Go.Proofs
namespace Go.Proofs
open Go.Fs Ieee
set_option linter.unusedVariables false
abbrev y131 : Ty := (.pair (.int .i64) (.pair (.pair (.int .i64) (.int .i64)) (.pair (.sl (.int .i64)) (.pair (.int .i64) (.int .i64)))))
/-! ## The law of courses -/
def folB (d : Dom) (n : Int) (p : Int × Int) (tr : Tf) : Int := firstE [rangeE n 0 100000, placeE p d.1 d.2.1, transferE tr]
end Go.Proofs
namespace Go.Proofs
open Go.Fs Ieee
set_option linter.unusedVariables false

/-! ## The slots of a domain, one by one -/
def slAll (d : Dom) : List Sl := preM d d.2.2.2.length
def remR (d : Dom) (m t r : Nat) : List Sl := (slAll d).drop (preR d m t r).length
end Go.Proofs
namespace Go.Proofs
open Go.Fs Ieee
set_option linter.unusedVariables false
/-! ## What is missing, by the program -/
end Go.Proofs
namespace Go.Proofs
open Go.Fs Ieee
set_option linter.unusedVariables false

/-! ## Runs, each once -/
def rnL (l : List Pc) : List Int := l.map (·.1)
def runsE (l : List Pc) : List Int := cptA 0 (rnL l) (rnL l).length
def runsV (d : Dom) (l : List Pc) : List Int × Int := if storeE d l ≠ 0 then ([], storeE d l) else (runsE l, 0)
end Go.Proofs
namespace Go.Proofs
open Go.Fs Ieee
set_option linter.unusedVariables false
/-! ## The latest run -/
def fndL (p : Int → Bool) : List (Int × Int) → Int × Int
  | [] => (0, 7)
  | x :: r => if p x.2 then (x.2, 0) else fndL p r
def bwL (xs : List Int) : Nat → List (Int × Int)
  | 0 => []
  | i + 1 => ((i : Int), xs.getD i 0) :: bwL xs i
def bstE (p : Int → Bool) (xs : List Int) : Nat → Int
  | 0 => -1
  | i + 1 => if p (xs.getD i 0) = true then max (bstE p xs i) (xs.getD i 0) else bstE p xs i
def dedE (xs : List Int) : Nat → List Int
  | 0 => []
  | i + 1 => if xs.getD i 0 ∈ dedE xs i then dedE xs i else dedE xs i ++ [xs.getD i 0]
def latP (d : Dom) (l : List Pc) (now r : Int) : Bool := decide (missL d l r = []) && decide (r ≤ now)
def latE (d : Dom) (l : List Pc) (now : Int) : Int × Int := fndL (latP d l now) (bwL (runsE l) (runsE l).length)
def latV (d : Dom) (l : List Pc) (now : Int) : Int × Int := if fieldA d l now ≠ 0 then (0, fieldA d l now) else latE d l now
def latR (d : Dom) (l : List Pc) (now : Int) : Int := bstE (latP d l now) (runsE l) (runsE l).length
def missV (d : Dom) (l : List Pc) (n : Int) : Int × Sl × Int := if fieldA d l n ≠ 0 then (0, z3, fieldA d l n) else (((missL d l n).length : Nat), (missL d l n).headD z3, 0)
def latF (d : Dom) (l : List Pc) (now : Int) : Int := if latR d l now < 0 then 0 else latR d l now
def latG (d : Dom) (l : List Pc) (now : Int) : Int := if latR d l now < 0 then 7 else 0
end Go.Proofs
namespace Go.Proofs
open Go.Fs Ieee
set_option linter.unusedVariables false
/-! ## The law of runs -/
end Go.Proofs
namespace Go.Proofs
open Go.Fs
set_option linter.unusedVariables false
abbrev y39 : Ty := (.sl (.pair (.sl (.int .i64)) (.sl (.int .i64))))
abbrev y45 : Ty := (.sl (.pair (.sl (.int .i64)) (.sl (.int .i64))))
abbrev y172 : Ty := (.pair (.sl (.int .i64)) (.sl (.int .i64)))
/-! ## Nights -/
def nightE (c : List Int × List Int) : Int := firstE [whenE (decide ((c.1.length : Int) = 0)) 12, whenE (decide ((96 : Int) < c.1.length)) 5, whenE (decide ((c.2.length : Int) ≠ c.1.length)) 2, heightsE c.1, heightsE c.2]
def nightsE (l : List (List Int × List Int)) : Int := if (l.length : Int) = 0 then 12 else if (64 : Int) < l.length then 5 else firstE (l.map nightE)
def devE (c : List Int × List Int) : List Int := (List.range c.2.length).map fun i => c.2.getD i 0 - c.1.getD i 0
structure OkN (c : List Int × List Int) : Prop where
  len : c.2.length = c.1.length
  pos : 0 < c.1.length
  top : c.1.length ≤ 96
  all1 : ∀ x ∈ c.1, -1048576 ≤ x ∧ x ≤ 1048576
  all2 : ∀ x ∈ c.2, -1048576 ≤ x ∧ x ≤ 1048576
structure OkNs (l : List (List Int × List Int)) : Prop where
  pos : 0 < l.length
  top : l.length ≤ 64
  all : ∀ c ∈ l, OkN c
end Go.Proofs
namespace Go.Proofs
open Go.Fs
set_option linter.unusedVariables false
abbrev y185 : Ty := (.sl (.sl (.int .i64)))
theorem flat_le {α : Type} {l : List (List α)} (j : Nat) : (l.take j).flatten.length ≤ l.flatten.length := by
  have : l.flatten = (l.take j).flatten ++ (l.drop j).flatten := by rw [← List.flatten_append, List.take_append_drop]
  rw [this, List.length_append]; omega
theorem flat_succ {α : Type} {l : List (List α)} {j : Nat} (hj : j < l.length) : (l.take (j + 1)).flatten = (l.take j).flatten ++ l[j] := by
  rw [List.take_succ_eq_append_getElem hj, List.flatten_append]; simp
def learnE (l : List (List Int × List Int)) : Int × Int := hullE (l.map devE).flatten
def learnR (l : List (List Int × List Int)) : Int × Int := if nightsE l = 0 then learnE l else (0, 0)
def outE (b : Int × Int) (c : List Int × List Int) : Bool := (devE c).any fun x => decide (x < b.1) || decide (b.2 < x)
def verE (l : List (List Int × List Int)) (b : Int × Int) (n : Nat) : List Int := ((List.range n).filter fun i => outE b (l.getD i ([], []))).map fun i : Nat => (i : Int)
def verB (l : List (List Int × List Int)) (b : Int × Int) : Int := firstE [nightsE l, boundsE b]
def verR (l : List (List Int × List Int)) (b : Int × Int) : List Int := if verB l b = 0 then verE l b l.length else []
end Go.Proofs
namespace Go.Fs
variable {α : Type} {lt : α → α → Bool}
def StrS (lt : α → α → Bool) (xs : List α) : Prop := xs.Pairwise (fun x y => lt x y = true)
def mrgS (lt : α → α → Bool) : List α → List α → List α
  | [], B => B
  | x :: A, [] => x :: A
  | x :: A, y :: B => if lt x y then x :: mrgS lt A (y :: B) else if lt y x then y :: mrgS lt (x :: A) B else x :: y :: mrgS lt A B
termination_by A B => A.length + B.length
def rmE (lt same : α → α → Bool) : List α → List α → Option (List α)
  | [], B => some B
  | x :: A, [] => some (x :: A)
  | x :: A, y :: B => if lt x y then (rmE lt same A (y :: B)).map (x :: ·) else if lt y x then (rmE lt same (x :: A) B).map (y :: ·) else if same x y then (rmE lt same A B).map (x :: ·) else none
termination_by A B => A.length + B.length
def pgL (lt same : α → α → Bool) : Option α → List α → Option (List α)
  | _, [] => some []
  | none, p :: r => (pgL lt same (some p) r).map (p :: ·)
  | some q, p :: r => if eqv lt q p then (if same q p then pgL lt same (some p) r else none) else (pgL lt same (some p) r).map (p :: ·)
theorem Weak.trans (W : Weak lt) {a b c : α} (h1 : lt a b = true) (h2 : lt b c = true) : lt a c = true := by
  cases h : lt a c with
  | true => rfl
  | false =>
    have h3 := W.neg _ _ _ h (W.asym _ _ h2)
    rw [h1] at h3; cases h3
theorem Weak.eq_lt (W : Weak lt) {a b c : α} (h1 : eqv lt a b = true) (h2 : lt b c = true) : lt a c = true := by
  obtain ⟨h3, h4⟩ := eqv_iff.1 h1
  cases h : lt a c with
  | true => rfl
  | false =>
    have h5 := W.neg _ _ _ h4 h
    rw [h2] at h5; cases h5
theorem Weak.lt_ne (W : Weak lt) {a b : α} (h : lt a b = true) : eqv lt a b = false := by
  cases h2 : eqv lt a b with
  | false => rfl
  | true => rw [(eqv_iff.1 h2).1] at h; cases h
theorem Weak.lt_ne' (W : Weak lt) {a b : α} (h : lt a b = true) : eqv lt b a = false := by
  cases h2 : eqv lt b a with
  | false => rfl
  | true => rw [(eqv_iff.1 h2).2] at h; cases h
theorem mrgS_mem {z : α} : ∀ (A B : List α), z ∈ mrgS lt A B ↔ z ∈ A ∨ z ∈ B
  | [], B => by simp [mrgS]
  | x :: A, [] => by simp [mrgS]
  | x :: A, y :: B => by
    rw [mrgS]
    split
    · rw [List.mem_cons, mrgS_mem A (y :: B), List.mem_cons, List.mem_cons (a := z) (b := x)]; exact or_assoc.symm
    · split
      · rw [List.mem_cons, mrgS_mem (x :: A) B, List.mem_cons (a := z) (b := y)]; exact ⟨fun h => by rcases h with h | h | h <;> simp [h], fun h => by rcases h with h | h | h <;> simp [h]⟩
      · rw [List.mem_cons, List.mem_cons, mrgS_mem A B, List.mem_cons, List.mem_cons]; exact ⟨fun h => by rcases h with h | h | h | h <;> simp [h], fun h => by rcases h with (h | h) | h | h <;> simp [h]⟩
termination_by A B => A.length + B.length
theorem StrS.head {x : α} {A : List α} (h : StrS lt (x :: A)) : ∀ a ∈ A, lt x a = true := (List.pairwise_cons.1 h).1
theorem StrS.tail {x : α} {A : List α} (h : StrS lt (x :: A)) : StrS lt A := (List.pairwise_cons.1 h).2
theorem StrS.srt (W : Weak lt) {A : List α} (h : StrS lt A) : Srt lt A := h.imp fun h => W.asym _ _ h
theorem mrgS_srt (W : Weak lt) : ∀ (A B : List α), StrS lt A → StrS lt B → Srt lt (mrgS lt A B)
  | [], B, _, hb => by rw [mrgS]; exact hb.srt W
  | x :: A, [], ha, _ => by rw [mrgS]; exact ha.srt W
  | x :: A, y :: B, ha, hb => by
    rw [mrgS]
    split
    · rename_i h
      refine List.pairwise_cons.2 ⟨fun z hz => W.asym _ _ ?_, mrgS_srt W A (y :: B) ha.tail hb⟩
      rcases (mrgS_mem _ _).1 hz with h1 | h1
      · exact ha.head z h1
      · rcases List.mem_cons.1 h1 with rfl | h1
        · exact h
        · exact W.trans h (hb.head z h1)
    · rename_i h0
      split
      · rename_i h
        refine List.pairwise_cons.2 ⟨fun z hz => W.asym _ _ ?_, mrgS_srt W (x :: A) B ha hb.tail⟩
        rcases (mrgS_mem _ _).1 hz with h1 | h1
        · rcases List.mem_cons.1 h1 with rfl | h1
          · exact h
          · exact W.trans h (ha.head z h1)
        · exact hb.head z h1
      · rename_i h
        have he : eqv lt x y = true := eqv_iff.2 ⟨by simpa using h0, by simpa using h⟩
        have he2 : eqv lt y x = true := eqv_iff.2 ⟨by simpa using h, by simpa using h0⟩
        refine List.pairwise_cons.2 ⟨fun z hz => ?_, List.pairwise_cons.2 ⟨fun z hz => W.asym _ _ ?_, mrgS_srt W A B ha.tail hb.tail⟩⟩
        · rcases List.mem_cons.1 hz with rfl | hz
          · simpa using h
          · refine W.asym _ _ ?_
            rcases (mrgS_mem _ _).1 hz with h1 | h1
            · exact ha.head z h1
            · exact W.eq_lt he (hb.head z h1)
        · rcases (mrgS_mem _ _).1 hz with h1 | h1
          · exact W.eq_lt he2 (ha.head z h1)
          · exact hb.head z h1
termination_by A B => A.length + B.length
theorem mrgS_same (W : Weak lt) : ∀ (A B : List α), StrS lt A → StrS lt B → SameEq lt (A ++ B) (mrgS lt A B)
  | [], B, _, _ => by rw [mrgS]; exact SameEq.refl _
  | x :: A, [], _, _ => by rw [mrgS, List.append_nil]; exact SameEq.refl _
  | x :: A, y :: B, ha, hb => by
    rw [mrgS]
    split
    · exact SameEq.append (xs := [x]) (ys := [x]) (SameEq.refl _) (mrgS_same W A (y :: B) ha.tail hb)
    · rename_i h0
      split
      · rename_i h
        have h1 : SameEq lt ([] ++ ((x :: A) ++ ([y] ++ B))) ([] ++ ([y] ++ ((x :: A) ++ B))) := SameEq.swap W fun a ha' b hb' => by
          obtain rfl := List.mem_singleton.1 hb'
          rcases List.mem_cons.1 ha' with rfl | h2
          · exact W.lt_ne' h
          · exact W.lt_ne' (W.trans h (ha.head _ h2))
        exact h1.trans (SameEq.append (xs := [y]) (ys := [y]) (SameEq.refl _) (mrgS_same W (x :: A) B ha hb.tail))
      · rename_i h
        have he2 : eqv lt y x = true := eqv_iff.2 ⟨by simpa using h, by simpa using h0⟩
        have h1 : SameEq lt ([x] ++ (A ++ ([y] ++ B))) ([x] ++ ([y] ++ (A ++ B))) := SameEq.swap W fun a ha' b hb' => by
          obtain rfl := List.mem_singleton.1 hb'
          exact W.lt_ne' (W.eq_lt he2 (ha.head _ ha'))
        exact h1.trans (SameEq.append (xs := [x, y]) (ys := [x, y]) (SameEq.refl _) (mrgS_same W A B ha.tail hb.tail))
termination_by A B => A.length + B.length
theorem sort_mrg (W : Weak lt) {A B : List α} (ha : StrS lt A) (hb : StrS lt B) : sortS lt (A ++ B) = mrgS lt A B := sortS_eq W (mrgS_srt W A B ha hb) (mrgS_same W A B ha hb)
variable {same : α → α → Bool}
theorem pgL_strict (W : Weak lt) : ∀ (B : List α) (q : Option α), StrS lt B → (∀ p ∈ q, ∀ b ∈ B, lt p b = true) → pgL lt same q B = some B
  | [], q, _, _ => by cases q <;> rfl
  | y :: B, none, hb, _ => by rw [pgL, pgL_strict W B (some y) hb.tail fun p hp => by obtain rfl := Option.some.inj hp; exact hb.head]; rfl
  | y :: B, some q, hb, hq => by
    rw [pgL, W.lt_ne (hq q rfl y List.mem_cons_self), pgL_strict W B (some y) hb.tail fun p hp => by obtain rfl := Option.some.inj hp; exact hb.head]; rfl
theorem pgL_cons (W : Weak lt) {x : α} {r : List α} {q : Option α} (hq : ∀ p ∈ q, lt p x = true) : pgL lt same q (x :: r) = (pgL lt same (some x) r).map (x :: ·) := by
  cases q with
  | none => rfl
  | some q => rw [pgL, W.lt_ne (hq q rfl)]; rfl
theorem pgL_mrg (W : Weak lt) : ∀ (A B : List α) (q : Option α), StrS lt A → StrS lt B → (∀ p ∈ q, ∀ a ∈ A, lt p a = true) → (∀ p ∈ q, ∀ b ∈ B, lt p b = true) → pgL lt same q (mrgS lt A B) = rmE lt same A B
  | [], B, q, _, hb, _, hq => by rw [mrgS, rmE, pgL_strict W B q hb hq]
  | x :: A, [], q, ha, _, hq, _ => by rw [mrgS, rmE, pgL_strict W _ q ha hq]
  | x :: A, y :: B, q, ha, hb, hqa, hqb => by
    rw [mrgS, rmE]
    split
    · rename_i h
      rw [pgL_cons W fun p hp => hqa p hp x List.mem_cons_self, pgL_mrg W A (y :: B) (some x) ha.tail hb (fun p hp => by obtain rfl := Option.some.inj hp; exact ha.head) (fun p hp b hb' => by
        obtain rfl := Option.some.inj hp
        rcases List.mem_cons.1 hb' with rfl | h1
        · exact h
        · exact W.trans h (hb.head _ h1))]
    · rename_i h0
      split
      · rename_i h
        rw [pgL_cons W fun p hp => hqb p hp y List.mem_cons_self, pgL_mrg W (x :: A) B (some y) ha hb.tail (fun p hp a ha' => by
          obtain rfl := Option.some.inj hp
          rcases List.mem_cons.1 ha' with rfl | h1
          · exact h
          · exact W.trans h (ha.head _ h1)) (fun p hp => by obtain rfl := Option.some.inj hp; exact hb.head)]
      · rename_i h
        have he : eqv lt x y = true := eqv_iff.2 ⟨by simpa using h0, by simpa using h⟩
        have he2 : eqv lt y x = true := eqv_iff.2 ⟨by simpa using h, by simpa using h0⟩
        rw [pgL_cons W fun p hp => hqa p hp x List.mem_cons_self, pgL, he, if_pos rfl]
        split
        · rw [pgL_mrg W A B (some y) ha.tail hb.tail (fun p hp a ha' => by obtain rfl := Option.some.inj hp; exact W.eq_lt he2 (ha.head _ ha')) (fun p hp => by obtain rfl := Option.some.inj hp; exact hb.head)]
        · rfl
termination_by A B => A.length + B.length
theorem pgL_sort (W : Weak lt) {A B : List α} (ha : StrS lt A) (hb : StrS lt B) : pgL lt same none (sortS lt (A ++ B)) = rmE lt same A B := by
  rw [sort_mrg W ha hb, pgL_mrg W A B none ha hb (fun p hp => by cases hp) (fun p hp => by cases hp)]
theorem rmE_map {β : Type} {lt' same' : β → β → Bool} (f : α → β) : ∀ (A B : List α), (∀ a ∈ A, ∀ b ∈ B, lt' (f a) (f b) = lt a b ∧ lt' (f b) (f a) = lt b a ∧ same' (f a) (f b) = same a b) → rmE lt' same' (A.map f) (B.map f) = (rmE lt same A B).map (List.map f)
  | [], B, _ => by simp [rmE]
  | x :: A, [], _ => by simp [rmE]
  | x :: A, y :: B, h => by
    obtain ⟨e1, e2, e3⟩ := h x List.mem_cons_self y List.mem_cons_self
    rw [List.map_cons, List.map_cons, rmE, rmE, e1, e2, e3]
    have h1 := rmE_map f A (y :: B) fun a ha b hb => h a (List.mem_cons_of_mem _ ha) b hb
    have h2 := rmE_map f (x :: A) B fun a ha b hb => h a ha b (List.mem_cons_of_mem _ hb)
    have h3 := rmE_map f A B fun a ha b hb => h a (List.mem_cons_of_mem _ ha) b (List.mem_cons_of_mem _ hb)
    rw [List.map_cons] at h1 h2
    rw [h1, h2, h3]
    split
    · cases rmE lt same A (y :: B) <;> rfl
    · split
      · cases rmE lt same (x :: A) B <;> rfl
      · split
        · cases rmE lt same A B <;> rfl
        · rfl
termination_by A B => A.length + B.length
theorem rmE_mem {z : α} : ∀ (A B : List α) {r : List α}, rmE lt same A B = some r → z ∈ r → z ∈ A ∨ z ∈ B
  | [], B, r, h, hz => by rw [rmE] at h; obtain rfl := Option.some.inj h; exact .inr hz
  | x :: A, [], r, h, hz => by rw [rmE] at h; obtain rfl := Option.some.inj h; exact .inl hz
  | x :: A, y :: B, r, h, hz => by
    rw [rmE] at h
    split at h
    · obtain ⟨q, h1, rfl⟩ := Option.map_eq_some_iff.1 h
      rcases List.mem_cons.1 hz with rfl | hz
      · exact .inl List.mem_cons_self
      · rcases rmE_mem A (y :: B) h1 hz with h2 | h2
        · exact .inl (List.mem_cons_of_mem _ h2)
        · exact .inr h2
    · split at h
      · obtain ⟨q, h1, rfl⟩ := Option.map_eq_some_iff.1 h
        rcases List.mem_cons.1 hz with rfl | hz
        · exact .inr List.mem_cons_self
        · rcases rmE_mem (x :: A) B h1 hz with h2 | h2
          · exact .inl h2
          · exact .inr (List.mem_cons_of_mem _ h2)
      · split at h
        · obtain ⟨q, h1, rfl⟩ := Option.map_eq_some_iff.1 h
          rcases List.mem_cons.1 hz with rfl | hz
          · exact .inl List.mem_cons_self
          · rcases rmE_mem A B h1 hz with h2 | h2
            · exact .inl (List.mem_cons_of_mem _ h2)
            · exact .inr (List.mem_cons_of_mem _ h2)
        · cases h
termination_by A B => A.length + B.length
def prevE (d : α) (xs : List α) (i : Nat) : Option α := if i = 0 then none else some (xs.getD (i - 1) d)
def tieB (lt : α → α → Bool) (d : α) (xs : List α) (i : Nat) : Bool := decide (0 < i) && eqv lt (xs.getD (i - 1) d) (xs.getD i d)
theorem drop_getD {d : α} {xs : List α} {i : Nat} (hi : i < xs.length) : xs.drop i = xs.getD i d :: xs.drop (i + 1) := by
  rw [List.drop_eq_getElem_cons hi, List.getD_eq_getElem?_getD, List.getElem?_eq_getElem hi]; rfl
theorem prev_next {d : α} {xs : List α} {i : Nat} : prevE d xs (i + 1) = some (xs.getD i d) := by rw [prevE, if_neg (Nat.succ_ne_zero i)]; rfl
theorem pg_new {d : α} {xs : List α} {i : Nat} (hi : i < xs.length) (ht : tieB lt d xs i = false) : pgL lt same (prevE d xs i) (xs.drop i) = (pgL lt same (prevE d xs (i + 1)) (xs.drop (i + 1))).map (xs.getD i d :: ·) := by
  rw [drop_getD hi (d := d), prev_next]
  unfold prevE
  by_cases h : i = 0
  · rw [if_pos h]; rfl
  · rw [if_neg h, pgL]
    have : eqv lt (xs.getD (i - 1) d) (xs.getD i d) = false := by
      unfold tieB at ht
      rwa [decide_eq_true (by omega), Bool.true_and] at ht
    rw [this]; rfl
theorem pg_tie {d : α} {xs : List α} {i : Nat} (hi : i < xs.length) (ht : tieB lt d xs i = true) : pgL lt same (prevE d xs i) (xs.drop i) = if same (xs.getD (i - 1) d) (xs.getD i d) then pgL lt same (prevE d xs (i + 1)) (xs.drop (i + 1)) else none := by
  unfold tieB at ht
  rw [Bool.and_eq_true, decide_eq_true_eq] at ht
  rw [drop_getD hi (d := d), prev_next]
  unfold prevE
  rw [if_neg (by omega), pgL, ht.2]; rfl
theorem pg_end {d : α} {xs : List α} {i : Nat} {q : Option α} (hi : xs.length ≤ i) : pgL lt same q (xs.drop i) = some [] := by
  rw [List.drop_eq_nil_of_le hi]; cases q <;> rfl
theorem map_app {q : Option (List α)} {r : List α} {x : α} : (q.map (x :: ·)).map (r ++ ·) = q.map ((r ++ [x]) ++ ·) := by
  cases q with
  | none => rfl
  | some s => simp
end Go.Fs
namespace Go.Fs
variable {P : Program} {orc : FuncId → List Value → Heap → Option (Value × Heap)} {rnd : Option Nat} {h h' h0 h1 h2 : Heap} {S S' S0 B G : List Nat} {σ σ' σr : Sto} {t t' : Tr} {ms : List Nat} {fl : VL} {ops : Array Oper} {n i mem : Nat} {l : List Oper} {K : VL → Sto → Prop} {Q : Ex → VL → Sto → Prop}
  {d : Tmp} {ty : TypeId} {pos : String} {after : Array Edge} {op : Op} {v pv : PV} {g : Option (Nat × Bool)} {x y z : Operand} {T T' e : TypeId} {τ τ' : Ty} {w : Value}
theorem VC.capRow {c : Code} {xs : List τ.den} {k : Nat} (hk : xs.length = k) (hx : VC P orc rnd c n fl ((w, .row e τ xs) :: σ) Q) : VC P orc rnd c n fl ((w, .cap e k τ xs) :: σ) Q := fun h0 G S0 t h ms I => by
  refine hx h0 G S0 t h ms { I with cells := fun c hc => ?_, new := I.new, apart := I.apart, slots := I.slots }
  rcases List.mem_cons.1 hc with rfl | hc
  · obtain ⟨b, rs, h1, h2, h3, h4, h5, h6⟩ := I.cells _ List.mem_cons_self
    subst hk
    exact .inr ⟨b, rs, true, h1, h2, h3, by rwa [List.take_of_length_le (Nat.le_of_eq h4)] at h6⟩
  · exact I.cells c (List.mem_cons_of_mem _ hc)
theorem SlV.cellsOf {v : Value} {ys : List τ.den} (hv : SlV h S τ v ys) (hp : 0 < τ.size) : lenV v = some ys.length ∧ ∃ vs, Fs.cellsOf τ.size ys.length v h = some vs ∧ Elems h S τ vs ys := by
  rcases hv with ⟨rfl, rfl⟩ | ⟨b, o, mk, rfl, hv⟩
  · exact ⟨rfl, [], rfl, Elems.nil⟩
  · refine ⟨rfl, ?_⟩
    have e1 : Nat.ble ys.length ys.length = true := by rw [Nat.ble_eq]; exact Nat.le_refl _
    by_cases hz : ys.length = 0
    · obtain rfl := List.eq_nil_of_length_eq_zero hz
      refine ⟨[], ?_, Elems.nil⟩
      simp only [Fs.cellsOf, List.length_nil, Nat.zero_mul]; rfl
    · rcases hv with rfl | ⟨h1, e', rs, own, more, h2, h3, h4⟩
      · exact absurd rfl hz
      · have e2 : Nat.beq (ys.length * τ.size) 0 = false := beq_no (Nat.ne_of_gt (Nat.mul_pos (Nat.pos_of_ne_zero hz) hp))
        have e3 : Nat.ble (o + ys.length * τ.size) rs.length = true := by rw [Nat.ble_eq]; exact h3
        refine ⟨(rs.drop o).take (ys.length * τ.size), ?_, ?_, fun i hi => ?_⟩
        · simp only [Fs.cellsOf, e1, cond_true, e2, cond_false, h2, e3]
        · rw [List.length_take, List.length_drop]; omega
        · have h9 : (i + 1) * τ.size ≤ ys.length * τ.size := Nat.mul_le_mul_right _ hi
          rw [Nat.add_mul, Nat.one_mul] at h9
          have := h4 i hi
          rw [List.drop_take, List.take_take, List.drop_drop, Nat.min_eq_left (by omega)]
          exact this
theorem MakeV.copyO {xs ys : List τ.den} (hT : ElT P T e τ) (hl : ys.length = xs.length) (hx : evV fl x = some (.raw w)) (hy : evV fl y = some (.v (.sl τ) ys)) :
    MakeV P fl ((w, .row e τ xs) :: σ) (.call { callee := .builtin .copy, args := #[x, y], argTypes := #[T, T'] }) fun v σ' => v = .v (.int .i64) ((ys.length : Nat) : Int) ∧ σ' = (w, .row e τ ys) :: σ :=
  ⟨rfl, fun S0 h t L => by
    have h1 : evalO t x = w := evV_ok L.slots hx
    have hu := (evV_ok L.slots hy : RepV h _ (.sl τ) (evalO t y) ys).sl
    obtain ⟨i, z, hi1, hi2, hi3, hi3', hi4, hi5, hi6⟩ := hT.sl.info
    obtain ⟨c1, vs, c2, c3⟩ := hu.cellsOf hT.sl.pos
    have hmin : Nat.min ys.length xs.length = ys.length := Nat.min_eq_left (Nat.le_of_eq hl)
    have hvl : vs.length = ys.length * τ.size := c3.1
    have hvo : vs.all oneCell = true := Elems.allOne _ _ c3
    rcases L.cells _ List.mem_cons_self with ⟨hw, rfl⟩ | ⟨b, rs, m, h3, h4, h5, h6⟩
    · obtain rfl := List.eq_nil_of_length_eq_zero hl
      have hw' : w = .slice none 0 0 := hw
      obtain rfl := List.eq_nil_of_length_eq_zero (by rw [hvl]; simp : vs.length = 0)
      refine ⟨.int .i64 ((0 : Nat) : Int), h, .v (.int .i64) ((0 : Nat) : Int), _, ⟨rfl, rfl⟩, Made.same L (Aft.refl _ _), RepV.ofInt _ _, fun _ _ _ _ _ => ?_⟩
      show (fsCopy P #[T, T'] (evalO t x) (evalO t y) h) = _
      rw [h1, hw']
      have c1' : lenV (evalO t y) = some 0 := c1
      have c2' : Fs.cellsOf τ.size 0 (evalO t y) h = some [] := c2
      simp only [fsCopy, List.getElem?_toArray, List.getElem?_cons_zero, hT.sl.sl, hi1, c1', show lenV (.slice none 0 0) = some 0 from rfl, hi2, show Nat.min 0 0 = 0 from rfl, c2', List.length_nil, Nat.zero_mul]
      rfl
    · have hw : w = _ := h3
      have hbk : blk w = [b] := by rw [hw]; rfl
      have hrl := h6.1
      have hnew : Elems h (own ((w, Cell.row e τ xs) :: σ) ++ S0) τ vs ys := c3
      by_cases hz : ys.length = 0
      · obtain rfl := List.eq_nil_of_length_eq_zero hz
        obtain rfl := List.eq_nil_of_length_eq_zero (by rw [← hl]; rfl : xs.length = 0)
        refine ⟨.int .i64 ((0 : Nat) : Int), h, .v (.int .i64) ((0 : Nat) : Int), _, ⟨rfl, rfl⟩, Made.same L (Aft.refl _ _), RepV.ofInt _ _, fun _ _ _ _ _ => ?_⟩
        show (fsCopy P #[T, T'] (evalO t x) (evalO t y) h) = _
        rw [h1, hw]
        obtain rfl := List.eq_nil_of_length_eq_zero (by rw [hvl]; simp : vs.length = 0)
        have c1' : lenV (evalO t y) = some 0 := c1
        have c2' : Fs.cellsOf τ.size 0 (evalO t y) h = some [] := c2
        simp only [fsCopy, List.getElem?_toArray, List.getElem?_cons_zero, hT.sl.sl, hi1, c1', List.length_nil, show ∀ q m, lenV (.slice q 0 m) = some 0 from fun _ _ => rfl, hi2, show Nat.min 0 0 = 0 from rfl, c2', Nat.zero_mul]
        rfl
      · refine ⟨.int .i64 ((ys.length : Nat) : Int), h.set b (.row e vs true m), .v (.int .i64) ((ys.length : Nat) : Int), _, ⟨rfl, rfl⟩, Made.head L (Aft.set h5 (by rw [hbk]; simp)) (fun b hb => .inl hb) (by rw [hbk]; simp) fun hN => ?_, RepV.ofInt _ _, fun _ _ _ _ _ => ?_⟩
        · refine .inr ⟨b, _, m, by rw [hl]; exact h3, ?_, by rw [Heap.get_set h5, if_pos rfl], hnew.nx hN⟩
          rw [own_cons]; exact List.mem_append_left _ (List.mem_append_left _ (by rw [hbk]; simp))
        · show (fsCopy P #[T, T'] (evalO t x) (evalO t y) h) = _
          have e2 : Nat.beq (ys.length * τ.size) 0 = false := beq_no (Nat.ne_of_gt (Nat.mul_pos (Nat.pos_of_ne_zero hz) hT.sl.pos))
          have e3 : Nat.ble (0 + ys.length * τ.size) rs.length = true := by rw [Nat.ble_eq, hrl, hl]; omega
          have e4 : Nat.beq vs.length (ys.length * τ.size) = true := by rw [hvl]; exact Nat.beq_refl _
          have e5 : splice rs 0 vs = vs := splice_all (by rw [hvl, hrl, hl])
          rw [h1, hw]
          simp only [fsCopy, List.getElem?_toArray, List.getElem?_cons_zero, hT.sl.sl, hi1, c1, show ∀ q m, lenV (.slice q xs.length m) = some xs.length from fun _ _ => rfl, hi2]
          simp only [show Nat.min ys.length xs.length = ys.length from hmin, c2, e4, hvo, Bool.and_self, cond_true, e2, cond_false, h5, e3, e5]⟩
theorem VO.copy {xs ys : List τ.den} (hx : evV fl x = some (.raw w)) (hy : evV fl y = some (.v (.sl τ) ys)) (hT : ElT P T e τ) (hl : ys.length = xs.length) (hk : VO P orc ops n l ((d, .v (.int .i64) ((ys.length : Nat) : Int)) :: fl) ((w, .row e τ ys) :: σ) K) (hw : wantV ops fl g = some true := by rfl) (hn : (Nat.blt d n && Nat.ble n 4000) = true := by rfl) :
    VO P orc ops n (⟨some d, .call { callee := .builtin .copy, args := #[x, y], argTypes := #[T, T'] }, ty, pos, after, g⟩ :: l) fl ((w, .row e τ xs) :: σ) K :=
  VO.mk (MakeV.copyO hT hl hx hy) (by rintro _ _ ⟨rfl, rfl⟩; exact hk) hw hn
end Go.Fs
namespace Go.Fs
variable {P : Program} {orc : FuncId → List Value → Heap → Option (Value × Heap)} {rnd : Option Nat} {h h' h0 h1 h2 : Heap} {S S' S0 B G : List Nat} {σ σ' σr : Sto} {t t' : Tr} {ms : List Nat} {fl : VL} {ops : Array Oper} {n i mem : Nat} {l : List Oper} {K : VL → Sto → Prop} {Q : Ex → VL → Sto → Prop}
  {d : Tmp} {ty : TypeId} {pos : String} {after : Array Edge} {op : Op} {v pv : PV} {g : Option (Nat × Bool)} {x y z : Operand} {T T' e : TypeId} {τ τ' : Ty} {w : Value}
inductive SetP : (τ : Ty) → τ.den → Nat → (τ' : Ty) → τ'.den → τ.den → Prop where
  | o {τ : Ty} {x y : τ.den} : SetP τ x 0 τ y y
  | l {a b : Ty} {x : (Ty.pair a b).den} {k : Nat} {τ' : Ty} {y : τ'.den} {z : a.den} (hs : SetP a x.1 k τ' y z) : SetP (.pair a b) x k τ' y (z, x.2)
  | r {a b : Ty} {x : (Ty.pair a b).den} {k k' : Nat} {τ' : Ty} {y : τ'.den} {z : b.den} (hs : SetP b x.2 k τ' y z) (hk : k' = a.size + k := by rfl) : SetP (.pair a b) x k' τ' y (x.1, z)
theorem splice_len {rs us : List Value} {a : Nat} (h : a + us.length ≤ rs.length) : (splice rs a us).length = rs.length := by
  unfold splice
  rw [List.length_append, List.length_append, List.length_take, List.length_drop]; omega
theorem SetP.fits {τ τ' : Ty} {x z : τ.den} {y : τ'.den} {k : Nat} (hs : SetP τ x k τ' y z) : k + τ'.size ≤ τ.size := by
  induction hs with
  | o => omega
  | @l a b x k τ' y z hs ih => show _ ≤ a.size + b.size; omega
  | @r a b x k k' τ' y z hs hk ih => show _ ≤ a.size + b.size; omega
theorem SetP.repC {τ τ' : Ty} {x z : τ.den} {y : τ'.den} {k : Nat} (hs : SetP τ x k τ' y z) : ∀ {cs us : List Value}, RepC h S τ cs x → RepC h S τ' us y → RepC h S τ (splice cs k us) z := by
  induction hs with
  | o =>
    intro cs us hx hy
    rw [splice_all (by rw [hx.len, hy.len])]; exact hy
  | @l a b x k τ' y z hs ih =>
    intro cs us hx hy
    have hf := hs.fits
    have hyl := hy.len
    have hal := hx.1.len
    rw [List.length_take] at hal
    have h1 := ih hx.1 hy
    have h1l := h1.len
    have e : splice cs k us = splice (cs.take a.size) k us ++ cs.drop a.size := by
      unfold splice
      rw [List.take_take, Nat.min_eq_left (by omega)]
      simp only [List.append_assoc]
      have := List.take_append_drop (a.size - (k + us.length)) (cs.drop (k + us.length))
      rw [List.drop_drop, show k + us.length + (a.size - (k + us.length)) = a.size by omega] at this
      rw [List.drop_take, this]
    rw [e]
    exact ⟨by rw [List.take_left' h1l]; exact h1, by rw [List.drop_left' h1l]; exact hx.2⟩
  | @r a b x k k' τ' y z hs hk ih =>
    intro cs us hx hy
    subst hk
    have hf := hs.fits
    have hyl := hy.len
    have hal := hx.1.len
    rw [List.length_take] at hal
    have h1 := ih hx.2 hy
    have e : splice cs (a.size + k) us = cs.take a.size ++ splice (cs.drop a.size) k us := by
      unfold splice
      rw [List.take_add, List.drop_drop, List.append_assoc, List.append_assoc, List.append_assoc, Nat.add_assoc]
    have hl : (cs.take a.size).length = a.size := by rw [List.length_take]; omega
    rw [e]
    exact ⟨by rw [List.take_left' hl]; exact hx.1, by rw [List.drop_left' hl]; exact h1⟩
theorem splice_in {rs us : List Value} {a k s : Nat} (h1 : k + us.length ≤ s) (h2 : a + s ≤ rs.length) : splice rs (a + k) us = splice rs a (splice ((rs.drop a).take s) k us) := by
  have hl : ((rs.drop a).take s).length = s := by rw [List.length_take, List.length_drop]; omega
  have hl2 : (splice ((rs.drop a).take s) k us).length = s := by rw [splice_len (by omega), hl]
  conv => rhs; unfold splice
  rw [show (((rs.drop a).take s).take k ++ us ++ ((rs.drop a).take s).drop (k + us.length)).length = s from hl2]
  unfold splice
  rw [List.take_take, Nat.min_eq_left (by omega), List.take_add, List.drop_take, List.drop_drop]
  have := List.take_append_drop (s - (k + us.length)) (rs.drop (a + (k + us.length)))
  rw [List.drop_drop, show a + (k + us.length) + (s - (k + us.length)) = a + s by omega] at this
  simp only [List.append_assoc]
  rw [this, Nat.add_assoc]
def cellAt (τ : Ty) (rs : List Value) (o : Nat) : Value := if τ.agg then .agg ((rs.drop o).take τ.size).toArray else rs.getD o undef
theorem load_at {own more : Bool} {rs : List Value} {b o : Nat} {y : τ.den} (hT : ValT P T τ) (hg : h.get b = some (.row e rs own more)) (hb : o + τ.size ≤ rs.length) (hr : RepC h S τ ((rs.drop o).take τ.size) y) : fsLoad P T (.pointer (some ⟨b, o, none⟩)) h = some (cellAt τ rs o) ∧ RepV h S τ (cellAt τ rs o) y := by
  obtain ⟨i, hi, hs⟩ := hT.info
  obtain ⟨d, hd, ha⟩ := hT.agg
  simp only [fsLoad, cellAt, hg, hd, hi, ha, hs]
  cases hb2 : τ.agg with
  | true =>
    simp only [if_true, hb]
    refine ⟨trivial, by simpa [isAggV] using hb2.symm, by simpa [Value.cells] using hr⟩
  | false =>
    have h1 := Ty.size_one hb2
    rw [h1] at hb hr
    have ho : o < rs.length := by omega
    rw [take_one ho] at hr
    obtain ⟨u, hu, hv⟩ := hr.one hb2
    simp only [List.cons.injEq, and_true] at hu
    simp only [Bool.false_eq_true, if_false, List.getD_eq_getElem?_getD, List.getElem?_eq_getElem ho, Option.getD_some]
    exact ⟨trivial, by rw [hu]; exact hv⟩
theorem CalmV.faE {s : TypeId} {f k j : Nat} {xs : List τ.den} (hm : (w, Cell.row e τ xs) ∈ σ) (hj : j < xs.length) (hb : offB P s f k = true := by kernel_rfl) (hx : evV fl x = some (.raw (ptrAt w τ.size j)) := by rfl) : CalmV P fl σ (.fieldAddr s x f) (.raw (padd (ptrAt w τ.size j) k)) :=
  ⟨rfl, fun h S t hs hc => by
    have h1 : evalO t x = ptrAt w τ.size j := hs x (by simp [Op.operands]) _ hx
    refine ⟨_, rfl, fun _ _ _ _ _ H => ?_⟩
    rcases hc _ hm with ⟨_, rfl⟩ | ⟨b, rs, m, h3, h4, h5, h6⟩
    · simp at hj
    · have hw : w = _ := h3
      have hjs : (j + 1) * τ.size ≤ xs.length * τ.size := Nat.mul_le_mul_right _ hj
      rw [Nat.add_mul, Nat.one_mul] at hjs
      have hrl := h6.1
      have hp : RepP h [] .unit (ptrAt w τ.size j) () := ⟨b, 0 + j * τ.size, e, rs, true, m, by rw [hw]; rfl, by simp, h5, by show 0 + j * τ.size + 0 ≤ _; omega, by simp [RepC, Ty.size]⟩
      show (runPure P (Instr.fieldAt s (evalO t x) f)).map _ = _
      rw [h1, hp.fa hb]; rfl⟩
theorem ReadV.ldE {j k : Nat} {xs : List τ.den} {dy : τ'.den} (hj : j < xs.length) (hs : Sub τ xs[j] k τ' dy) (hx : evV fl x = some (.raw (padd (ptrAt w τ.size j) k))) (hm : (w, Cell.row e τ xs) ∈ σ) (hT : ValT P T τ') : ReadV P fl σ (.load T x) (.v τ' dy) :=
  ⟨rfl, fun h S t hsl hc => by
    have h1 : evalO t x = padd (ptrAt w τ.size j) k := hsl x (by simp [Op.operands]) _ hx
    rcases hc _ hm with ⟨_, rfl⟩ | ⟨b, rs, m, h3, h4, h5, h6⟩
    · simp at hj
    · have hw : w = _ := h3
      obtain ⟨q1, q2⟩ := hs.repC (h6.2 j hj)
      have hjs : (j + 1) * τ.size ≤ xs.length * τ.size := Nat.mul_le_mul_right _ hj
      rw [Nat.add_mul, Nat.one_mul] at hjs
      have hrl := h6.1
      rw [List.length_take, List.length_drop] at q1
      rw [List.drop_take, List.take_take, List.drop_drop, Nat.min_eq_left (by omega)] at q2
      refine ⟨cellAt τ' rs (j * τ.size + k), (load_at hT h5 (by omega) q2).2, fun H hH _ _ _ _ _ => ?_⟩
      have q3 : RepC H S τ' ((rs.drop (j * τ.size + k)).take τ'.size) dy := q2.nx fun b o hg hb => ⟨hH b o hg, hb⟩
      show (fsLoad P T (evalO t x) H).map _ = _
      rw [h1, hw]
      show (fsLoad P T (.pointer (some ⟨b, 0 + j * τ.size + k, none⟩)) H).map _ = _
      rw [Nat.zero_add, (load_at hT (hH b _ h5) (by omega) q3).1]; rfl⟩
theorem MakeV.setEF {xs : List τ.den} {dy : τ'.den} {dz : τ.den} {j k : Nat} (hj : j < xs.length) (hT : ValT P T τ') (hs : SetP τ xs[j] k τ' dy dz) (hx : evV fl x = some (.raw (padd (ptrAt w τ.size j) k))) (hy : evV fl y = some (.v τ' dy)) :
    MakeV P fl ((w, .row e τ xs) :: σ) (.store T x y) fun v σ' => v = .raw undef ∧ σ' = (w, .row e τ (xs.set j dz)) :: σ :=
  ⟨rfl, fun S0 h t L => by
    have h1 : evalO t x = padd (ptrAt w τ.size j) k := evV_ok L.slots hx
    have hu := (evV_ok L.slots hy : RepV h _ τ' (evalO t y) dy)
    rcases L.cells _ List.mem_cons_self with ⟨_, rfl⟩ | ⟨b, rs, m, h3, h4, h5, h6⟩
    · simp at hj
    have hw : w = _ := h3
    have hjs : (j + 1) * τ.size ≤ xs.length * τ.size := Nat.mul_le_mul_right _ hj
    rw [Nat.add_mul, Nat.one_mul] at hjs
    have hrl := h6.1
    obtain ⟨i, hi, hsz⟩ := hT.info
    have hul : (evalO t y).cells.toList.length = τ'.size := hu.2.len
    have hbk : blk w = [b] := by rw [hw]; rfl
    have hf := hs.fits
    have hnew := elems_set h6 hj (hs.repC (h6.2 j hj) hu.2)
    rw [← splice_in (by omega) (by omega)] at hnew
    refine ⟨undef, h.set b (.row e (splice rs (j * τ.size + k) (evalO t y).cells.toList) true m), .raw undef, _, ⟨rfl, rfl⟩, Made.head L (Aft.set h5 (by rw [hbk]; simp)) (fun b hb => .inl hb) (by rw [hbk]; simp) fun hN => ?_, rfl, fun _ _ _ _ _ => ?_⟩
    · refine .inr ⟨b, _, m, by rw [List.length_set]; exact h3, ?_, by rw [Heap.get_set h5, if_pos rfl], hnew.nx hN⟩
      rw [own_cons]; exact List.mem_append_left _ (List.mem_append_left _ (by rw [hbk]; simp))
    · show (fsStore P T (evalO t x) (evalO t y) h).map _ = _
      have : fsStore P T (evalO t x) (evalO t y) h = some (h.set b (.row e (splice rs (j * τ.size + k) (evalO t y).cells.toList) true m)) := by
        rw [h1, hw]
        simp only [fsStore, ptrAt, padd, h5, hi, hsz, hul, hu.2.allOne, Nat.zero_add]
        rw [if_pos ⟨trivial, by omega, trivial⟩]
      rw [this]; rfl⟩
theorem VO.setEF {xs : List τ.den} {dy : τ'.den} {dz : τ.den} {j k : Nat} (hj : j < xs.length) (hT : ValT P T τ') (hs : SetP τ xs[j] k τ' dy dz) (hk : VO P orc ops n l fl ((w, .row e τ (xs.set j dz)) :: σ) K) (hx : evV fl x = some (.raw (padd (ptrAt w τ.size j) k)) := by rfl) (hy : evV fl y = some (.v τ' dy) := by rfl) (hw : wantV ops fl g = some true := by rfl) :
    VO P orc ops n (⟨none, .store T x y, ty, pos, after, g⟩ :: l) fl ((w, .row e τ xs) :: σ) K :=
  VO.mk0 (MakeV.setEF hj hT hs hx hy) (by rintro _ _ ⟨rfl, rfl⟩; exact hk) hw
end Go.Fs
namespace Go.Proofs
open Go.Fs Ieee
set_option linter.unusedVariables false
abbrev y263 : Ty := (.sl (.sl (.pair (.pair (.int .i64) (.pair .str (.pair (.int .i64) (.pair (.int .i64) (.sl (.flt .f32)))))) (.int .i64))))
theorem vt229 : ValT Tryz.prog 229 y229 := valT_of (by kernel_rfl)
theorem el263 : ElT Tryz.prog 263 229 y229 := elT_of (by kernel_rfl)
theorem zt127 : ZerT Tryz.prog 127 (.flt .f32) := zerT_of (z := .float .f32 0) (by kernel_rfl) rfl rfl
/-! ## Merging, by the program -/
theorem cmpI_zero {a b : Int} : cmpI a b = 0 ↔ a = b := by
  unfold cmpI
  constructor
  · intro h
    split at h
    · cases h
    · split at h
      · cases h
      · omega
  · rintro rfl; simp
theorem cmpP_eqv {a b : Pc × Int} : cmpP a b = 0 ↔ eqv ltP a b = true := by
  have e3 : 0 ≤ firstE [] := by decide
  have h1 : cmpP a b = 0 ↔ a.1.1 = b.1.1 ∧ a.2 = b.2 ∧ a.1.2.2.1 = b.1.2.2.1 ∧ a.1.2.2.2.1 = b.1.2.2.2.1 := by
    unfold cmpP
    rw [firstE_zero]
    simp [cmpI_zero]
  rw [h1, eqv_iff]
  unfold ltP cmpP
  simp only [decide_eq_false_iff_not, Int.not_lt, cmpF, e3, and_true]
  omega
def smP (x y : Pc × Int) : Bool := sameLv x.1.2.2.2.2 y.1.2.2.2.2
def allP (d : Dom) (a b : List Pc) : List (Pc × Int) := sortS ltP (a.map (plE d) ++ b.map (plE d))
def mrgB (d : Dom) (a b : List Pc) : Int := firstE [storeE d a, storeE d b]
def mrgQ (o : Option (List Pc)) : List Pc × Int := match o with
  | none => ([], 30)
  | some r => if (4096 : Int) < r.length then ([], 5) else (r, 0)
def mrgV (d : Dom) (a b : List Pc) : List Pc × Int := if mrgB d a b ≠ 0 then ([], mrgB d a b) else mrgQ ((pgL ltP smP none (allP d a b)).map (List.map (·.1)))
theorem zGrowP_ok {n : Nat} (h0 : 0 < n) (h1 : n ≤ 1000000) : VFG Tryz.prog OA 176 [nilV, I ((n : Nat) : Int)] [] (fun r g => ∃ w, r = .raw w ∧ g = [(w, .cap 232 n y232 [])]) := by
  refine VFG.enter Tryz.func176 rfl (fun _ _ => rfl) rfl ?_
  show VC _ _ _ _ _ [(0, nilV), (1, I ((n : Nat) : Int))] [] _
  refine VC.seq ?_
  refine VC.text ?_
  refine VO.c (.assign rfl) ?_
  refine VO.go ?_
  refine VC.seq ?_
  refine VC.seq ?_
  refine VC.text ?_
  refine VO.c (.move rfl) ?_
  refine VO.c (.lss) ?_
  refine VO.go ?_
  refine VC.condD rfl (fun c1 => ?_) (fun c1 => ?_)
  · exact absurd c1 (by omega)
  · refine VC.skip ?_
    show VC _ _ _ _ _ _ _ _
    refine VC.seq ?_
    refine VC.seq ?_
    refine VC.text ?_
    refine VO.c (.move rfl) ?_
    refine VO.c (.move rfl) ?_
    refine VO.r (.cap0 el229) ?_
    refine VO.c (.move rfl) ?_
    refine VO.r (.len0 el229) ?_
    refine VO.c (.sub rfl rfl (by decide)) ?_
    refine VO.c (.sub rfl rfl (by omega)) ?_
    refine VO.c (.assign rfl) ?_
    refine VO.go ?_
    refine VC.seq ?_
    refine VC.text ?_
    refine VO.c (.move rfl) ?_
    refine VO.c (.gtr) ?_
    refine VO.go ?_
    refine VC.condD rfl (fun c4 => ?_) (fun c4 => ?_)
    · refine VC.text ?_
      refine VO.c (.move rfl) ?_
      refine VO.c (.move rfl) ?_
      refine VO.r (.cap0 el229) ?_
      refine VO.r (.nil0 el229 rfl rfl) ?_
      refine VO.c (.move rfl) ?_
      refine VO.grow (k := n) rfl (congrArg (fun z : Int => some (PV.v (.int .i64) z)) (show (((n : Nat) : Int) - (((0 : Nat) : Int) - ((0 : Nat) : Int))) = ((n : Nat) : Int) by omega)) el229 (by kernel_rfl) (by omega) (by omega) ?_
      intro bb1
      refine VO.c (.move rfl) ?_
      refine VO.r (.len0 el229) ?_
      refine VO.r (.cut0 el229 rfl rfl) ?_
      refine VO.c (.assign rfl) ?_
      refine VO.go ?_
      refine VC.seq ?_
      refine VC.text ?_
      refine VO.c (.move rfl) ?_
      refine VO.c (.assign rfl) ?_
      refine VO.go ?_
      refine VC.ret ?_
      exact VEndG.cap rfl evT m0 ⟨(.slice (some ⟨bb1, 0, none⟩) 0 0), rfl, (by rfl)⟩
    · exact absurd (by omega) c4
theorem zConcatP1_ok {l : List (List ((Int × ByteArray × Int × Int × (List Nat)) × Int))} (hl : l.length < 100000) (h0 : 0 < l.flatten.length) (h1 : l.flatten.length ≤ 1000000) : VFG Tryz.prog OA 145 [.v y263 l] [] (fun r g => ∃ w, r = .raw w ∧ g = [(w, .row 232 y232 l.flatten)]) := by
  refine VFG.enter Tryz.func145 rfl (fun _ _ => rfl) rfl ?_
  show VC _ _ _ _ _ [(0, .v y263 l)] [] _
  refine VC.seq ?_
  refine VC.text ?_
  refine VO.c (.assign rfl) ?_
  refine VO.go ?_
  refine VC.seq ?_
  refine VC.text ?_
  refine VO.c (.assign rfl) ?_
  refine VO.go ?_
  refine VC.seq ?_
  refine VC.seq ?_
  refine VC.text ?_
  refine VO.c (.move rfl) ?_
  refine VO.r (.len el263) ?_
  refine VO.c (.move rfl) ?_
  refine VO.go ?_
  refine VC.block ?_
  refine VC.keep [(0, .v y263 l), (3, I (((l.take 0).flatten.length : Nat) : Int)), (9, .v y263 l), (10, I ((l.length : Nat) : Int)), (11, I ((0 : Nat) : Int))] ⟨rfl, slI rfl (by rfl), rfl, rfl, rfl, trivial⟩ ?_
  refine VC.loop (I := fun kk ff ss => ∃ (j : Nat), kk = l.length - j ∧ ff = [(0, .v y263 l), (3, I (((l.take j).flatten.length : Nat) : Int)), (9, .v y263 l), (10, I ((l.length : Nat) : Int)), (11, I ((j : Nat) : Int))] ∧ ss = [] ∧ (j ≤ l.length)) ?_ _ _ _ ⟨0, rfl, rfl, rfl, Nat.zero_le _⟩
  rintro kk ff ss ⟨j, hk0, rfl, rfl, hj⟩
  refine VC.seq ?_
  refine VC.text ?_
  refine VO.c (.lss) ?_
  refine VO.go ?_
  refine VC.seq ?_
  refine VC.condD rfl (fun c3 => ?_) (fun c3 => ?_)
  · refine VC.skip ?_
    show VC _ _ _ _ _ _ _ _
    refine VC.seq ?_
    refine VC.block ?_
    refine VC.seq ?_
    refine VC.text ?_
    refine VO.c (.ix (j := j) rfl rfl el263 (by omega)) ?_
    refine VO.r (.ld vt229) ?_
    refine VO.c (.assign rfl) ?_
    refine VO.go ?_
    refine VC.seq ?_
    refine VC.text ?_
    have hs := flat_le (l := l) (j + 1)
    rw [flat_succ (by omega), List.length_append] at hs
    refine VO.c (.move rfl) ?_
    refine VO.c (.move rfl) ?_
    refine VO.r (.len el229) ?_
    refine VO.c (.add rfl rfl (by omega)) ?_
    refine VO.c (.assign rfl) ?_
    refine VO.go ?_
    refine VC.seq ?_
    refine VC.text ?_
    refine VO.c (.move rfl) ?_
    refine VO.c (.lss) ?_
    refine VO.go ?_
    refine VC.condD rfl (fun c6 => ?_) (fun c6 => ?_)
    · exact absurd c6 (by omega)
    · refine VC.skip ?_
      show VC _ _ _ _ _ _ _ _
      refine VC.text ?_
      refine VO.c (.add rfl rfl (by omega)) ?_
      refine VO.c (.move rfl) ?_
      refine VO.nil ?_
      refine ⟨_, [(0, .v y263 l), (3, I (((l.take (j + 1)).flatten.length : Nat) : Int)), (9, .v y263 l), (10, I ((l.length : Nat) : Int)), (11, I (((j + 1) : Nat) : Int))], ?_, ⟨rfl, slI rfl (by rw [flat_succ (by omega), List.length_append] <;> rfl), rfl, rfl, rfl, trivial⟩, (j + 1), rfl, rfl, rfl, (by omega)⟩
      omega
  · refine VC.exit ?_
    show VC _ _ _ _ _ _ _ _
    refine VC.seq ?_
    refine VC.text ?_
    have hjl : l.take j = l := List.take_of_length_le (by omega)
    refine VO.c (.move rfl) ?_
    refine VO.callG [] rfl rfl rfl (VFG.call (zGrowP_ok (by rw [hjl]; exact h0) (by rw [hjl]; exact h1))) ?_
    rintro _ _ ⟨ww2, rfl, rfl⟩
    show VO _ _ _ _ _ _ [(ww2, .cap 232 ((l.take j).flatten.length) y232 [])] _
    refine VO.c (.assign rfl) ?_
    refine VO.go ?_
    refine VC.seq ?_
    refine VC.seq ?_
    refine VC.text ?_
    refine VO.c (.move rfl) ?_
    refine VO.r (.len el263) ?_
    refine VO.c (.move rfl) ?_
    refine VO.go ?_
    refine VC.block ?_
    refine VC.keep [(6, .raw ww2), (25, .v y263 l), (26, I ((l.length : Nat) : Int)), (27, I ((0 : Nat) : Int))] ⟨rfl, rfl, rfl, rfl, trivial⟩ ?_
    refine VC.loop (I := fun kk ff ss => ∃ (i : Nat) (out : Value), kk = l.length - i ∧ ff = [(6, .raw out), (25, .v y263 l), (26, I ((l.length : Nat) : Int)), (27, I ((i : Nat) : Int))] ∧ ss = [(out, .cap 232 ((l.take j).flatten.length) y232 ((l.take i).flatten))] ∧ (i ≤ l.length)) ?_ _ _ _ ⟨0, ww2, rfl, rfl, rfl, Nat.zero_le _⟩
    rintro kk ff ss ⟨i, out, hk2, rfl, rfl, hi⟩
    refine VC.seq ?_
    refine VC.text ?_
    refine VO.c (.lss) ?_
    refine VO.go ?_
    refine VC.seq ?_
    refine VC.condD rfl (fun c11 => ?_) (fun c11 => ?_)
    · refine VC.skip ?_
      show VC _ _ _ _ _ _ _ _
      refine VC.seq ?_
      refine VC.block ?_
      refine VC.seq ?_
      refine VC.text ?_
      refine VO.c (.ix (j := i) rfl rfl el263 (by omega)) ?_
      refine VO.r (.ld vt229) ?_
      refine VO.c (.assign rfl) ?_
      refine VO.go ?_
      refine VC.text ?_
      have hs := flat_le (l := l) (i + 1)
      rw [flat_succ (by omega), List.length_append] at hs
      refine VO.c (.move rfl) ?_
      refine VO.c (.move rfl) ?_
      refine VO.appC rfl rfl el229 el229 (by rw [hjl]; exact hs) (by rw [hjl]; exact h1) ?_
      intro ww3
      refine VO.c (.assign rfl) ?_
      refine VO.nil ?_
      show VC _ _ _ _ _ _ _ _
      refine VC.text ?_
      refine VO.c (.add rfl rfl (by omega)) ?_
      refine VO.c (.move rfl) ?_
      refine VO.nil ?_
      refine ⟨_, [(6, .raw ww3), (25, .v y263 l), (26, I ((l.length : Nat) : Int)), (27, I (((i + 1) : Nat) : Int))], ?_, ⟨rfl, rfl, rfl, rfl, trivial⟩, (i + 1), ww3, rfl, rfl, (by rw [flat_succ (by omega)] <;> rfl), (by omega)⟩
      omega
    · refine VC.exit ?_
      show VC _ _ _ _ _ _ _ _
      refine VC.seq ?_
      refine VC.capRow (by rw [hjl, List.take_of_length_le (by omega)]) ?_
      refine VC.text ?_
      refine VO.c (.move rfl) ?_
      refine VO.c (.assign rfl) ?_
      refine VO.go ?_
      refine VC.ret ?_
      exact VEndG.row rfl evT ⟨out, rfl, (by rw [List.take_of_length_le (by omega)])⟩
theorem zGrowP0_ok {n : Nat} (h0 : n = 0) : VF Tryz.prog OA 176 [nilV, I ((n : Nat) : Int)] (nilV) := by
  refine VF.enter Tryz.func176 rfl (fun _ _ => rfl) rfl ?_
  show VC _ _ _ _ _ [(0, nilV), (1, I ((n : Nat) : Int))] [] _
  refine VC.seq ?_
  refine VC.text ?_
  refine VO.c (.assign rfl) ?_
  refine VO.go ?_
  refine VC.seq ?_
  refine VC.seq ?_
  refine VC.text ?_
  refine VO.c (.move rfl) ?_
  refine VO.c (.lss) ?_
  refine VO.go ?_
  refine VC.condD rfl (fun c1 => ?_) (fun c1 => ?_)
  · exact absurd c1 (by omega)
  · refine VC.skip ?_
    show VC _ _ _ _ _ _ _ _
    refine VC.seq ?_
    refine VC.seq ?_
    refine VC.text ?_
    refine VO.c (.move rfl) ?_
    refine VO.c (.move rfl) ?_
    refine VO.r (.cap0 el229) ?_
    refine VO.c (.move rfl) ?_
    refine VO.r (.len0 el229) ?_
    refine VO.c (.sub rfl rfl (by decide)) ?_
    refine VO.c (.sub rfl rfl (by omega)) ?_
    refine VO.c (.assign rfl) ?_
    refine VO.go ?_
    refine VC.seq ?_
    refine VC.text ?_
    refine VO.c (.move rfl) ?_
    refine VO.c (.gtr) ?_
    refine VO.go ?_
    refine VC.condD rfl (fun c4 => ?_) (fun c4 => ?_)
    · exact absurd c4 (by omega)
    · refine VC.skip ?_
      show VC _ _ _ _ _ _ _ _
      refine VC.seq ?_
      refine VC.text ?_
      refine VO.c (.move rfl) ?_
      refine VO.c (.assign rfl) ?_
      refine VO.go ?_
      refine VC.ret ?_
      exact VEnd.one rfl evT rfl
theorem zConcatP0_ok {l : List (List ((Int × ByteArray × Int × Int × (List Nat)) × Int))} (hl : l.length < 100000) (h0 : l.flatten.length = 0) : VFG Tryz.prog OA 145 [.v y263 l] [] (fun r g => ∃ w, r = .raw w ∧ g = [(w, .row 232 y232 l.flatten)]) := by
  refine VFG.enter Tryz.func145 rfl (fun _ _ => rfl) rfl ?_
  show VC _ _ _ _ _ [(0, .v y263 l)] [] _
  refine VC.seq ?_
  refine VC.text ?_
  refine VO.c (.assign rfl) ?_
  refine VO.go ?_
  refine VC.seq ?_
  refine VC.text ?_
  refine VO.c (.assign rfl) ?_
  refine VO.go ?_
  refine VC.seq ?_
  refine VC.seq ?_
  refine VC.text ?_
  refine VO.c (.move rfl) ?_
  refine VO.r (.len el263) ?_
  refine VO.c (.move rfl) ?_
  refine VO.go ?_
  refine VC.block ?_
  refine VC.keep [(0, .v y263 l), (3, I (((l.take 0).flatten.length : Nat) : Int)), (9, .v y263 l), (10, I ((l.length : Nat) : Int)), (11, I ((0 : Nat) : Int))] ⟨rfl, slI rfl (by rfl), rfl, rfl, rfl, trivial⟩ ?_
  refine VC.loop (I := fun kk ff ss => ∃ (j : Nat), kk = l.length - j ∧ ff = [(0, .v y263 l), (3, I (((l.take j).flatten.length : Nat) : Int)), (9, .v y263 l), (10, I ((l.length : Nat) : Int)), (11, I ((j : Nat) : Int))] ∧ ss = [] ∧ (j ≤ l.length)) ?_ _ _ _ ⟨0, rfl, rfl, rfl, Nat.zero_le _⟩
  rintro kk ff ss ⟨j, hk0, rfl, rfl, hj⟩
  refine VC.seq ?_
  refine VC.text ?_
  refine VO.c (.lss) ?_
  refine VO.go ?_
  refine VC.seq ?_
  refine VC.condD rfl (fun c3 => ?_) (fun c3 => ?_)
  · refine VC.skip ?_
    show VC _ _ _ _ _ _ _ _
    refine VC.seq ?_
    refine VC.block ?_
    refine VC.seq ?_
    refine VC.text ?_
    refine VO.c (.ix (j := j) rfl rfl el263 (by omega)) ?_
    refine VO.r (.ld vt229) ?_
    refine VO.c (.assign rfl) ?_
    refine VO.go ?_
    refine VC.seq ?_
    refine VC.text ?_
    have hs := flat_le (l := l) (j + 1)
    rw [flat_succ (by omega), List.length_append] at hs
    refine VO.c (.move rfl) ?_
    refine VO.c (.move rfl) ?_
    refine VO.r (.len el229) ?_
    refine VO.c (.add rfl rfl (by omega)) ?_
    refine VO.c (.assign rfl) ?_
    refine VO.go ?_
    refine VC.seq ?_
    refine VC.text ?_
    refine VO.c (.move rfl) ?_
    refine VO.c (.lss) ?_
    refine VO.go ?_
    refine VC.condD rfl (fun c6 => ?_) (fun c6 => ?_)
    · exact absurd c6 (by omega)
    · refine VC.skip ?_
      show VC _ _ _ _ _ _ _ _
      refine VC.text ?_
      refine VO.c (.add rfl rfl (by omega)) ?_
      refine VO.c (.move rfl) ?_
      refine VO.nil ?_
      refine ⟨_, [(0, .v y263 l), (3, I (((l.take (j + 1)).flatten.length : Nat) : Int)), (9, .v y263 l), (10, I ((l.length : Nat) : Int)), (11, I (((j + 1) : Nat) : Int))], ?_, ⟨rfl, slI rfl (by rw [flat_succ (by omega), List.length_append] <;> rfl), rfl, rfl, rfl, trivial⟩, (j + 1), rfl, rfl, rfl, (by omega)⟩
      omega
  · refine VC.exit ?_
    show VC _ _ _ _ _ _ _ _
    refine VC.seq ?_
    refine VC.text ?_
    have hjl : l.take j = l := List.take_of_length_le (by omega)
    refine VO.c (.move rfl) ?_
    refine VO.call rfl rfl (VF.call (zGrowP0_ok (by rw [hjl]; exact h0))) ?_
    refine VO.c (.assign rfl) ?_
    refine VO.go ?_
    refine VC.seq ?_
    refine VC.seq ?_
    refine VC.text ?_
    refine VO.c (.move rfl) ?_
    refine VO.r (.len el263) ?_
    refine VO.c (.move rfl) ?_
    refine VO.go ?_
    refine VC.block ?_
    refine VC.cell0 232 y232 ?_
    refine VC.keep [(6, .raw (.slice none 0 0)), (25, .v y263 l), (26, I ((l.length : Nat) : Int)), (27, I ((0 : Nat) : Int))] ⟨rfl, rfl, rfl, rfl, trivial⟩ ?_
    refine VC.loop (I := fun kk ff ss => ∃ (i : Nat) (out : Value), kk = l.length - i ∧ ff = [(6, .raw out), (25, .v y263 l), (26, I ((l.length : Nat) : Int)), (27, I ((i : Nat) : Int))] ∧ ss = [(out, .row 232 y232 ((l.take i).flatten))] ∧ (i ≤ l.length)) ?_ _ _ _ ⟨0, (.slice none 0 0), rfl, rfl, rfl, Nat.zero_le _⟩
    rintro kk ff ss ⟨i, out, hk2, rfl, rfl, hi⟩
    refine VC.seq ?_
    refine VC.text ?_
    refine VO.c (.lss) ?_
    refine VO.go ?_
    refine VC.seq ?_
    refine VC.condD rfl (fun c11 => ?_) (fun c11 => ?_)
    · refine VC.skip ?_
      show VC _ _ _ _ _ _ _ _
      refine VC.seq ?_
      refine VC.block ?_
      refine VC.seq ?_
      refine VC.text ?_
      refine VO.c (.ix (j := i) rfl rfl el263 (by omega)) ?_
      refine VO.r (.ld vt229) ?_
      refine VO.c (.assign rfl) ?_
      refine VO.go ?_
      refine VC.text ?_
      have hs := flat_le (l := l) (i + 1)
      rw [flat_succ (by omega), List.length_append] at hs
      refine VO.c (.move rfl) ?_
      refine VO.c (.move rfl) ?_
      refine VO.app rfl rfl el229 el229 (by omega) ?_
      intro ww4
      refine VO.c (.assign rfl) ?_
      refine VO.nil ?_
      show VC _ _ _ _ _ _ _ _
      refine VC.text ?_
      refine VO.c (.add rfl rfl (by omega)) ?_
      refine VO.c (.move rfl) ?_
      refine VO.nil ?_
      refine ⟨_, [(6, .raw ww4), (25, .v y263 l), (26, I ((l.length : Nat) : Int)), (27, I (((i + 1) : Nat) : Int))], ?_, ⟨rfl, rfl, rfl, rfl, trivial⟩, (i + 1), ww4, rfl, rfl, (by rw [flat_succ (by omega)] <;> rfl), (by omega)⟩
      omega
    · refine VC.exit ?_
      show VC _ _ _ _ _ _ _ _
      refine VC.seq ?_
      refine VC.text ?_
      refine VO.c (.move rfl) ?_
      refine VO.c (.assign rfl) ?_
      refine VO.go ?_
      refine VC.ret ?_
      exact VEndG.row rfl evT ⟨out, rfl, (by rw [List.take_of_length_le (by omega)])⟩
theorem zConcatP_ok {l : List (List (Pc × Int))} (hl : l.length < 100000) (h1 : l.flatten.length ≤ 1000000) : VFG Tryz.prog OA 145 [.v y263 l] [] (fun r g => ∃ w, r = .raw w ∧ g = [(w, .row 232 y232 l.flatten)]) := by
  by_cases h : l.flatten.length = 0
  · exact zConcatP0_ok hl h
  · exact zConcatP1_ok hl (Nat.pos_of_ne_zero h) h1
theorem zEqLv_ok {a : List Nat} {b : List Nat} (ha : a.length < 100000) : VF Tryz.prog OA 149 [.v y124 a, .v y124 b] (B (sameLv a b)) := by
  refine VF.enter Tryz.func149 rfl (fun _ _ => rfl) rfl ?_
  show VC _ _ _ _ _ [(0, .v y124 a), (1, .v y124 b)] [] _
  refine VC.seq ?_
  refine VC.text ?_
  refine VO.c (.assign rfl) ?_
  refine VO.go ?_
  refine VC.seq ?_
  refine VC.seq ?_
  refine VC.text ?_
  refine VO.c (.move rfl) ?_
  refine VO.r (.len el124) ?_
  refine VO.c (.move rfl) ?_
  refine VO.r (.len el124) ?_
  refine VO.c (.neq) ?_
  refine VO.go ?_
  refine VC.condD rfl (fun c1 => ?_) (fun c1 => ?_)
  · have hne : ¬ a.length = b.length := by omega
    refine VC.seq ?_
    refine VC.text ?_
    refine VO.c (.assign rfl) ?_
    refine VO.go ?_
    refine VC.ret ?_
    exact VEnd.one rfl evT (pvE (by exact (decide_eq_false fun hh => hne hh.1).symm))
  · have hle : a.length = b.length := by omega
    refine VC.skip ?_
    show VC _ _ _ _ _ _ _ _
    refine VC.seq ?_
    refine VC.seq ?_
    refine VC.text ?_
    refine VO.c (.move rfl) ?_
    refine VO.r (.len el124) ?_
    refine VO.c (.move rfl) ?_
    refine VO.go ?_
    refine VC.block ?_
    refine VC.keep [(0, .v y124 a), (1, .v y124 b), (12, I ((a.length : Nat) : Int)), (13, I ((0 : Nat) : Int))] ⟨rfl, rfl, rfl, rfl, trivial⟩ ?_
    refine VC.loop (I := fun kk ff ss => ∃ (i : Nat), kk = a.length - i ∧ ff = [(0, .v y124 a), (1, .v y124 b), (12, I ((a.length : Nat) : Int)), (13, I ((i : Nat) : Int))] ∧ ss = [] ∧ (i ≤ a.length) ∧ (∀ j, j < i → fcmpE .neq .f32 (a.getD j 0) (b.getD j 0) = false)) ?_ _ _ _ ⟨0, rfl, rfl, rfl, Nat.zero_le _, (by intro j hj; omega)⟩
    rintro kk ff ss ⟨i, hk0, rfl, rfl, hi, hn⟩
    refine VC.seq ?_
    refine VC.text ?_
    refine VO.c (.lss) ?_
    refine VO.go ?_
    refine VC.seq ?_
    refine VC.condD rfl (fun c4 => ?_) (fun c4 => ?_)
    · have hi' : i < a.length := by omega
      refine VC.skip ?_
      show VC _ _ _ _ _ _ _ _
      refine VC.seq ?_
      refine VC.block ?_
      refine VC.seq ?_
      refine VC.text ?_
      refine VO.c (.move rfl) ?_
      refine VO.c (.assign rfl) ?_
      refine VO.go ?_
      refine VC.seq ?_
      refine VC.drawn ?_
      refine VD.c (.move rfl) ?_
      refine VD.c (.move rfl) ?_
      refine VD.c (.ix (j := i) rfl rfl el124 (by omega)) ?_
      refine VD.r [] (.ld vt127) (.inl rfl) ?_
      refine VD.c (.move rfl) ?_
      refine VD.c (.move rfl) ?_
      refine VD.nw [] ?_
      refine VD.c (.ix (j := i) rfl rfl el124 (by omega)) ?_
      refine VD.r [] (.ld vt127) (.inl rfl) ?_
      refine VD.c (.fcmp .neq) ?_
      refine VD.go ?_
      refine VC.condB rfl (fun c6 => ?_) (fun c6 => ?_)
      · have c6' : fcmpE .neq .f32 (a.getD i 0) (b.getD i 0) = true := by simpa [hi', show i < b.length by omega] using c6
        refine VC.seq ?_
        refine VC.text ?_
        refine VO.c (.assign rfl) ?_
        refine VO.go ?_
        refine VC.ret ?_
        exact VEnd.one rfl evT (pvE (by exact (decide_eq_false fun hh => by rw [hh.2 i hi'] at c6'; cases c6').symm))
      · have c6' : fcmpE .neq .f32 (a.getD i 0) (b.getD i 0) = false := by simpa [hi', show i < b.length by omega] using c6
        refine VC.skip ?_
        show VC _ _ _ _ _ _ _ _
        refine VC.text ?_
        refine VO.c (.add rfl rfl (by omega)) ?_
        refine VO.c (.move rfl) ?_
        refine VO.nil ?_
        refine ⟨_, [(0, .v y124 a), (1, .v y124 b), (12, I ((a.length : Nat) : Int)), (13, I (((i + 1) : Nat) : Int))], ?_, ⟨rfl, rfl, rfl, rfl, trivial⟩, (i + 1), rfl, rfl, rfl, (by omega), (by intro j hj; rcases Nat.lt_succ_iff_lt_or_eq.1 hj with h | h; exact hn j h; subst h; exact c6')⟩
        omega
    · refine VC.exit ?_
      show VC _ _ _ _ _ _ _ _
      refine VC.seq ?_
      refine VC.text ?_
      refine VO.c (.assign rfl) ?_
      refine VO.go ?_
      refine VC.ret ?_
      exact VEnd.one rfl evT (pvE (by exact (decide_eq_true ⟨hle, fun j hj => hn j (by omega)⟩).symm))
theorem sOwned_ok {p : Int × ByteArray × Int × Int × (List Nat)} (hl : p.2.2.2.2.length < 100000) : VF Tryz.prog OA 150 [.v y160 p] (.v y160 p) := by
  refine VF.enter Tryz.func150 rfl (fun _ _ => rfl) rfl ?_
  show VC _ _ _ _ _ [(0, .v y160 p)] [] _
  refine VC.seq ?_
  refine VC.text ?_
  refine VO.cell (.box (τ := y160) .v) ?_
  intro ww5
  refine VO.cell (.alloc zt160) ?_
  intro ww6
  refine VO.go ?_
  refine VC.seq ?_
  refine VC.text ?_
  refine VO.c (.faO (k := 4) m1) ?_
  refine VO.r (.ldF (k := 4) m1 vt124) ?_
  refine VO.r (.len el124) ?_
  refine VO.cell (.make (k := p.2.2.2.2.length) rfl rfl el124 zt127 (by omega)) ?_
  intro ww7
  refine VO.c (.assign rfl) ?_
  refine VO.go ?_
  refine VC.seq ?_
  refine VC.text ?_
  refine VO.c (.move rfl) ?_
  refine VO.c (.faO (k := 4) m2) ?_
  refine VO.r (.ldF (k := 4) m2 vt124) ?_
  refine VO.copy rfl rfl el124 (by simp) ?_
  refine VO.go ?_
  refine VC.seq ?_
  refine VC.text ?_
  refine VO.c (.move rfl) ?_
  refine VO.c (.faO (k := 4) m2) ?_
  refine VO.perm swap2 ?_
  refine VO.one m1 fun ho8 => ?_
  refine VO.setF (cs' := [I p.1, St p.2.1, I p.2.2.1, I p.2.2.2.1, .raw ww7]) 4 vt124 (.raw rfl (agg_one ho8) ho8) ?_
  refine VO.go ?_
  refine VC.seq ?_
  refine VC.perm swap1 ?_
  refine VC.shutL [(ww7, .row 127 (.flt .f32) p.2.2.2.2), (ww5, .var [I p.1, St p.2.1, I p.2.2.1, I p.2.2.2.1, .raw ww7])] [(1, .p y160 (p.1, p.2.1, p.2.2.1, p.2.2.2.1, p.2.2.2.2))] rfl (.cons rfl (.var m1 (.cons .same (.cons .same (.cons .same (.cons .same (.cons (.row m0) .nil)))))) .nil) ?_
  refine VC.text ?_
  refine VO.r (.ld vt160) ?_
  refine VO.setV (cs' := [I p.1, St p.2.1, I p.2.2.1, I p.2.2.2.1, .v y124 p.2.2.2.2]) vt160 .v ?_
  refine VO.go ?_
  refine VC.ret ?_
  exact VEnd.one rfl (.cell (x := (p.1, p.2.1, p.2.2.1, p.2.2.2.1, p.2.2.2.2)) rfl m0 vt160 .refl) (pvE (by first | rfl | simp))
theorem mrgV_none {d : Dom} {a b : List Pc} (hb : mrgB d a b = 0) (h : pgL ltP smP none (allP d a b) = none) : mrgV d a b = ([], 30) := by rw [mrgV, if_neg (by simpa using hb), h] <;> rfl
theorem mrgV_some {d : Dom} {a b : List Pc} {o : List (Pc × Int)} (hb : mrgB d a b = 0) (h : pgL ltP smP none (allP d a b) = some o) : mrgV d a b = if (4096 : Int) < ((o.map (·.1)).length : Nat) then ([], 5) else (o.map (·.1), 0) := by rw [mrgV, if_neg (by simpa using hb), h] <;> rfl
theorem sMerge_ok {d : Int × Int × Int × (List (ByteArray × Int))} {a : List (Int × ByteArray × Int × Int × (List Nat))} {b : List (Int × ByteArray × Int × Int × (List Nat))} (hla : a.length < 100000) (hra : ∀ r ∈ a, r.2.2.2.2.length < 100000) (hlb : b.length < 100000) (hrb : ∀ r ∈ b, r.2.2.2.2.length < 100000) : VF Tryz.prog OA 78 [.v y106 d, .v y108 a, .v y108 b] (.tup [.v y108 ((mrgV d a b).1), I ((mrgV d a b).2)]) := by
  refine VF.enter Tryz.func78 rfl (fun _ _ => rfl) rfl ?_
  show VC _ _ _ _ _ [(0, .v y106 d), (1, .v y108 a), (2, .v y108 b)] [] _
  refine VC.seq ?_
  refine VC.text ?_
  have hrp : ∀ x ∈ allP d a b, x.1.2.2.2.2.length < 100000 := fun x hx => by
    have h1 := (sortS_same ltP_weak _).symm.mem ltP_weak hx
    rcases List.mem_append.1 h1 with h2 | h2
    · obtain ⟨p, hp, rfl⟩ := List.mem_map.1 h2; exact hra p hp
    · obtain ⟨p, hp, rfl⟩ := List.mem_map.1 h2; exact hrb p hp
  have hal : (allP d a b).length = a.length + b.length := by rw [allP, sortS_len, List.length_append, List.length_map, List.length_map]
  refine VO.new (.box) ?_
  refine VO.c (.assign rfl) ?_
  refine VO.c (.assign rfl) ?_
  refine VO.go ?_
  refine VC.seq ?_
  refine VC.seq ?_
  refine VC.drawn ?_
  refine VD.r [] (.ld vt106) (.inl rfl) ?_
  refine VD.c (.move rfl) ?_
  refine VD.call rfl rfl (VF.call (sStore_ok hla hra)) ?_
  refine VD.r [] (.ld vt106) (.inl rfl) ?_
  refine VD.c (.move rfl) ?_
  refine VD.call rfl rfl (VF.call (sStore_ok hlb hrb)) ?_
  refine VD.nw [] ?_
  refine VD.new (.lit [storeE d a, storeE d b] el179) ?_
  refine VD.callO rfl rfl (VF.call (sFirst_ok (by first | assumption | omega | simp))) ?_
  refine VD.c (.assign rfl) ?_
  refine VD.go ?_
  refine VC.seq ?_
  refine VC.text ?_
  refine VO.c (.move rfl) ?_
  refine VO.c (.neq) ?_
  refine VO.go ?_
  refine VC.condD rfl (fun c2 => ?_) (fun c2 => ?_)
  · have hbad : mrgB d a b ≠ 0 := c2
    refine VC.seq ?_
    refine VC.text ?_
    refine VO.c (.move rfl) ?_
    refine VO.c (.assign rfl) ?_
    refine VO.c (.assign rfl) ?_
    refine VO.go ?_
    refine VC.ret ?_
    exact VEnd.two rfl (evC .nil) evT (pvE (by rw [mrgV, if_pos hbad])) (pvI (by rw [mrgV, if_pos hbad] <;> rfl))
  · have hbad : mrgB d a b = 0 := by simpa [mrgB] using c2
    have hb1 : storeE d a = 0 ∧ storeE d b = 0 := by have h := hbad; unfold mrgB at h; rw [firstE_zero] at h; exact ⟨h _ (by simp), h _ (by simp)⟩
    have hdl := (dom_ok (store_dom hb1.1).1).2.2.2.1
    have hsa := (store_dom hb1.1).2.1
    have hsb := (store_dom hb1.2).2.1
    refine VC.skip ?_
    show VC _ _ _ _ _ _ _ _
    refine VC.seq ?_
    refine VC.drawn ?_
    refine VD.r [] (.ld vt106) (.inl rfl) ?_
    refine VD.c (.move rfl) ?_
    refine VD.call rfl rfl (VF.call (sPl_ok hdl hla)) ?_
    refine VD.r [] (.ld vt106) (.inl rfl) ?_
    refine VD.c (.move rfl) ?_
    refine VD.call rfl rfl (VF.call (sPl_ok hdl hlb)) ?_
    refine VD.nw [29, 26] ?_
    refine VD.new (.lit [a.map (plE d), b.map (plE d)] el263) ?_
    refine VD.callG rfl rfl (VFG.call (zConcatP_ok (by simp) (by simp; omega))) ?_
    rintro _ _ ⟨ww9, rfl, rfl⟩
    show VD _ _ _ _ _ _ _ _ [(ww9, .row 232 y232 ([a.map (plE d), b.map (plE d)].flatten))] _ _ _ _ _
    refine VD.c (.assign rfl) ?_
    refine VD.go ?_
    refine VC.seq ?_
    refine VC.text ?_
    rw [show [a.map (plE d), b.map (plE d)].flatten = a.map (plE d) ++ b.map (plE d) by simp]
    refine VO.c (.move rfl) ?_
    refine VO.callG [(ww9, .row 232 y232 (a.map (plE d) ++ b.map (plE d)))] rfl rfl rfl (VFG.call (zSSF_ok (by simp; omega) (fun _ _ => VF.call sCmpP_ok))) ?_
    rintro _ _ ⟨rfl, rfl⟩
    show VO _ _ _ _ _ _ [(ww9, .row 232 y232 (sortS ltP (a.map (plE d) ++ b.map (plE d))))] _
    rw [show sortS ltP (a.map (plE d) ++ b.map (plE d)) = allP d a b from rfl]
    refine VO.go ?_
    refine VC.seq ?_
    refine VC.text ?_
    refine VO.c (.assign rfl) ?_
    refine VO.go ?_
    refine VC.seq ?_
    refine VC.seq ?_
    refine VC.shutL [(ww9, .row 232 y232 (allP d a b))] [(9, .v y229 (allP d a b))] rfl (.cons rfl (.row m0) .nil) ?_
    refine VC.text ?_
    refine VO.c (.move rfl) ?_
    refine VO.r (.len el229) ?_
    refine VO.c (.move rfl) ?_
    refine VO.go ?_
    refine VC.block ?_
    refine VC.cell0 160 y160 ?_
    refine VC.keep [(9, .v y229 (allP d a b)), (10, .raw (.slice none 0 0)), (34, .v y229 (allP d a b)), (35, I (((allP d a b).length : Nat) : Int)), (36, I ((0 : Nat) : Int))] ⟨rfl, rfl, rfl, rfl, rfl, trivial⟩ ?_
    refine VC.loop (I := fun kk ff ss => ∃ (i : Nat) (o : List (Pc × Int)) (out : Value), kk = (allP d a b).length - i ∧ ff = [(9, .v y229 (allP d a b)), (10, .raw out), (34, .v y229 (allP d a b)), (35, I (((allP d a b).length : Nat) : Int)), (36, I ((i : Nat) : Int))] ∧ ss = [(out, .row 160 y160 (o.map (·.1)))] ∧ (i ≤ (allP d a b).length) ∧ (o.length ≤ i) ∧ (pgL ltP smP none (allP d a b) = (pgL ltP smP (prevE zPl (allP d a b) i) ((allP d a b).drop i)).map (o ++ ·))) ?_ _ _ _ ⟨0, [], (.slice none 0 0), rfl, rfl, rfl, (by omega), (by simp), (by simp [prevE])⟩
    rintro kk ff ss ⟨i, o, out, hk0, rfl, rfl, hi, ho, hq⟩
    refine VC.seq ?_
    refine VC.text ?_
    refine VO.c (.lss) ?_
    refine VO.go ?_
    refine VC.seq ?_
    refine VC.condD rfl (fun c8 => ?_) (fun c8 => ?_)
    · have hi' : i < (allP d a b).length := by omega
      refine VC.skip ?_
      show VC _ _ _ _ _ _ _ _
      refine VC.seq ?_
      refine VC.block ?_
      refine VC.seq ?_
      refine VC.text ?_
      refine VO.c (.move rfl) ?_
      refine VO.c (.ix (j := i) rfl rfl el229 (by omega)) ?_
      refine VO.r (.ld vt232) ?_
      refine VO.cell (.alloc zt232) ?_
      intro ww11
      refine VO.c (.assign rfl) ?_
      refine VO.setV (cs' := [I ((((allP d a b)[i]).1).1), St ((((allP d a b)[i]).1).2.1), I ((((allP d a b)[i]).1).2.2.1), I ((((allP d a b)[i]).1).2.2.2.1), .v y124 ((((allP d a b)[i]).1).2.2.2.2), I (((allP d a b)[i]).2)]) vt232 .v ?_
      refine VO.shut [(12, .p y232 ((allP d a b)[i]))] (.cons rfl (.var m0 .refl) .nil) ?_
      refine VO.go ?_
      refine VC.seq ?_
      refine VC.seq ?_
      refine VC.drawn ?_
      refine VD.c (.move rfl) ?_
      refine VD.c (.gtr) ?_
      refine VD.c (.move rfl) ?_
      refine VD.splitD (x := 43) rfl (fun g10_2 => ?_) (fun g10_2 => ?_)
      · have e1 : (allP d a b).getD (i - 1) zPl = (allP d a b)[(((i : Nat) : Int) - (1 : Int)).toNat]'(by omega) := by rw [getDg _ _ (by omega)]; congr 1; omega
        have e2 : (allP d a b).getD i zPl = (allP d a b)[i] := getDg _ _ hi'
        refine VD.c (.move rfl) ?_
        refine VD.c (.move rfl) ?_
        refine VD.nw [] ?_
        refine VD.c (.sub rfl rfl (by omega)) ?_
        refine VD.c (.ixZ (k := (((i : Nat) : Int) - (1 : Int))) rfl rfl el229 (by omega) (by omega)) ?_
        refine VD.r [] (.ld vt232) (.inl rfl) ?_
        refine VD.r [] (.ld vt232) (.inl rfl) ?_
        refine VD.call rfl rfl (VF.call (sCmpP_ok )) ?_
        refine VD.c (.eql) ?_
        refine VD.c (.pickT rfl rfl) ?_
        refine VD.go ?_
        refine VC.condD rfl (fun c10 => ?_) (fun c10 => ?_)
        · have htie : tieB ltP zPl (allP d a b) i = true := by unfold tieB; rw [decide_eq_true (by omega), Bool.true_and, ← cmpP_eqv, e1, e2]; exact c10
          refine VC.seq ?_
          refine VC.seq ?_
          refine VC.drawn ?_
          refine VD.c (.move rfl) ?_
          refine VD.c (.move rfl) ?_
          refine VD.c (.sub rfl rfl (by omega)) ?_
          refine VD.c (.ixZ (k := (((i : Nat) : Int) - (1 : Int))) rfl rfl el229 (by omega) (by omega)) ?_
          refine VD.c (.fa (.l .o)) ?_
          refine VD.c (.fa (.r (.r (.r (.r .o))))) ?_
          refine VD.nw [] ?_
          refine VD.r [] (.ld vt124) (.inl rfl) ?_
          refine VD.c (.fa (.l .o)) ?_
          refine VD.c (.fa (.r (.r (.r (.r .o))))) ?_
          refine VD.r [] (.ld vt124) (.inl rfl) ?_
          refine VD.call rfl rfl (VF.call (zEqLv_ok (hrp _ (List.getElem_mem _)))) ?_
          refine VD.c (.not) ?_
          refine VD.go ?_
          refine VC.condB rfl (fun c11 => ?_) (fun c11 => ?_)
          · try simp only [Bool.and_eq_true, Bool.or_eq_true, Bool.and_eq_false_iff, Bool.or_eq_false_iff, Bool.not_eq_true', Bool.not_eq_false', decide_eq_true_eq, decide_eq_false_iff_not] at c11
            have hsm : smP ((allP d a b).getD (i - 1) zPl) ((allP d a b).getD i zPl) = false := by rw [e1, e2]; exact c11
            have hpg : pgL ltP smP none (allP d a b) = none := by rw [hq, pg_tie hi' htie, if_neg (by rw [hsm]; exact Bool.false_ne_true)] <;> rfl
            refine VC.seq ?_
            refine VC.text ?_
            refine VO.c (.assign rfl) ?_
            refine VO.c (.assign rfl) ?_
            refine VO.go ?_
            refine VC.ret ?_
            exact VEnd.two rfl (evC .nil) evT (pvE (by rw [mrgV_none hbad hpg])) (pvI (by rw [mrgV_none hbad hpg]))
          · try simp only [Bool.and_eq_true, Bool.or_eq_true, Bool.and_eq_false_iff, Bool.or_eq_false_iff, Bool.not_eq_true', Bool.not_eq_false', decide_eq_true_eq, decide_eq_false_iff_not] at c11
            have hsm : smP ((allP d a b).getD (i - 1) zPl) ((allP d a b).getD i zPl) = true := by rw [e1, e2]; exact c11
            refine VC.skip ?_
            show VC _ _ _ _ _ _ _ _
            refine VC.exit ?_
            show VC _ _ _ _ _ _ _ _
            refine VC.text ?_
            refine VO.c (.add rfl rfl (by omega)) ?_
            refine VO.c (.move rfl) ?_
            refine VO.nil ?_
            refine ⟨_, [(9, .v y229 (allP d a b)), (10, .raw out), (34, .v y229 (allP d a b)), (35, I (((allP d a b).length : Nat) : Int)), (36, I (((i + 1) : Nat) : Int))], ?_, ⟨rfl, rfl, rfl, rfl, rfl, trivial⟩, (i + 1), (if tieB ltP zPl (allP d a b) i then o else o ++ [(allP d a b).getD i zPl]), out, rfl, rfl, (by first | rw [if_pos htie] | (rw [if_neg (by rw [htie]; exact Bool.false_ne_true), List.map_append, getDg _ _ hi']; rfl)), (by omega), (by split <;> (try rw [List.length_append, List.length_singleton]) <;> omega), (by first | (rw [if_pos htie, hq, pg_tie hi' htie, if_pos hsm]) | (rw [if_neg (by rw [htie]; exact Bool.false_ne_true), hq, pg_new hi' htie, map_app]))⟩
            omega
        · have htie : tieB ltP zPl (allP d a b) i = false := by unfold tieB; rw [decide_eq_true (by omega), Bool.true_and, Bool.eq_false_iff]; intro hh; rw [← cmpP_eqv, e1, e2] at hh; exact c10 hh
          refine VC.skip ?_
          show VC _ _ _ _ _ _ _ _
          refine VC.text ?_
          refine VO.c (.move rfl) ?_
          refine VO.c (.fa (.l .o)) ?_
          refine VO.r (.ld vt160) ?_
          refine VO.call rfl rfl (VF.call (sOwned_ok (hrp _ (List.getElem_mem _)))) ?_
          refine VO.new (.lit [(((allP d a b)[i]).1)] el108) ?_
          refine VO.app rfl rfl el108 el108 (by simp; omega) ?_
          intro ww12
          refine VO.c (.assign rfl) ?_
          refine VO.nil ?_
          show VC _ _ _ _ _ _ _ _
          refine VC.text ?_
          refine VO.c (.add rfl rfl (by omega)) ?_
          refine VO.c (.move rfl) ?_
          refine VO.nil ?_
          refine ⟨_, [(9, .v y229 (allP d a b)), (10, .raw ww12), (34, .v y229 (allP d a b)), (35, I (((allP d a b).length : Nat) : Int)), (36, I (((i + 1) : Nat) : Int))], ?_, ⟨rfl, rfl, rfl, rfl, rfl, trivial⟩, (i + 1), (if tieB ltP zPl (allP d a b) i then o else o ++ [(allP d a b).getD i zPl]), ww12, rfl, rfl, (by first | rw [if_pos htie] | (rw [if_neg (by rw [htie]; exact Bool.false_ne_true), List.map_append, getDg _ _ hi']; rfl)), (by omega), (by split <;> (try rw [List.length_append, List.length_singleton]) <;> omega), (by first | (rw [if_pos htie, hq, pg_tie hi' htie, if_pos hsm]) | (rw [if_neg (by rw [htie]; exact Bool.false_ne_true), hq, pg_new hi' htie, map_app]))⟩
          omega
      · have htie : tieB ltP zPl (allP d a b) i = false := by unfold tieB; rw [decide_eq_false (by omega)] <;> rfl
        refine VD.skip ?_
        refine VD.skip ?_
        refine VD.nw [] ?_
        refine VD.skip ?_
        refine VD.skip ?_
        refine VD.skip ?_
        refine VD.skip ?_
        refine VD.skip ?_
        refine VD.skip ?_
        refine VD.c (.pickF rfl rfl) ?_
        refine VD.go ?_
        refine VC.condF rfl ?_
        refine VC.skip ?_
        show VC _ _ _ _ _ _ _ _
        refine VC.text ?_
        refine VO.c (.move rfl) ?_
        refine VO.c (.fa (.l .o)) ?_
        refine VO.r (.ld vt160) ?_
        refine VO.call rfl rfl (VF.call (sOwned_ok (hrp _ (List.getElem_mem _)))) ?_
        refine VO.new (.lit [(((allP d a b)[i]).1)] el108) ?_
        refine VO.app rfl rfl el108 el108 (by simp; omega) ?_
        intro ww13
        refine VO.c (.assign rfl) ?_
        refine VO.nil ?_
        show VC _ _ _ _ _ _ _ _
        refine VC.text ?_
        refine VO.c (.add rfl rfl (by omega)) ?_
        refine VO.c (.move rfl) ?_
        refine VO.nil ?_
        refine ⟨_, [(9, .v y229 (allP d a b)), (10, .raw ww13), (34, .v y229 (allP d a b)), (35, I (((allP d a b).length : Nat) : Int)), (36, I (((i + 1) : Nat) : Int))], ?_, ⟨rfl, rfl, rfl, rfl, rfl, trivial⟩, (i + 1), (if tieB ltP zPl (allP d a b) i then o else o ++ [(allP d a b).getD i zPl]), ww13, rfl, rfl, (by first | rw [if_pos htie] | (rw [if_neg (by rw [htie]; exact Bool.false_ne_true), List.map_append, getDg _ _ hi']; rfl)), (by omega), (by split <;> (try rw [List.length_append, List.length_singleton]) <;> omega), (by first | (rw [if_pos htie, hq, pg_tie hi' htie, if_pos hsm]) | (rw [if_neg (by rw [htie]; exact Bool.false_ne_true), hq, pg_new hi' htie, map_app]))⟩
        omega
    · refine VC.exit ?_
      show VC _ _ _ _ _ _ _ _
      refine VC.seq ?_
      refine VC.seq ?_
      refine VC.text ?_
      have hfin : pgL ltP smP none (allP d a b) = some o := by rw [hq, pg_end (d := zPl) (by omega)]; simp
      refine VO.c (.move rfl) ?_
      refine VO.r (.lenO m0 el108) ?_
      refine VO.c (.gtr) ?_
      refine VO.go ?_
      refine VC.condD rfl (fun c15 => ?_) (fun c15 => ?_)
      · refine VC.seq ?_
        refine VC.text ?_
        refine VO.c (.assign rfl) ?_
        refine VO.c (.assign rfl) ?_
        refine VO.go ?_
        refine VC.ret ?_
        exact VEnd.two rfl (evC .nil) evT (pvE (by rw [mrgV_some hbad hfin, if_pos (by simpa using c15)])) (pvI (by rw [mrgV_some hbad hfin, if_pos (by simpa using c15)]))
      · refine VC.skip ?_
        show VC _ _ _ _ _ _ _ _
        refine VC.seq ?_
        refine VC.text ?_
        refine VO.c (.move rfl) ?_
        refine VO.c (.assign rfl) ?_
        refine VO.c (.assign rfl) ?_
        refine VO.go ?_
        refine VC.ret ?_
        exact VEnd.two rfl (evC (.row m0)) evT (pvE (by rw [mrgV_some hbad hfin, if_neg (by simpa using c15)])) (pvI (by rw [mrgV_some hbad hfin, if_neg (by simpa using c15)]))
end Go.Proofs
namespace Go.Proofs
open Go.Fs Ieee
set_option linter.unusedVariables false

/-! ## Merging, by the reference -/
def smL (a b : Pc) : Bool := sameLv a.2.2.2.2 b.2.2.2.2
def zPc : Pc := (0, ByteArray.empty, 0, 0, [])
def plusPc (p : Pc) : Pc := (p.1, p.2.1, p.2.2.1, p.2.2.2.1, p.2.2.2.2.map plusZ)
def stA (d : Dom) (a b : List Pc) (i k : Nat) : Bool := decide (k = b.length) || (decide (i < a.length) && befE d (a.getD i zPc) (b.getD k zPc))
def stB (d : Dom) (a b : List Pc) (i k : Nat) : Bool := decide (i = a.length) || befE d (b.getD k zPc) (a.getD i zPc)
theorem rm_a {d : Dom} {a b : List Pc} {i k : Nat} (hk : k ≤ b.length) (hm : i < a.length ∨ k < b.length) (h : stA d a b i k = true) : i < a.length ∧ rmE (befE d) smL (a.drop i) (b.drop k) = (rmE (befE d) smL (a.drop (i + 1)) (b.drop k)).map (a.getD i zPc :: ·) := by
  unfold stA at h
  rw [Bool.or_eq_true, Bool.and_eq_true, decide_eq_true_eq, decide_eq_true_eq] at h
  have hi : i < a.length := by rcases h with h | h; omega; exact h.1
  refine ⟨hi, ?_⟩
  rw [drop_getD hi (d := zPc)]
  rcases Nat.lt_or_eq_of_le hk with h1 | h1
  · rw [drop_getD h1 (d := zPc), rmE, if_pos (by rcases h with h | h; omega; exact h.2)]
  · rw [List.drop_eq_nil_of_le (show b.length ≤ k by omega), rmE]
    cases hd : a.drop (i + 1) with
    | nil => rw [rmE] <;> rfl
    | cons x r => rw [rmE] <;> rfl
theorem rm_b {d : Dom} {a b : List Pc} {i k : Nat} (hi : i ≤ a.length) (hk : k ≤ b.length) (h0 : stA d a b i k = false) (h : stB d a b i k = true) : k < b.length ∧ rmE (befE d) smL (a.drop i) (b.drop k) = (rmE (befE d) smL (a.drop i) (b.drop (k + 1))).map (b.getD k zPc :: ·) := by
  unfold stA at h0
  unfold stB at h
  rw [Bool.or_eq_true, decide_eq_true_eq] at h
  rw [Bool.or_eq_false_iff, Bool.and_eq_false_iff, decide_eq_false_iff_not, decide_eq_false_iff_not] at h0
  have hk' : k < b.length := by omega
  refine ⟨hk', ?_⟩
  rw [drop_getD hk' (d := zPc)]
  rcases Nat.lt_or_eq_of_le hi with h1 | h1
  · rw [drop_getD h1 (d := zPc), rmE, if_neg (by rcases h0.2 with h2 | h2; omega; rw [h2]; exact Bool.false_ne_true), if_pos (by rcases h with h | h; omega; exact h)]
  · rw [List.drop_eq_nil_of_le (show a.length ≤ i by omega), rmE, rmE] <;> rfl
theorem rm_c {d : Dom} {a b : List Pc} {i k : Nat} (hi : i ≤ a.length) (hk : k ≤ b.length) (h0 : stA d a b i k = false) (h : stB d a b i k = false) : i < a.length ∧ k < b.length ∧ rmE (befE d) smL (a.drop i) (b.drop k) = if smL (a.getD i zPc) (b.getD k zPc) then (rmE (befE d) smL (a.drop (i + 1)) (b.drop (k + 1))).map (a.getD i zPc :: ·) else none := by
  unfold stA at h0
  unfold stB at h
  rw [Bool.or_eq_false_iff, decide_eq_false_iff_not] at h
  rw [Bool.or_eq_false_iff, Bool.and_eq_false_iff, decide_eq_false_iff_not, decide_eq_false_iff_not] at h0
  have hk' : k < b.length := by omega
  have hi' : i < a.length := by omega
  refine ⟨hi', hk', ?_⟩
  rw [drop_getD hk' (d := zPc), drop_getD hi' (d := zPc), rmE, if_neg (by rcases h0.2 with h2 | h2; omega; rw [h2]; exact Bool.false_ne_true), if_neg (by rw [h.2]; exact Bool.false_ne_true)]
theorem rm_end {d : Dom} {a b : List Pc} {i k : Nat} (hi : a.length ≤ i) (hk : b.length ≤ k) : rmE (befE d) smL (a.drop i) (b.drop k) = some [] := by
  rw [List.drop_eq_nil_of_le hi, List.drop_eq_nil_of_le hk, rmE]
def rmgV (d : Dom) (a b : List Pc) : List Pc × Int := mrgQ ((rmE (befE d) smL a b).map (List.map plusPc))
theorem rmgV_none {d : Dom} {a b : List Pc} (h : rmE (befE d) smL a b = none) : rmgV d a b = ([], 30) := by rw [rmgV, h] <;> rfl
theorem rmgV_some {d : Dom} {a b o : List Pc} (h : rmE (befE d) smL a b = some o) : rmgV d a b = if (4096 : Int) < (o.length : Nat) then ([], 5) else (o.map plusPc, 0) := by rw [rmgV, h]; show (if (4096 : Int) < ((o.map plusPc).length : Nat) then _ else _) = _; rw [List.length_map]
abbrev halfPc (o : List Pc) (n : Nat) : List Pc := (o.take n).map plusPc ++ o.drop n
theorem half_len {o : List Pc} {n : Nat} (hn : n ≤ o.length) : (halfPc o n).length = o.length := by
  rw [halfPc, List.length_append, List.length_map, List.length_take, List.length_drop]; omega
theorem half_at {o : List Pc} {n : Nat} (hn : n < o.length) (h : n < (halfPc o n).length) : (halfPc o n)[n] = o[n] := by
  unfold halfPc
  rw [List.getElem_append_right (by rw [List.length_map, List.length_take]; omega)]
  simp only [List.length_map, List.length_take, List.getElem_drop]
  congr 1; omega
theorem half_set {o : List Pc} {n : Nat} (hn : n < o.length) : (halfPc o n).set n (plusPc o[n]) = halfPc o (n + 1) := by
  unfold halfPc
  have hl : ((o.take n).map plusPc).length = n := by rw [List.length_map, List.length_take]; omega
  rw [List.set_append_right _ _ (by omega), hl, Nat.sub_self, List.drop_eq_getElem_cons hn, List.set_cons_zero, List.take_succ_eq_append_getElem hn, List.map_append, List.append_assoc] <;> rfl
theorem rMerge_ok {d : Int × Int × Int × (List (ByteArray × Int))} {a : List (Int × ByteArray × Int × Int × (List Nat))} {b : List (Int × ByteArray × Int × Int × (List Nat))} (hd : d.2.2.2.length ≤ 16) (hla : a.length < 100000) (hlb : b.length < 100000) (hra : ∀ r ∈ a, r.2.2.2.2.length < 100000) (hva : ∀ r ∈ a, ∀ x ∈ r.2.2.2.2, lvlE x = 0) (hrb : ∀ r ∈ b, r.2.2.2.2.length < 100000) (hvb : ∀ r ∈ b, ∀ x ∈ r.2.2.2.2, lvlE x = 0) : VF Tryz.prog OA 79 [.v y95 d, .v y96 a, .v y96 b] (.tup [.v y96 ((rmgV d a b).1), I ((rmgV d a b).2)]) := by
  refine VF.enter Tryz.func79 rfl (fun _ _ => rfl) rfl ?_
  show VC _ _ _ _ _ [(0, .v y95 d), (1, .v y96 a), (2, .v y96 b)] [] _
  refine VC.seq ?_
  refine VC.text ?_
  refine VO.new (.box) ?_
  refine VO.c (.assign rfl) ?_
  refine VO.c (.assign rfl) ?_
  refine VO.go ?_
  refine VC.seq ?_
  refine VC.text ?_
  refine VO.c (.assign rfl) ?_
  refine VO.go ?_
  refine VC.seq ?_
  refine VC.text ?_
  refine VO.c (.assign rfl) ?_
  refine VO.c (.assign rfl) ?_
  refine VO.go ?_
  refine VC.seq ?_
  refine VC.block ?_
  refine VC.cell0 152 y152 ?_
  refine VC.keep [(1, .v y96 a), (2, .v y96 b), (3, .p y95 d), (8, .raw (.slice none 0 0)), (9, I ((0 : Nat) : Int)), (10, I ((0 : Nat) : Int))] ⟨rfl, rfl, rfl, rfl, rfl, rfl, trivial⟩ ?_
  refine VC.loop (I := fun kk ff ss => ∃ (i : Nat) (k : Nat) (o : List Pc) (out : Value), kk = a.length + b.length - (i + k) ∧ ff = [(1, .v y96 a), (2, .v y96 b), (3, .p y95 d), (8, .raw out), (9, I ((i : Nat) : Int)), (10, I ((k : Nat) : Int))] ∧ ss = [(out, .row 152 y152 o)] ∧ (i ≤ a.length) ∧ (k ≤ b.length) ∧ (o.length ≤ i + k) ∧ (rmE (befE d) smL a b = (rmE (befE d) smL (a.drop i) (b.drop k)).map (o ++ ·))) ?_ _ _ _ ⟨0, 0, [], (.slice none 0 0), rfl, rfl, rfl, Nat.zero_le _, Nat.zero_le _, (by simp), (by simp)⟩
  rintro kk ff ss ⟨i, k, o, out, hk0, rfl, rfl, hi, hk, ho, hq⟩
  refine VC.seq ?_
  refine VC.seq ?_
  refine VC.text ?_
  refine VO.c (.move rfl) ?_
  refine VO.c (.move rfl) ?_
  refine VO.r (.len el96) ?_
  refine VO.c (.lss) ?_
  refine VO.c (.move rfl) ?_
  refine VO.cg (r := decide (((i : Nat) : Int) < ((a.length : Nat) : Int))) (w := false) [] trivial (fun hgd => have g3_4 : ¬ (((i : Nat) : Int) < ((a.length : Nat) : Int)) := (by simpa using hgd); (.move rfl)) ?_
  refine VO.cg (r := decide (((i : Nat) : Int) < ((a.length : Nat) : Int))) (w := false) [] trivial (fun hgd => have g3_4 : ¬ (((i : Nat) : Int) < ((a.length : Nat) : Int)) := (by simpa using hgd); (.move rfl)) ?_
  refine VO.rg (r := decide (((i : Nat) : Int) < ((a.length : Nat) : Int))) (w := false) [(18, .v y96 b)] ⟨rfl, trivial⟩ (fun hgd => have g3_4 : ¬ (((i : Nat) : Int) < ((a.length : Nat) : Int)) := (by simpa using hgd); (.len el96)) ?_
  refine VO.cg (r := decide (((i : Nat) : Int) < ((a.length : Nat) : Int))) (w := false) [(17, I ((k : Nat) : Int)), (19, I ((b.length : Nat) : Int))] ⟨rfl, rfl, trivial⟩ (fun hgd => have g3_4 : ¬ (((i : Nat) : Int) < ((a.length : Nat) : Int)) := (by simpa using hgd); (.lss)) ?_
  refine VO.c (.or) ?_
  refine VO.go ?_
  refine VC.condB rfl (fun c3 => ?_) (fun c3 => ?_)
  · try simp only [Bool.and_eq_true, Bool.or_eq_true, Bool.and_eq_false_iff, Bool.or_eq_false_iff, Bool.not_eq_true', Bool.not_eq_false', decide_eq_true_eq, decide_eq_false_iff_not] at c3
    have hm : i < a.length ∨ k < b.length := by simpa using c3
    refine VC.skip ?_
    show VC _ _ _ _ _ _ _ _
    refine VC.block ?_
    refine VC.seq ?_
    refine VC.join [(1, .v y96 a), (2, .v y96 b), (3, .p y95 d), (8, .raw out), (9, I ((i : Nat) : Int)), (10, I ((k : Nat) : Int)), (43, B (stA d a b i k))] [(out, .row 152 y152 o)] ?_ ?_
    · skip
      refine VC.drawn ?_
      refine VD.c (.move rfl) ?_
      refine VD.c (.move rfl) ?_
      refine VD.r [] (.len el96) (.inl rfl) ?_
      refine VD.c (.eql) ?_
      refine VD.c (.move rfl) ?_
      refine VD.splitD (x := 26) rfl (fun g4_4 => ?_) (fun g4_4 => ?_)
      · refine VD.nw [] ?_
        refine VD.skip ?_
        refine VD.skip ?_
        refine VD.skip ?_
        refine VD.skip ?_
        refine VD.skip ?_
        refine VD.skip ?_
        refine VD.skip ?_
        refine VD.nw [] ?_
        refine VD.skip ?_
        refine VD.skip ?_
        refine VD.skip ?_
        refine VD.skip ?_
        refine VD.skip ?_
        refine VD.skip ?_
        refine VD.skip ?_
        refine VD.nw [] ?_
        refine VD.skip ?_
        refine VD.skip ?_
        refine VD.c (.pickT rfl rfl) ?_
        refine VD.nil ?_
        exact ⟨⟨rfl, rfl, rfl, rfl, rfl, rfl, slE rfl (by unfold stA; first | (rw [decide_eq_true (by omega)]; rfl) | (rw [decide_eq_false (by omega), decide_eq_true (by omega), hga, hgb]; rfl) | (rw [decide_eq_false (by omega), decide_eq_false (by omega)]; rfl)), trivial⟩, rfl⟩
      · refine VD.nw [] ?_
        refine VD.c (.move rfl) ?_
        refine VD.c (.move rfl) ?_
        refine VD.r [] (.len el96) (.inl rfl) ?_
        refine VD.c (.lss) ?_
        refine VD.c (.move rfl) ?_
        refine VD.splitD (x := 31) rfl (fun g4_9 => ?_) (fun g4_9 => ?_)
        · have hga : a.getD i zPc = a[i] := getDg _ _ (by omega)
          have hgb : b.getD k zPc = b[k] := getDg _ _ (by omega)
          refine VD.r [] (.ld vt95) (.inl rfl) ?_
          refine VD.nw [] ?_
          refine VD.c (.move rfl) ?_
          refine VD.c (.move rfl) ?_
          refine VD.c (.ix (j := i) rfl rfl el96 (by omega)) ?_
          refine VD.r [] (.ld vt152) (.inl rfl) ?_
          refine VD.c (.move rfl) ?_
          refine VD.c (.move rfl) ?_
          refine VD.c (.ix (j := k) rfl rfl el96 (by omega)) ?_
          refine VD.nw [] ?_
          refine VD.r [] (.ld vt152) (.inl rfl) ?_
          refine VD.call rfl rfl (VF.call (rBef_ok hd)) ?_
          refine VD.c (.pickT rfl rfl) ?_
          refine VD.c (.pickF rfl rfl) ?_
          refine VD.nil ?_
          exact ⟨⟨rfl, rfl, rfl, rfl, rfl, rfl, slE rfl (by unfold stA; first | (rw [decide_eq_true (by omega)]; rfl) | (rw [decide_eq_false (by omega), decide_eq_true (by omega), hga, hgb]; rfl) | (rw [decide_eq_false (by omega), decide_eq_false (by omega)]; rfl)), trivial⟩, rfl⟩
        · refine VD.skip ?_
          refine VD.nw [] ?_
          refine VD.skip ?_
          refine VD.skip ?_
          refine VD.skip ?_
          refine VD.skip ?_
          refine VD.skip ?_
          refine VD.skip ?_
          refine VD.skip ?_
          refine VD.nw [] ?_
          refine VD.skip ?_
          refine VD.skip ?_
          refine VD.c (.pickF rfl rfl) ?_
          refine VD.c (.pickF rfl rfl) ?_
          refine VD.nil ?_
          exact ⟨⟨rfl, rfl, rfl, rfl, rfl, rfl, slE rfl (by unfold stA; first | (rw [decide_eq_true (by omega)]; rfl) | (rw [decide_eq_false (by omega), decide_eq_true (by omega), hga, hgb]; rfl) | (rw [decide_eq_false (by omega), decide_eq_false (by omega)]; rfl)), trivial⟩, rfl⟩
    show VC _ _ _ _ _ _ _ _
    refine VC.condB rfl (fun c4 => ?_) (fun c4 => ?_)
    · have hA : stA d a b i k = true := c4
      have hB : True := trivial
      have hia := (rm_a hk hm hA).1
      have hst := (rm_a hk hm hA).2
      have hga : a.getD i zPc = a[i] := getDg _ _ hia
      refine VC.seq ?_
      refine VC.text ?_
      refine VO.c (.move rfl) ?_
      refine VO.c (.move rfl) ?_
      refine VO.c (.move rfl) ?_
      refine VO.c (.ix (j := i) rfl rfl el96 (by omega)) ?_
      refine VO.r (.ld vt152) ?_
      refine VO.new (.lit [a[i]] el96) ?_
      refine VO.app rfl rfl el96 el96 (by simp; omega) ?_
      intro ww1
      refine VO.c (.assign rfl) ?_
      refine VO.go ?_
      refine VC.text ?_
      refine VO.c (.move rfl) ?_
      refine VO.c (.add rfl rfl (by omega)) ?_
      refine VO.c (.assign rfl) ?_
      refine VO.nil ?_
      refine ⟨_, [(1, .v y96 a), (2, .v y96 b), (3, .p y95 d), (8, .raw ww1), (9, I (((if stA d a b i k then i + 1 else if stB d a b i k then i else i + 1) : Nat) : Int)), (10, I (((if stA d a b i k then k else k + 1) : Nat) : Int))], ?_, ⟨rfl, rfl, rfl, rfl, slI rfl (by first | (rw [if_pos hA]; rfl) | rw [if_neg (by rw [hA]; exact Bool.false_ne_true), if_pos hB] | (rw [if_neg (by rw [hA]; exact Bool.false_ne_true), if_neg (by rw [hB]; exact Bool.false_ne_true)]; rfl)), slI rfl (by first | rw [if_pos hA] | (rw [if_neg (by rw [hA]; exact Bool.false_ne_true)]; rfl)), trivial⟩, (if stA d a b i k then i + 1 else if stB d a b i k then i else i + 1), (if stA d a b i k then k else k + 1), (if stA d a b i k then o ++ [a.getD i zPc] else if stB d a b i k then o ++ [b.getD k zPc] else o ++ [a.getD i zPc]), ww1, rfl, rfl, (by first | rw [if_pos hA, hga] | rw [if_neg (by rw [hA]; exact Bool.false_ne_true), if_pos hB, hgb] | rw [if_neg (by rw [hA]; exact Bool.false_ne_true), if_neg (by rw [hB]; exact Bool.false_ne_true), hga]), (by first | (rw [if_pos hA]; omega) | (rw [if_neg (by rw [hA]; exact Bool.false_ne_true), if_pos hB]; omega) | (rw [if_neg (by rw [hA]; exact Bool.false_ne_true), if_neg (by rw [hB]; exact Bool.false_ne_true)]; omega)), (by first | (rw [if_pos hA]; omega) | (rw [if_neg (by rw [hA]; exact Bool.false_ne_true)]; omega)), (by first | (rw [if_pos hA, if_pos hA, if_pos hA, List.length_append, List.length_singleton]; omega) | (rw [if_neg (by rw [hA]; exact Bool.false_ne_true), if_pos hB, if_neg (by rw [hA]; exact Bool.false_ne_true), if_pos hB, if_neg (by rw [hA]; exact Bool.false_ne_true), List.length_append, List.length_singleton]; omega) | (rw [if_neg (by rw [hA]; exact Bool.false_ne_true), if_neg (by rw [hB]; exact Bool.false_ne_true), if_neg (by rw [hA]; exact Bool.false_ne_true), if_neg (by rw [hB]; exact Bool.false_ne_true), if_neg (by rw [hA]; exact Bool.false_ne_true), List.length_append, List.length_singleton]; omega)), (by simp only [hA, hB, if_true, Bool.false_eq_true, if_false]; rw [hq, hst, map_app])⟩
      first | (rw [if_pos hA, if_pos hA]; omega) | (rw [if_neg (by rw [hA]; exact Bool.false_ne_true), if_pos hB, if_neg (by rw [hA]; exact Bool.false_ne_true)]; omega) | (rw [if_neg (by rw [hA]; exact Bool.false_ne_true), if_neg (by rw [hB]; exact Bool.false_ne_true), if_neg (by rw [hA]; exact Bool.false_ne_true)]; omega)
    · have hA : stA d a b i k = false := c4
      refine VC.seq ?_
      refine VC.join [(1, .v y96 a), (2, .v y96 b), (3, .p y95 d), (8, .raw out), (9, I ((i : Nat) : Int)), (10, I ((k : Nat) : Int)), (68, B (stB d a b i k))] [(out, .row 152 y152 o)] ?_ ?_
      · skip
        refine VC.drawn ?_
        refine VD.c (.move rfl) ?_
        refine VD.c (.move rfl) ?_
        refine VD.r [] (.len el96) (.inl rfl) ?_
        refine VD.c (.eql) ?_
        refine VD.c (.move rfl) ?_
        refine VD.splitD (x := 57) rfl (fun g7_4 => ?_) (fun g7_4 => ?_)
        · refine VD.nw [] ?_
          refine VD.skip ?_
          refine VD.skip ?_
          refine VD.skip ?_
          refine VD.skip ?_
          refine VD.skip ?_
          refine VD.skip ?_
          refine VD.skip ?_
          refine VD.nw [] ?_
          refine VD.skip ?_
          refine VD.skip ?_
          refine VD.skip ?_
          refine VD.c (.pickT rfl rfl) ?_
          refine VD.nil ?_
          exact ⟨⟨rfl, rfl, rfl, rfl, rfl, rfl, slE rfl (by unfold stB; first | (rw [decide_eq_true (by omega)]; rfl) | (rw [decide_eq_false (by omega), hga, hgb]; rfl)), trivial⟩, rfl⟩
        · have hki : k < b.length ∧ i < a.length := by unfold stA at hA; rw [Bool.or_eq_false_iff, decide_eq_false_iff_not] at hA; omega
          have hga : a.getD i zPc = a[i] := getDg _ _ (by omega)
          have hgb : b.getD k zPc = b[k] := getDg _ _ (by omega)
          refine VD.nw [] ?_
          refine VD.r [] (.ld vt95) (.inl rfl) ?_
          refine VD.c (.move rfl) ?_
          refine VD.c (.move rfl) ?_
          refine VD.c (.ix (j := k) rfl rfl el96 (by omega)) ?_
          refine VD.r [] (.ld vt152) (.inl rfl) ?_
          refine VD.c (.move rfl) ?_
          refine VD.c (.move rfl) ?_
          refine VD.nw [] ?_
          refine VD.c (.ix (j := i) rfl rfl el96 (by omega)) ?_
          refine VD.r [] (.ld vt152) (.inl rfl) ?_
          refine VD.call rfl rfl (VF.call (rBef_ok hd)) ?_
          refine VD.c (.pickF rfl rfl) ?_
          refine VD.nil ?_
          exact ⟨⟨rfl, rfl, rfl, rfl, rfl, rfl, slE rfl (by unfold stB; first | (rw [decide_eq_true (by omega)]; rfl) | (rw [decide_eq_false (by omega), hga, hgb]; rfl)), trivial⟩, rfl⟩
      show VC _ _ _ _ _ _ _ _
      refine VC.condB rfl (fun c7 => ?_) (fun c7 => ?_)
      · have hB : stB d a b i k = true := c7
        have hkb := (rm_b hi hk hA hB).1
        have hst := (rm_b hi hk hA hB).2
        have hgb : b.getD k zPc = b[k] := getDg _ _ hkb
        refine VC.seq ?_
        refine VC.text ?_
        refine VO.c (.move rfl) ?_
        refine VO.c (.move rfl) ?_
        refine VO.c (.move rfl) ?_
        refine VO.c (.ix (j := k) rfl rfl el96 (by omega)) ?_
        refine VO.r (.ld vt152) ?_
        refine VO.new (.lit [b[k]] el96) ?_
        refine VO.app rfl rfl el96 el96 (by simp; omega) ?_
        intro ww2
        refine VO.c (.assign rfl) ?_
        refine VO.go ?_
        refine VC.text ?_
        refine VO.c (.move rfl) ?_
        refine VO.c (.add rfl rfl (by omega)) ?_
        refine VO.c (.assign rfl) ?_
        refine VO.nil ?_
        refine ⟨_, [(1, .v y96 a), (2, .v y96 b), (3, .p y95 d), (8, .raw ww2), (9, I (((if stA d a b i k then i + 1 else if stB d a b i k then i else i + 1) : Nat) : Int)), (10, I (((if stA d a b i k then k else k + 1) : Nat) : Int))], ?_, ⟨rfl, rfl, rfl, rfl, slI rfl (by first | (rw [if_pos hA]; rfl) | rw [if_neg (by rw [hA]; exact Bool.false_ne_true), if_pos hB] | (rw [if_neg (by rw [hA]; exact Bool.false_ne_true), if_neg (by rw [hB]; exact Bool.false_ne_true)]; rfl)), slI rfl (by first | rw [if_pos hA] | (rw [if_neg (by rw [hA]; exact Bool.false_ne_true)]; rfl)), trivial⟩, (if stA d a b i k then i + 1 else if stB d a b i k then i else i + 1), (if stA d a b i k then k else k + 1), (if stA d a b i k then o ++ [a.getD i zPc] else if stB d a b i k then o ++ [b.getD k zPc] else o ++ [a.getD i zPc]), ww2, rfl, rfl, (by first | rw [if_pos hA, hga] | rw [if_neg (by rw [hA]; exact Bool.false_ne_true), if_pos hB, hgb] | rw [if_neg (by rw [hA]; exact Bool.false_ne_true), if_neg (by rw [hB]; exact Bool.false_ne_true), hga]), (by first | (rw [if_pos hA]; omega) | (rw [if_neg (by rw [hA]; exact Bool.false_ne_true), if_pos hB]; omega) | (rw [if_neg (by rw [hA]; exact Bool.false_ne_true), if_neg (by rw [hB]; exact Bool.false_ne_true)]; omega)), (by first | (rw [if_pos hA]; omega) | (rw [if_neg (by rw [hA]; exact Bool.false_ne_true)]; omega)), (by first | (rw [if_pos hA, if_pos hA, if_pos hA, List.length_append, List.length_singleton]; omega) | (rw [if_neg (by rw [hA]; exact Bool.false_ne_true), if_pos hB, if_neg (by rw [hA]; exact Bool.false_ne_true), if_pos hB, if_neg (by rw [hA]; exact Bool.false_ne_true), List.length_append, List.length_singleton]; omega) | (rw [if_neg (by rw [hA]; exact Bool.false_ne_true), if_neg (by rw [hB]; exact Bool.false_ne_true), if_neg (by rw [hA]; exact Bool.false_ne_true), if_neg (by rw [hB]; exact Bool.false_ne_true), if_neg (by rw [hA]; exact Bool.false_ne_true), List.length_append, List.length_singleton]; omega)), (by simp only [hA, hB, if_true, Bool.false_eq_true, if_false]; rw [hq, hst, map_app])⟩
        first | (rw [if_pos hA, if_pos hA]; omega) | (rw [if_neg (by rw [hA]; exact Bool.false_ne_true), if_pos hB, if_neg (by rw [hA]; exact Bool.false_ne_true)]; omega) | (rw [if_neg (by rw [hA]; exact Bool.false_ne_true), if_neg (by rw [hB]; exact Bool.false_ne_true), if_neg (by rw [hA]; exact Bool.false_ne_true)]; omega)
      · have hB : stB d a b i k = false := c7
        have hia := (rm_c hi hk hA hB).1
        have hkb := (rm_c hi hk hA hB).2.1
        have hga : a.getD i zPc = a[i] := getDg _ _ hia
        have hgb : b.getD k zPc = b[k] := getDg _ _ hkb
        have hst0 := (rm_c hi hk hA hB).2.2
        refine VC.seq ?_
        refine VC.seq ?_
        refine VC.drawn ?_
        refine VD.c (.move rfl) ?_
        refine VD.c (.move rfl) ?_
        refine VD.c (.ix (j := i) rfl rfl el96 (by omega)) ?_
        refine VD.c (.fa (.r (.r (.r (.r .o))))) ?_
        refine VD.r [] (.ld vt124) (.inl rfl) ?_
        refine VD.c (.move rfl) ?_
        refine VD.nw [] ?_
        refine VD.c (.move rfl) ?_
        refine VD.c (.ix (j := k) rfl rfl el96 (by omega)) ?_
        refine VD.c (.fa (.r (.r (.r (.r .o))))) ?_
        refine VD.r [] (.ld vt124) (.inl rfl) ?_
        refine VD.call rfl rfl (VF.call (rSameLv_ok (hra _ (List.getElem_mem _)))) ?_
        refine VD.c (.not) ?_
        refine VD.go ?_
        refine VC.condB rfl (fun c10 => ?_) (fun c10 => ?_)
        · try simp only [Bool.and_eq_true, Bool.or_eq_true, Bool.and_eq_false_iff, Bool.or_eq_false_iff, Bool.not_eq_true', Bool.not_eq_false', decide_eq_true_eq, decide_eq_false_iff_not] at c10
          have hsm : smL (a.getD i zPc) (b.getD k zPc) = false := by rw [hga, hgb]; exact c10
          have hno : rmE (befE d) smL a b = none := by rw [hq, hst0, if_neg (by rw [hsm]; exact Bool.false_ne_true)] <;> rfl
          refine VC.seq ?_
          refine VC.text ?_
          refine VO.c (.assign rfl) ?_
          refine VO.c (.assign rfl) ?_
          refine VO.go ?_
          refine VC.ret ?_
          exact VEnd.two rfl (evC .nil) evT (pvE (by rw [rmgV_none hno])) (pvI (by rw [rmgV_none hno]))
        · try simp only [Bool.and_eq_true, Bool.or_eq_true, Bool.and_eq_false_iff, Bool.or_eq_false_iff, Bool.not_eq_true', Bool.not_eq_false', decide_eq_true_eq, decide_eq_false_iff_not] at c10
          have hsm : smL (a.getD i zPc) (b.getD k zPc) = true := by rw [hga, hgb]; exact c10
          have hst := hst0.trans (if_pos hsm)
          refine VC.skip ?_
          show VC _ _ _ _ _ _ _ _
          refine VC.seq ?_
          refine VC.text ?_
          refine VO.c (.move rfl) ?_
          refine VO.c (.move rfl) ?_
          refine VO.c (.move rfl) ?_
          refine VO.c (.ix (j := i) rfl rfl el96 (by omega)) ?_
          refine VO.r (.ld vt152) ?_
          refine VO.new (.lit [a[i]] el96) ?_
          refine VO.app rfl rfl el96 el96 (by simp; omega) ?_
          intro ww3
          refine VO.c (.assign rfl) ?_
          refine VO.go ?_
          refine VC.seq ?_
          refine VC.text ?_
          refine VO.c (.move rfl) ?_
          refine VO.c (.add rfl rfl (by omega)) ?_
          refine VO.c (.assign rfl) ?_
          refine VO.go ?_
          refine VC.text ?_
          refine VO.c (.move rfl) ?_
          refine VO.c (.add rfl rfl (by omega)) ?_
          refine VO.c (.assign rfl) ?_
          refine VO.nil ?_
          refine ⟨_, [(1, .v y96 a), (2, .v y96 b), (3, .p y95 d), (8, .raw ww3), (9, I (((if stA d a b i k then i + 1 else if stB d a b i k then i else i + 1) : Nat) : Int)), (10, I (((if stA d a b i k then k else k + 1) : Nat) : Int))], ?_, ⟨rfl, rfl, rfl, rfl, slI rfl (by first | (rw [if_pos hA]; rfl) | rw [if_neg (by rw [hA]; exact Bool.false_ne_true), if_pos hB] | (rw [if_neg (by rw [hA]; exact Bool.false_ne_true), if_neg (by rw [hB]; exact Bool.false_ne_true)]; rfl)), slI rfl (by first | rw [if_pos hA] | (rw [if_neg (by rw [hA]; exact Bool.false_ne_true)]; rfl)), trivial⟩, (if stA d a b i k then i + 1 else if stB d a b i k then i else i + 1), (if stA d a b i k then k else k + 1), (if stA d a b i k then o ++ [a.getD i zPc] else if stB d a b i k then o ++ [b.getD k zPc] else o ++ [a.getD i zPc]), ww3, rfl, rfl, (by first | rw [if_pos hA, hga] | rw [if_neg (by rw [hA]; exact Bool.false_ne_true), if_pos hB, hgb] | rw [if_neg (by rw [hA]; exact Bool.false_ne_true), if_neg (by rw [hB]; exact Bool.false_ne_true), hga]), (by first | (rw [if_pos hA]; omega) | (rw [if_neg (by rw [hA]; exact Bool.false_ne_true), if_pos hB]; omega) | (rw [if_neg (by rw [hA]; exact Bool.false_ne_true), if_neg (by rw [hB]; exact Bool.false_ne_true)]; omega)), (by first | (rw [if_pos hA]; omega) | (rw [if_neg (by rw [hA]; exact Bool.false_ne_true)]; omega)), (by first | (rw [if_pos hA, if_pos hA, if_pos hA, List.length_append, List.length_singleton]; omega) | (rw [if_neg (by rw [hA]; exact Bool.false_ne_true), if_pos hB, if_neg (by rw [hA]; exact Bool.false_ne_true), if_pos hB, if_neg (by rw [hA]; exact Bool.false_ne_true), List.length_append, List.length_singleton]; omega) | (rw [if_neg (by rw [hA]; exact Bool.false_ne_true), if_neg (by rw [hB]; exact Bool.false_ne_true), if_neg (by rw [hA]; exact Bool.false_ne_true), if_neg (by rw [hB]; exact Bool.false_ne_true), if_neg (by rw [hA]; exact Bool.false_ne_true), List.length_append, List.length_singleton]; omega)), (by simp only [hA, hB, if_true, Bool.false_eq_true, if_false]; rw [hq, hst, map_app])⟩
          first | (rw [if_pos hA, if_pos hA]; omega) | (rw [if_neg (by rw [hA]; exact Bool.false_ne_true), if_pos hB, if_neg (by rw [hA]; exact Bool.false_ne_true)]; omega) | (rw [if_neg (by rw [hA]; exact Bool.false_ne_true), if_neg (by rw [hB]; exact Bool.false_ne_true), if_neg (by rw [hA]; exact Bool.false_ne_true)]; omega)
  · try simp only [Bool.and_eq_true, Bool.or_eq_true, Bool.and_eq_false_iff, Bool.or_eq_false_iff, Bool.not_eq_true', Bool.not_eq_false', decide_eq_true_eq, decide_eq_false_iff_not] at c3
    have hend : a.length ≤ i ∧ b.length ≤ k := by simp at c3; omega
    refine VC.exit ?_
    show VC _ _ _ _ _ _ _ _
    refine VC.seq ?_
    refine VC.seq ?_
    refine VC.text ?_
    have hfin : rmE (befE d) smL a b = some o := by rw [hq, rm_end (by omega) (by omega)]; simp
    have hmem : ∀ p ∈ o, p ∈ a ∨ p ∈ b := fun p hp => rmE_mem a b hfin hp
    have hrl : ∀ p ∈ o, p.2.2.2.2.length < 100000 := fun p hp => (hmem p hp).elim (hra p) (hrb p)
    have hrv : ∀ p ∈ o, ∀ x ∈ p.2.2.2.2, lvlE x = 0 := fun p hp => (hmem p hp).elim (hva p) (hvb p)
    refine VO.c (.move rfl) ?_
    refine VO.r (.lenO m0 el96) ?_
    refine VO.c (.gtr) ?_
    refine VO.go ?_
    refine VC.condD rfl (fun c15 => ?_) (fun c15 => ?_)
    · refine VC.seq ?_
      refine VC.text ?_
      refine VO.c (.assign rfl) ?_
      refine VO.c (.assign rfl) ?_
      refine VO.go ?_
      refine VC.ret ?_
      exact VEnd.two rfl (evC .nil) evT (pvE (by rw [rmgV_some hfin, if_pos (by simpa using c15)])) (pvI (by rw [rmgV_some hfin, if_pos (by simpa using c15)]))
    · refine VC.skip ?_
      show VC _ _ _ _ _ _ _ _
      refine VC.seq ?_
      refine VC.seq ?_
      refine VC.text ?_
      refine VO.c (.assign rfl) ?_
      refine VO.go ?_
      refine VC.block ?_
      refine VC.keep [(8, .raw out), (11, I ((0 : Nat) : Int))] ⟨rfl, rfl, trivial⟩ ?_
      refine VC.loop (I := fun kk ff ss => ∃ (n : Nat), kk = o.length - n ∧ ff = [(8, .raw out), (11, I ((n : Nat) : Int))] ∧ ss = [(out, .row 152 y152 (halfPc o n))] ∧ (n ≤ o.length)) ?_ _ _ _ ⟨0, rfl, rfl, (by rfl), Nat.zero_le _⟩
      rintro kk ff ss ⟨n, hk2, rfl, rfl, hn⟩
      have hhl := half_len (o := o) hn
      refine VC.seq ?_
      refine VC.seq ?_
      refine VC.text ?_
      refine VO.c (.move rfl) ?_
      refine VO.c (.move rfl) ?_
      refine VO.r (.lenO m0 el96) ?_
      refine VO.c (.lss) ?_
      refine VO.go ?_
      refine VC.condD rfl (fun c18 => ?_) (fun c18 => ?_)
      · have hn' : n < o.length := by omega
        have hat := half_at hn' (by omega)
        refine VC.skip ?_
        show VC _ _ _ _ _ _ _ _
        refine VC.seq ?_
        refine VC.block ?_
        refine VC.text ?_
        refine VO.c (.move rfl) ?_
        refine VO.c (.move rfl) ?_
        refine VO.c (.move rfl) ?_
        refine VO.c (.move rfl) ?_
        refine VO.c (.ixO (j := n) rfl rfl m0 el96 (by omega)) ?_
        refine VO.c (.faE (j := n) (k := 4) m0 (by omega)) ?_
        refine VO.r (.ldE (j := n) (k := 4) (by omega) (.r (.r (.r (.r .o)))) rfl m0 vt124) ?_
        refine VO.call rfl rfl (VF.call (rPlain_ok (by rw [hat]; exact hrl _ (List.getElem_mem _)) (by rw [hat]; exact hrv _ (List.getElem_mem _)))) ?_
        refine VO.c (.ixO (j := n) rfl rfl m0 el96 (by omega)) ?_
        refine VO.c (.faE (j := n) (k := 4) m0 (by omega)) ?_
        refine VO.setEF (j := n) (k := 4) (dz := (((halfPc o n)[n]).1, ((halfPc o n)[n]).2.1, ((halfPc o n)[n]).2.2.1, ((halfPc o n)[n]).2.2.2.1, (((halfPc o n)[n]).2.2.2.2).map plusZ)) (by omega) vt124 (.r (.r (.r (.r .o)))) ?_
        refine VO.nil ?_
        show VC _ _ _ _ _ _ _ _
        refine VC.text ?_
        refine VO.c (.move rfl) ?_
        refine VO.c (.add rfl rfl (by omega)) ?_
        refine VO.c (.assign rfl) ?_
        refine VO.nil ?_
        refine ⟨_, [(8, .raw out), (11, I (((n + 1) : Nat) : Int))], ?_, ⟨rfl, rfl, trivial⟩, (n + 1), rfl, rfl, (by rw [← half_set (show n < o.length by omega)]; simp only [half_at (show n < o.length by omega)] <;> rfl), (by omega)⟩
        omega
      · refine VC.exit ?_
        show VC _ _ _ _ _ _ _ _
        refine VC.seq ?_
        refine VC.text ?_
        refine VO.c (.move rfl) ?_
        refine VO.c (.assign rfl) ?_
        refine VO.c (.assign rfl) ?_
        refine VO.go ?_
        refine VC.ret ?_
        exact VEnd.two rfl (evC (.row m0)) evT (pvE (by rw [rmgV_some hfin, if_neg (by simpa using c15), halfPc, show n = o.length by omega]; simp)) (pvI (by rw [rmgV_some hfin, if_neg (by simpa using c15)]))
end Go.Proofs
namespace Go.Proofs
open Go.Fs Ieee
set_option linter.unusedVariables false

/-! ## The law of stores -/
theorem ltP_bef {d : Dom} {a b : Pc} (hd : domE d = 0) (ha : pcE d a = 0) (hb : pcE d b = 0) : ltP (plE d a) (plE d b) = befE d a b := by
  have h := cmp_bef hd ha hb
  unfold ltP
  by_cases h2 : 0 ≤ cmpP (plE d a) (plE d b)
  · rw [decide_eq_true h2] at h
    rw [decide_eq_false (by omega), ← Bool.not_not (befE d a b), ← h] <;> rfl
  · rw [decide_eq_false h2] at h
    rw [decide_eq_true (by omega), ← Bool.not_not (befE d a b), ← h] <;> rfl
theorem store_str {d : Dom} {l : List Pc} (hs : storeE d l = 0) : StrS ltP (l.map (plE d)) := by
  obtain ⟨hd, _, hz⟩ := store_dom hs
  refine List.pairwise_iff_getElem.2 fun i j hi hj h => ?_
  rw [List.length_map] at hi hj
  rw [List.getElem_map, List.getElem_map, pcA_eq hi, pcA_eq hj]
  have := all_lt hz j h hj
  unfold ltP
  exact decide_eq_true (by omega)
theorem store_pc {d : Dom} {l : List Pc} (hs : storeE d l = 0) : ∀ p ∈ l, pcE d p = 0 := fun p hp => by
  obtain ⟨i, hi, rfl⟩ := List.getElem_of_mem hp
  have := piece_zero ((store_dom hs).2.2 i hi)
  rwa [← pcA_eq hi] at this
theorem mrg_same {d : Dom} {a b : List Pc} (ha : storeE d a = 0) (hb : storeE d b = 0) : pgL ltP smP none (allP d a b) = (rmE (befE d) smL a b).map (List.map (plE d)) := by
  have hd := (store_dom ha).1
  unfold allP
  rw [pgL_sort ltP_weak (store_str ha) (store_str hb)]
  exact rmE_map (plE d) a b fun x hx y hy => ⟨ltP_bef hd (store_pc ha x hx) (store_pc hb y hy), ltP_bef hd (store_pc hb y hy) (store_pc ha x hx), rfl⟩
theorem pl_fst {d : Dom} (l : List Pc) : (l.map (plE d)).map (·.1) = l := by rw [List.map_map]; exact List.map_id' l
theorem mrg_val {d : Dom} {a b : List Pc} (ha : storeE d a = 0) (hb : storeE d b = 0) : mrgV d a b = mrgQ (rmE (befE d) smL a b) := by
  have h0 : mrgB d a b = 0 := by unfold mrgB; rw [ha, hb] <;> rfl
  rw [mrgV, if_neg (by simpa using h0), mrg_same ha hb]
  cases rmE (befE d) smL a b with
  | none => rfl
  | some o => show mrgQ (some ((o.map (plE d)).map (·.1))) = _; rw [pl_fst]
def samePc (a b : Pc) : Bool := decide (a.1 = b.1 ∧ a.2.1 = b.2.1 ∧ a.2.2.1 = b.2.2.1 ∧ a.2.2.2.1 = b.2.2.2.1 ∧ sameLv a.2.2.2.2 b.2.2.2.2 = true)
def sameSt (a b : List Pc) : Bool := decide (a.length = b.length ∧ ∀ i, i < a.length → samePc (pcA a i) (pcA b i) = true)
theorem same_plusPc {o : List Pc} (h : ∀ p ∈ o, ∀ x ∈ p.2.2.2.2, lvlE x = 0) : sameSt o (o.map plusPc) = true := by
  refine decide_eq_true ⟨by simp, fun i hi => ?_⟩
  rw [← pcA_eq hi, ← pcA_eq (show i < (o.map plusPc).length by simpa using hi), List.getElem_map]
  exact decide_eq_true ⟨rfl, rfl, rfl, rfl, same_plus (h _ (List.getElem_mem hi))⟩
theorem store_lv {d : Dom} {l : List Pc} (hs : storeE d l = 0) : ∀ p ∈ l, ∀ x ∈ p.2.2.2.2, lvlE x = 0 := fun p hp => (pc_lv (store_pc hs p hp)).2
theorem finS1 {d : Dom} {a b : List Pc} (ha : storeE d a = 0) (hb : storeE d b = 0) : sameSt (mrgV d a b).1 (rmgV d a b).1 = true ∧ (mrgV d a b).2 = (rmgV d a b).2 := by
  rw [mrg_val ha hb, rmgV]
  cases hr : rmE (befE d) smL a b with
  | none => exact ⟨rfl, rfl⟩
  | some o =>
    show sameSt (if (4096 : Int) < (o.length : Nat) then (([], 5) : List Pc × Int) else (o, 0)).1 (if (4096 : Int) < ((o.map plusPc).length : Nat) then (([], 5) : List Pc × Int) else (o.map plusPc, 0)).1 = true ∧ (if (4096 : Int) < (o.length : Nat) then (([], 5) : List Pc × Int) else (o, 0)).2 = (if (4096 : Int) < ((o.map plusPc).length : Nat) then (([], 5) : List Pc × Int) else (o.map plusPc, 0)).2
    rw [List.length_map]
    split
    · exact ⟨rfl, rfl⟩
    · exact ⟨same_plusPc fun p hp => (rmE_mem a b hr hp).elim (store_lv ha p) (store_lv hb p), rfl⟩
theorem finS2 {d : Dom} {a b : List Pc} (h : ¬ mrgB d a b = 0) : sameSt (mrgV d a b).1 [] = true ∧ (mrgV d a b).2 = mrgB d a b := by
  rw [mrgV, if_pos h]; exact ⟨rfl, rfl⟩
theorem mrg_two {d : Dom} {a b : List Pc} (h : mrgB d a b = 0) : storeE d a = 0 ∧ storeE d b = 0 := by
  unfold mrgB at h
  rw [firstE_zero] at h
  exact ⟨h _ (by simp), h _ (by simp)⟩
theorem rmE_len {α : Type} {lt same : α → α → Bool} : ∀ (A B : List α) {r : List α}, rmE lt same A B = some r → r.length ≤ A.length + B.length
  | [], B, r, h => by rw [rmE] at h; obtain rfl := Option.some.inj h; simp
  | x :: A, [], r, h => by rw [rmE] at h; obtain rfl := Option.some.inj h; simp
  | x :: A, y :: B, r, h => by
    rw [rmE] at h
    split at h
    · obtain ⟨q, h1, rfl⟩ := Option.map_eq_some_iff.1 h
      have := rmE_len A (y :: B) h1; simp at this ⊢; omega
    · split at h
      · obtain ⟨q, h1, rfl⟩ := Option.map_eq_some_iff.1 h
        have := rmE_len (x :: A) B h1; simp at this ⊢; omega
      · split at h
        · obtain ⟨q, h1, rfl⟩ := Option.map_eq_some_iff.1 h
          have := rmE_len A B h1; simp at this ⊢; omega
        · cases h
termination_by A B => A.length + B.length
theorem mrgQ_ok {o : Option (List Pc)} {N : Nat} {T : Pc → Prop} (h : ∀ r, o = some r → r.length ≤ N ∧ ∀ p ∈ r, T p) : (mrgQ o).1.length ≤ N ∧ ∀ p ∈ (mrgQ o).1, T p := by
  cases o with
  | none => exact ⟨Nat.zero_le _, fun p hp => by cases hp⟩
  | some r =>
    show (if (4096 : Int) < (r.length : Nat) then (([], 5) : List Pc × Int) else (r, 0)).1.length ≤ N ∧ ∀ p ∈ (if (4096 : Int) < (r.length : Nat) then (([], 5) : List Pc × Int) else (r, 0)).1, T p
    split
    · exact ⟨Nat.zero_le _, fun p hp => by cases hp⟩
    · exact h r rfl
theorem mrgV_ok {d : Dom} {a b : List Pc} {T : Pc → Prop} (ha : ∀ p ∈ a, T p) (hb : ∀ p ∈ b, T p) : (mrgV d a b).1.length ≤ a.length + b.length ∧ ∀ p ∈ (mrgV d a b).1, T p := by
  by_cases h : mrgB d a b = 0
  · rw [mrg_val (mrg_two h).1 (mrg_two h).2]
    exact mrgQ_ok fun r hr => ⟨rmE_len a b hr, fun p hp => (rmE_mem a b hr hp).elim (ha p) (hb p)⟩
  · rw [mrgV, if_pos h]; exact ⟨Nat.zero_le _, fun p hp => by cases hp⟩
def chkE (d : Dom) (p : Pc) : Int := if domE d ≠ 0 then domE d else pcE d p
theorem sChk_ok {d : Int × Int × Int × (List (ByteArray × Int))} {p : Int × ByteArray × Int × Int × (List Nat)} (hv : p.2.2.2.2.length < 100000) : VF Tryz.prog OA 82 [.v y106 d, .v y160 p] (I (chkE d p)) := by
  refine VF.enter Tryz.func82 rfl (fun _ _ => rfl) rfl ?_
  show VC _ _ _ _ _ [(0, .v y106 d), (1, .v y160 p)] [] _
  refine VC.seq ?_
  refine VC.text ?_
  refine VO.new (.box) ?_
  refine VO.new (.box) ?_
  refine VO.c (.assign rfl) ?_
  refine VO.go ?_
  refine VC.seq ?_
  refine VC.seq ?_
  refine VC.text ?_
  refine VO.r (.ld vt106) ?_
  refine VO.call rfl rfl (VF.call (sDom_ok )) ?_
  refine VO.c (.assign rfl) ?_
  refine VO.go ?_
  refine VC.seq ?_
  refine VC.text ?_
  refine VO.c (.move rfl) ?_
  refine VO.c (.neq) ?_
  refine VO.go ?_
  refine VC.condD rfl (fun c2 => ?_) (fun c2 => ?_)
  · refine VC.seq ?_
    refine VC.text ?_
    refine VO.c (.move rfl) ?_
    refine VO.c (.assign rfl) ?_
    refine VO.go ?_
    refine VC.ret ?_
    exact VEnd.one rfl evT (pvI (by rw [chkE, if_pos c2]))
  · refine VC.skip ?_
    show VC _ _ _ _ _ _ _ _
    refine VC.seq ?_
    refine VC.text ?_
    refine VO.r (.ld vt106) ?_
    refine VO.r (.ld vt160) ?_
    refine VO.call rfl rfl (VF.call (sPc_ok (by simpa using c2) hv)) ?_
    refine VO.c (.assign rfl) ?_
    refine VO.go ?_
    refine VC.ret ?_
    exact VEnd.one rfl evT (pvI (by rw [chkE, if_neg c2]))
theorem rChk_ok {d : Int × Int × Int × (List (ByteArray × Int))} {p : Int × ByteArray × Int × Int × (List Nat)} (hdl : d.2.2.2.length < 100000) (hv : p.2.2.2.2.length < 100000) : VF Tryz.prog OA 84 [.v y95 d, .v y152 p] (I (chkE d p)) := by
  refine VF.enter Tryz.func84 rfl (fun _ _ => rfl) rfl ?_
  show VC _ _ _ _ _ [(0, .v y95 d), (1, .v y152 p)] [] _
  refine VC.seq ?_
  refine VC.text ?_
  refine VO.new (.box) ?_
  refine VO.new (.box) ?_
  refine VO.c (.assign rfl) ?_
  refine VO.go ?_
  refine VC.seq ?_
  refine VC.seq ?_
  refine VC.text ?_
  refine VO.r (.ld vt95) ?_
  refine VO.call rfl rfl (VF.call (rDom_ok )) ?_
  refine VO.c (.assign rfl) ?_
  refine VO.go ?_
  refine VC.seq ?_
  refine VC.text ?_
  refine VO.c (.move rfl) ?_
  refine VO.c (.neq) ?_
  refine VO.go ?_
  refine VC.condD rfl (fun c2 => ?_) (fun c2 => ?_)
  · refine VC.seq ?_
    refine VC.text ?_
    refine VO.c (.move rfl) ?_
    refine VO.c (.assign rfl) ?_
    refine VO.go ?_
    refine VC.ret ?_
    exact VEnd.one rfl evT (pvI (by rw [chkE, if_pos c2]))
  · refine VC.skip ?_
    show VC _ _ _ _ _ _ _ _
    refine VC.seq ?_
    refine VC.text ?_
    refine VO.r (.ld vt95) ?_
    refine VO.r (.ld vt152) ?_
    refine VO.call rfl rfl (VF.call (rPc_ok (by simpa using c2) hv)) ?_
    refine VO.c (.assign rfl) ?_
    refine VO.go ?_
    refine VC.ret ?_
    exact VEnd.one rfl evT (pvI (by rw [chkE, if_neg c2]))
theorem rSame_ok {a : List (Int × ByteArray × Int × Int × (List Nat))} {b : List (Int × ByteArray × Int × Int × (List Nat))} (ha : a.length < 100000) (hr : ∀ r ∈ a, r.2.2.2.2.length < 100000) : VF Tryz.prog OA 86 [.v y96 a, .v y96 b] (B (sameSt a b)) := by
  refine VF.enter Tryz.func86 rfl (fun _ _ => rfl) rfl ?_
  show VC _ _ _ _ _ [(0, .v y96 a), (1, .v y96 b)] [] _
  refine VC.seq ?_
  refine VC.text ?_
  refine VO.c (.assign rfl) ?_
  refine VO.go ?_
  refine VC.seq ?_
  refine VC.seq ?_
  refine VC.text ?_
  refine VO.c (.move rfl) ?_
  refine VO.r (.len el96) ?_
  refine VO.c (.move rfl) ?_
  refine VO.r (.len el96) ?_
  refine VO.c (.neq) ?_
  refine VO.go ?_
  refine VC.condD rfl (fun c1 => ?_) (fun c1 => ?_)
  · have hne : ¬ a.length = b.length := by omega
    refine VC.seq ?_
    refine VC.text ?_
    refine VO.c (.assign rfl) ?_
    refine VO.go ?_
    refine VC.ret ?_
    exact VEnd.one rfl evT (pvE (by exact (decide_eq_false fun hh => hne hh.1).symm))
  · have hle : a.length = b.length := by omega
    refine VC.skip ?_
    show VC _ _ _ _ _ _ _ _
    refine VC.seq ?_
    refine VC.seq ?_
    refine VC.text ?_
    refine VO.c (.assign rfl) ?_
    refine VO.go ?_
    refine VC.block ?_
    refine VC.keep [(0, .v y96 a), (1, .v y96 b), (5, I ((0 : Nat) : Int))] ⟨rfl, rfl, rfl, trivial⟩ ?_
    refine VC.loop (I := fun kk ff ss => ∃ (i : Nat), kk = a.length - i ∧ ff = [(0, .v y96 a), (1, .v y96 b), (5, I ((i : Nat) : Int))] ∧ ss = [] ∧ (i ≤ a.length) ∧ (∀ j, j < i → samePc (pcA a j) (pcA b j) = true)) ?_ _ _ _ ⟨0, rfl, rfl, rfl, Nat.zero_le _, (by intro j hj; omega)⟩
    rintro kk ff ss ⟨i, hk0, rfl, rfl, hi, hn⟩
    refine VC.seq ?_
    refine VC.seq ?_
    refine VC.text ?_
    refine VO.c (.move rfl) ?_
    refine VO.c (.move rfl) ?_
    refine VO.r (.len el96) ?_
    refine VO.c (.lss) ?_
    refine VO.go ?_
    refine VC.condD rfl (fun c4 => ?_) (fun c4 => ?_)
    · have hi' : i < a.length := by omega
      have hj' : i < b.length := by omega
      refine VC.skip ?_
      show VC _ _ _ _ _ _ _ _
      refine VC.seq ?_
      refine VC.block ?_
      refine VC.seq ?_
      refine VC.join [(0, .v y96 a), (1, .v y96 b), (5, I ((i : Nat) : Int)), (80, B (!samePc a[i] b[i]))] [] ?_ ?_
      · skip
        refine VC.drawn ?_
        refine VD.c (.move rfl) ?_
        refine VD.c (.move rfl) ?_
        refine VD.c (.ix (j := i) rfl rfl el96 (by omega)) ?_
        refine VD.c (.fa (.l .o)) ?_
        refine VD.r [] (.ld vt3) (.inl rfl) ?_
        refine VD.c (.move rfl) ?_
        refine VD.nw [] ?_
        refine VD.c (.move rfl) ?_
        refine VD.c (.ix (j := i) rfl rfl el96 (by omega)) ?_
        refine VD.c (.fa (.l .o)) ?_
        refine VD.r [] (.ld vt3) (.inl rfl) ?_
        refine VD.c (.neq) ?_
        refine VD.c (.move rfl) ?_
        refine VD.splitD (x := 28) rfl (fun g6_11 => ?_) (fun g6_11 => ?_)
        · refine VD.nw [] ?_
          refine VD.skip ?_
          refine VD.skip ?_
          refine VD.skip ?_
          refine VD.skip ?_
          refine VD.skip ?_
          refine VD.skip ?_
          refine VD.skip ?_
          refine VD.nw [] ?_
          refine VD.skip ?_
          refine VD.skip ?_
          refine VD.skip ?_
          refine VD.skip ?_
          refine VD.c (.pickT rfl rfl) ?_
          refine VD.c (.move rfl) ?_
          refine VD.skip ?_
          refine VD.nw [] ?_
          refine VD.skip ?_
          refine VD.skip ?_
          refine VD.skip ?_
          refine VD.skip ?_
          refine VD.skip ?_
          refine VD.skip ?_
          refine VD.skip ?_
          refine VD.nw [] ?_
          refine VD.skip ?_
          refine VD.skip ?_
          refine VD.skip ?_
          refine VD.c (.pickT rfl rfl) ?_
          refine VD.c (.move rfl) ?_
          refine VD.skip ?_
          refine VD.skip ?_
          refine VD.nw [] ?_
          refine VD.skip ?_
          refine VD.skip ?_
          refine VD.skip ?_
          refine VD.skip ?_
          refine VD.skip ?_
          refine VD.skip ?_
          refine VD.skip ?_
          refine VD.nw [] ?_
          refine VD.skip ?_
          refine VD.skip ?_
          refine VD.c (.pickT rfl rfl) ?_
          refine VD.c (.move rfl) ?_
          refine VD.skip ?_
          refine VD.skip ?_
          refine VD.skip ?_
          refine VD.nw [] ?_
          refine VD.skip ?_
          refine VD.skip ?_
          refine VD.skip ?_
          refine VD.skip ?_
          refine VD.skip ?_
          refine VD.skip ?_
          refine VD.skip ?_
          refine VD.nw [] ?_
          refine VD.skip ?_
          refine VD.skip ?_
          refine VD.c (.pickT rfl rfl) ?_
          refine VD.nil ?_
          exact ⟨⟨rfl, rfl, rfl, slE rfl (by unfold samePc; simp_all), trivial⟩, rfl⟩
        · refine VD.nw [] ?_
          refine VD.c (.move rfl) ?_
          refine VD.c (.move rfl) ?_
          refine VD.c (.ix (j := i) rfl rfl el96 (by omega)) ?_
          refine VD.c (.fa (.r (.l .o))) ?_
          refine VD.r [] (.ld vt9) (.inl rfl) ?_
          refine VD.c (.move rfl) ?_
          refine VD.c (.move rfl) ?_
          refine VD.nw [] ?_
          refine VD.c (.ix (j := i) rfl rfl el96 (by omega)) ?_
          refine VD.c (.fa (.r (.l .o))) ?_
          refine VD.r [] (.ld vt9) (.inl rfl) ?_
          refine VD.c (.sneq) ?_
          refine VD.c (.pickF rfl rfl) ?_
          refine VD.c (.move rfl) ?_
          refine VD.splitD (x := 41) rfl (fun g6_24 => ?_) (fun g6_24 => ?_)
          · refine VD.nw [] ?_
            refine VD.skip ?_
            refine VD.skip ?_
            refine VD.skip ?_
            refine VD.skip ?_
            refine VD.skip ?_
            refine VD.skip ?_
            refine VD.skip ?_
            refine VD.nw [] ?_
            refine VD.skip ?_
            refine VD.skip ?_
            refine VD.skip ?_
            refine VD.skip ?_
            refine VD.c (.pickT rfl rfl) ?_
            refine VD.c (.move rfl) ?_
            refine VD.skip ?_
            refine VD.nw [] ?_
            refine VD.skip ?_
            refine VD.skip ?_
            refine VD.skip ?_
            refine VD.skip ?_
            refine VD.skip ?_
            refine VD.skip ?_
            refine VD.skip ?_
            refine VD.nw [] ?_
            refine VD.skip ?_
            refine VD.skip ?_
            refine VD.skip ?_
            refine VD.c (.pickT rfl rfl) ?_
            refine VD.c (.move rfl) ?_
            refine VD.skip ?_
            refine VD.skip ?_
            refine VD.nw [] ?_
            refine VD.skip ?_
            refine VD.skip ?_
            refine VD.skip ?_
            refine VD.skip ?_
            refine VD.skip ?_
            refine VD.skip ?_
            refine VD.skip ?_
            refine VD.nw [] ?_
            refine VD.skip ?_
            refine VD.skip ?_
            refine VD.skip ?_
            refine VD.c (.pickT rfl rfl) ?_
            refine VD.nil ?_
            exact ⟨⟨rfl, rfl, rfl, slE rfl (by unfold samePc; simp_all), trivial⟩, rfl⟩
          · refine VD.nw [] ?_
            refine VD.c (.move rfl) ?_
            refine VD.c (.move rfl) ?_
            refine VD.c (.ix (j := i) rfl rfl el96 (by omega)) ?_
            refine VD.c (.fa (.r (.r (.l .o)))) ?_
            refine VD.r [] (.ld vt3) (.inl rfl) ?_
            refine VD.c (.move rfl) ?_
            refine VD.c (.move rfl) ?_
            refine VD.nw [] ?_
            refine VD.c (.ix (j := i) rfl rfl el96 (by omega)) ?_
            refine VD.c (.fa (.r (.r (.l .o)))) ?_
            refine VD.r [] (.ld vt3) (.inl rfl) ?_
            refine VD.c (.neq) ?_
            refine VD.c (.pickF rfl rfl) ?_
            refine VD.c (.move rfl) ?_
            refine VD.splitD (x := 54) rfl (fun g6_37 => ?_) (fun g6_37 => ?_)
            · refine VD.nw [] ?_
              refine VD.skip ?_
              refine VD.skip ?_
              refine VD.skip ?_
              refine VD.skip ?_
              refine VD.skip ?_
              refine VD.skip ?_
              refine VD.skip ?_
              refine VD.nw [] ?_
              refine VD.skip ?_
              refine VD.skip ?_
              refine VD.skip ?_
              refine VD.skip ?_
              refine VD.c (.pickT rfl rfl) ?_
              refine VD.c (.move rfl) ?_
              refine VD.skip ?_
              refine VD.nw [] ?_
              refine VD.skip ?_
              refine VD.skip ?_
              refine VD.skip ?_
              refine VD.skip ?_
              refine VD.skip ?_
              refine VD.skip ?_
              refine VD.skip ?_
              refine VD.nw [] ?_
              refine VD.skip ?_
              refine VD.skip ?_
              refine VD.skip ?_
              refine VD.skip ?_
              refine VD.c (.pickT rfl rfl) ?_
              refine VD.nil ?_
              exact ⟨⟨rfl, rfl, rfl, slE rfl (by unfold samePc; simp_all), trivial⟩, rfl⟩
            · refine VD.nw [] ?_
              refine VD.c (.move rfl) ?_
              refine VD.c (.move rfl) ?_
              refine VD.c (.ix (j := i) rfl rfl el96 (by omega)) ?_
              refine VD.c (.fa (.r (.r (.r (.l .o))))) ?_
              refine VD.r [] (.ld vt3) (.inl rfl) ?_
              refine VD.c (.move rfl) ?_
              refine VD.c (.move rfl) ?_
              refine VD.nw [] ?_
              refine VD.c (.ix (j := i) rfl rfl el96 (by omega)) ?_
              refine VD.c (.fa (.r (.r (.r (.l .o))))) ?_
              refine VD.r [] (.ld vt3) (.inl rfl) ?_
              refine VD.c (.neq) ?_
              refine VD.c (.pickF rfl rfl) ?_
              refine VD.c (.move rfl) ?_
              refine VD.splitD (x := 67) rfl (fun g6_50 => ?_) (fun g6_50 => ?_)
              · refine VD.nw [] ?_
                refine VD.skip ?_
                refine VD.skip ?_
                refine VD.skip ?_
                refine VD.skip ?_
                refine VD.skip ?_
                refine VD.skip ?_
                refine VD.skip ?_
                refine VD.nw [] ?_
                refine VD.skip ?_
                refine VD.skip ?_
                refine VD.skip ?_
                refine VD.skip ?_
                refine VD.skip ?_
                refine VD.c (.pickT rfl rfl) ?_
                refine VD.nil ?_
                exact ⟨⟨rfl, rfl, rfl, slE rfl (by unfold samePc; simp_all), trivial⟩, rfl⟩
              · refine VD.nw [] ?_
                refine VD.c (.move rfl) ?_
                refine VD.c (.move rfl) ?_
                refine VD.c (.ix (j := i) rfl rfl el96 (by omega)) ?_
                refine VD.c (.fa (.r (.r (.r (.r .o))))) ?_
                refine VD.r [] (.ld vt124) (.inl rfl) ?_
                refine VD.c (.move rfl) ?_
                refine VD.c (.move rfl) ?_
                refine VD.nw [] ?_
                refine VD.c (.ix (j := i) rfl rfl el96 (by omega)) ?_
                refine VD.c (.fa (.r (.r (.r (.r .o))))) ?_
                refine VD.r [] (.ld vt124) (.inl rfl) ?_
                refine VD.call rfl rfl (VF.call (rSameLv_ok (hr _ (List.getElem_mem _)))) ?_
                refine VD.c (.not) ?_
                refine VD.c (.pickF rfl rfl) ?_
                refine VD.nil ?_
                exact ⟨⟨rfl, rfl, rfl, slE rfl (by unfold samePc; simp_all), trivial⟩, rfl⟩
      show VC _ _ _ _ _ _ _ _
      refine VC.condB rfl (fun c6 => ?_) (fun c6 => ?_)
      · try simp only [Bool.and_eq_true, Bool.or_eq_true, Bool.and_eq_false_iff, Bool.or_eq_false_iff, Bool.not_eq_true', Bool.not_eq_false', decide_eq_true_eq, decide_eq_false_iff_not] at c6
        have c6' : samePc a[i] b[i] = false := by simpa using c6
        refine VC.seq ?_
        refine VC.text ?_
        refine VO.c (.assign rfl) ?_
        refine VO.go ?_
        refine VC.ret ?_
        exact VEnd.one rfl evT (pvE (by exact (decide_eq_false fun hh => by have := hh.2 i hi'; rw [← pcA_eq hi', ← pcA_eq hj', c6'] at this; cases this).symm))
      · try simp only [Bool.and_eq_true, Bool.or_eq_true, Bool.and_eq_false_iff, Bool.or_eq_false_iff, Bool.not_eq_true', Bool.not_eq_false', decide_eq_true_eq, decide_eq_false_iff_not] at c6
        have c6' : samePc a[i] b[i] = true := by simpa using c6
        refine VC.skip ?_
        show VC _ _ _ _ _ _ _ _
        refine VC.text ?_
        refine VO.c (.move rfl) ?_
        refine VO.c (.add rfl rfl (by omega)) ?_
        refine VO.c (.assign rfl) ?_
        refine VO.nil ?_
        refine ⟨_, [(0, .v y96 a), (1, .v y96 b), (5, I (((i + 1) : Nat) : Int))], ?_, ⟨rfl, rfl, rfl, trivial⟩, (i + 1), rfl, rfl, rfl, (by omega), (by intro j hj; rcases Nat.lt_succ_iff_lt_or_eq.1 hj with h | h; exact hn j h; subst h; rw [← pcA_eq hi', ← pcA_eq hj']; exact c6')⟩
        omega
    · refine VC.exit ?_
      show VC _ _ _ _ _ _ _ _
      refine VC.seq ?_
      refine VC.text ?_
      refine VO.c (.assign rfl) ?_
      refine VO.go ?_
      refine VC.ret ?_
      exact VEnd.one rfl evT (pvE (by exact (decide_eq_true ⟨hle, fun j hj => hn j (by omega)⟩).symm))
theorem lTold_ok {l : List (Int × ByteArray × Int × Int × (List Nat))} (hl : l.length < 100000) : VF Tryz.prog OA 87 [.v y108 l] (.v y96 l) := by
  refine VF.enter Tryz.func87 rfl (fun _ _ => rfl) rfl ?_
  show VC _ _ _ _ _ [(0, .v y108 l)] [] _
  refine VC.seq ?_
  refine VC.text ?_
  refine VO.c (.assign rfl) ?_
  refine VO.go ?_
  refine VC.seq ?_
  refine VC.text ?_
  refine VO.c (.assign rfl) ?_
  refine VO.go ?_
  refine VC.seq ?_
  refine VC.seq ?_
  refine VC.text ?_
  refine VO.c (.move rfl) ?_
  refine VO.r (.len el108) ?_
  refine VO.c (.move rfl) ?_
  refine VO.go ?_
  refine VC.block ?_
  refine VC.cell0 152 y152 ?_
  refine VC.keep [(3, .raw (.slice none 0 0)), (6, .v y108 l), (7, I ((l.length : Nat) : Int)), (8, I ((0 : Nat) : Int))] ⟨rfl, rfl, rfl, rfl, trivial⟩ ?_
  refine VC.loop (I := fun kk ff ss => ∃ (j : Nat) (out : Value), kk = l.length - j ∧ ff = [(3, .raw out), (6, .v y108 l), (7, I ((l.length : Nat) : Int)), (8, I ((j : Nat) : Int))] ∧ ss = [(out, .row 152 y152 (l.take j))] ∧ (j ≤ l.length)) ?_ _ _ _ ⟨0, (.slice none 0 0), rfl, rfl, rfl, Nat.zero_le _⟩
  rintro kk ff ss ⟨j, out, hk0, rfl, rfl, hj⟩
  refine VC.seq ?_
  refine VC.text ?_
  refine VO.c (.lss) ?_
  refine VO.go ?_
  refine VC.seq ?_
  refine VC.condD rfl (fun c3 => ?_) (fun c3 => ?_)
  · refine VC.skip ?_
    show VC _ _ _ _ _ _ _ _
    refine VC.seq ?_
    refine VC.block ?_
    refine VC.seq ?_
    refine VC.text ?_
    refine VO.c (.ix (j := j) rfl rfl el108 (by omega)) ?_
    refine VO.r (.ld vt160) ?_
    refine VO.cell (.alloc zt160) ?_
    intro ww1
    refine VO.setV (cs' := [I ((l[j]).1), St ((l[j]).2.1), I ((l[j]).2.2.1), I ((l[j]).2.2.2.1), .v y124 ((l[j]).2.2.2.2)]) vt160 .v ?_
    refine VO.shut [(5, .p y160 (l[j]))] (.cons rfl (.var m0 .refl) .nil) ?_
    refine VO.go ?_
    refine VC.text ?_
    refine VO.c (.move rfl) ?_
    refine VO.r (.ld vt160) ?_
    refine VO.new (.lit [l[j]] el96) ?_
    refine VO.app rfl rfl el96 el96 (by simp; omega) ?_
    intro ww2
    refine VO.c (.assign rfl) ?_
    refine VO.nil ?_
    show VC _ _ _ _ _ _ _ _
    refine VC.text ?_
    refine VO.c (.add rfl rfl (by omega)) ?_
    refine VO.c (.move rfl) ?_
    refine VO.nil ?_
    refine ⟨_, [(3, .raw ww2), (6, .v y108 l), (7, I ((l.length : Nat) : Int)), (8, I (((j + 1) : Nat) : Int))], ?_, ⟨rfl, rfl, rfl, rfl, trivial⟩, (j + 1), ww2, rfl, rfl, (by rw [List.take_succ_eq_append_getElem (by omega)] <;> rfl), (by omega)⟩
    omega
  · refine VC.exit ?_
    show VC _ _ _ _ _ _ _ _
    refine VC.seq ?_
    refine VC.text ?_
    refine VO.c (.move rfl) ?_
    refine VO.c (.assign rfl) ?_
    refine VO.go ?_
    refine VC.ret ?_
    exact VEnd.one rfl (evC (.row m0)) (pvE (by rw [List.take_of_length_le (by omega)]))
end Go.Proofs
