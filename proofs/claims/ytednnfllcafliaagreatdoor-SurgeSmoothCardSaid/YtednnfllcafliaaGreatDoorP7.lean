/- Plain laws of values at places: corners, between, equal steps, raised by one metre. No condition. -/
import Derived.Test.YtednnfllcafliaaGreatDoorP6
set_option linter.all false
namespace Go.Proofs
open Go.Fs Ieee
set_option linter.unusedVariables false
abbrev y101 : Ty := (.sl (.sl (.flt .f32)))
abbrev y117 : Ty := (.pair (.int .i64) (.int .i64))
abbrev y121 : Ty := (.pair (.int .i64) (.int .i64))
abbrev y124 : Ty := (.sl (.flt .f32))
abbrev y255 : Ty := (.pair (.int .i64) (.pair (.int .i64) (.pair (.int .i64) (.int .i64))))
theorem vt124 : ValT Tryz.prog 124 y124 := valT_of (by kernel_rfl)
theorem vt127 : ValT Tryz.prog 127 (.flt .f32) := valT_of (by kernel_rfl)
theorem vt255 : ValT Tryz.prog 255 y255 := valT_of (by kernel_rfl)
theorem el101 : ElT Tryz.prog 101 124 y124 := elT_of (by kernel_rfl)
theorem el124 : ElT Tryz.prog 124 127 (.flt .f32) := elT_of (by kernel_rfl)
theorem zt255 : ZerT Tryz.prog 255 y255 := zerT_of (z := .agg #[.int .i64 0, .int .i64 0, .int .i64 0, .int .i64 0]) (by kernel_rfl) rfl rfl
theorem bt255 : BldT Tryz.prog 255 y255 [(0, 1), (1, 1), (2, 1), (3, 1)] := bldT_of zt255 rfl (by kernel_rfl)
/-! ## Fields -/
def wid (F : List (List Nat)) : Nat := (F.headD []).length
theorem wid_eq {F : List (List Nat)} (h : 0 < F.length) : F[0].length = wid F := by
  cases F with
  | nil => simp at h
  | cons x l => rfl
def rowE (n : Nat) (r : List Nat) : Int := firstE [whenE (decide ((r.length : Int) = 0)) 12, whenE (decide ((8 : Int) < r.length)) 5, whenE (decide ((r.length : Int) ≠ n)) 2, firstE (r.map lvlE)]
def fieldE (F : List (List Nat)) : Int := if (F.length : Int) = 0 then 12 else if (8 : Int) < F.length then 5 else firstE (F.map (rowE (wid F)))
def placeE (p : Int × Int) (R C : Int) : Int := firstE [rangeE p.1 0 (4 * (R - 1)), rangeE p.2 0 (4 * (C - 1))]
theorem field_pre {n : Int} : firstE [whenE (decide (n = 0)) 12, whenE (decide ((8 : Int) < n)) 5] = if n = 0 then 12 else if 8 < n then 5 else 0 := by
  by_cases h1 : n = 0
  · rw [whenE_t h1, if_pos h1]; simp [firstE]
  · rw [whenE_f h1, if_neg h1]
    by_cases h2 : 8 < n
    · rw [whenE_t h2, if_pos h2]; simp [firstE]
    · rw [whenE_f h2, if_neg h2]; simp [firstE]
structure OkF (F : List (List Nat)) : Prop where
  pos : 0 < F.length
  top : F.length ≤ 8
  wpos : 0 < wid F
  wtop : wid F ≤ 8
  row : ∀ r ∈ F, r.length = wid F
  lv : ∀ r ∈ F, ∀ x ∈ r, lvlE x = 0
theorem fieldE_ok {F : List (List Nat)} (h : fieldE F = 0) : OkF F := by
  unfold fieldE at h
  split at h
  · cases h
  · rename_i h1
    split at h
    · cases h
    · rename_i h2
      rw [firstE_zero] at h
      have hr : ∀ r ∈ F, (r.length : Int) ≠ 0 ∧ ¬ (8 : Int) < r.length ∧ r.length = wid F ∧ ∀ x ∈ r, lvlE x = 0 := fun r hr => by
        have h3 := h _ (List.mem_map_of_mem hr)
        unfold rowE at h3
        rw [firstE_zero] at h3
        have a1 := h3 _ (List.mem_cons_self)
        have a2 := h3 _ (List.mem_cons_of_mem _ List.mem_cons_self)
        have a3 := h3 _ (List.mem_cons_of_mem _ (List.mem_cons_of_mem _ List.mem_cons_self))
        have a4 := h3 _ (List.mem_cons_of_mem _ (List.mem_cons_of_mem _ (List.mem_cons_of_mem _ List.mem_cons_self)))
        rw [firstE_zero] at a4
        refine ⟨fun e => ?_, fun e => ?_, ?_, fun x hx => a4 _ (List.mem_map_of_mem hx)⟩
        · rw [whenE_t e] at a1; cases a1
        · rw [whenE_t e] at a2; cases a2
        · by_cases e : (r.length : Int) ≠ wid F
          · rw [whenE_t e] at a3; cases a3
          · omega
      have hp : 0 < F.length := by omega
      have h0 := hr _ (List.getElem_mem hp)
      rw [wid_eq hp] at h0
      exact ⟨hp, by omega, by omega, by omega, fun r m => (hr r m).2.2.1, fun r m => (hr r m).2.2.2⟩
theorem placeE_ok {p : Int × Int} {R C : Int} (h : placeE p R C = 0) : (0 ≤ p.1 ∧ p.1 ≤ 4 * (R - 1)) ∧ (0 ≤ p.2 ∧ p.2 ≤ 4 * (C - 1)) := by
  unfold placeE at h
  rw [firstE_zero] at h
  exact ⟨rangeE_zero.1 (h _ (by simp)), rangeE_zero.1 (h _ (by simp))⟩
theorem sMapFE_ok {F : Nat → Int} {l : List Nat} {f : PV} (hl : l.length < 100000) (hf : ∀ x ∈ l, VCall Tryz.prog OA f [.v (.flt .f32) x] (I (F x))) : VF Tryz.prog OA 168 [.v y124 l, f] (.v y179 (l.map F)) := by
  refine VF.enter Tryz.func168 rfl (fun _ _ => rfl) rfl ?_
  show VC _ _ _ _ _ [(0, .v y124 l), (1, f)] [] _
  refine VC.seq ?_
  refine VC.text ?_
  refine VO.c (.assign rfl) ?_
  refine VO.go ?_
  refine VC.seq ?_
  refine VC.text ?_
  refine VO.c (.assign rfl) ?_
  refine VO.go ?_
  refine VC.seq ?_
  refine VC.seq ?_
  refine VC.text ?_
  refine VO.c (.move rfl) ?_
  refine VO.r (.len el124) ?_
  refine VO.c (.move rfl) ?_
  refine VO.go ?_
  refine VC.block ?_
  refine VC.cell0 26 (.int .i64) ?_
  refine VC.keep [(1, f), (5, .raw (.slice none 0 0)), (8, .v y124 l), (9, I ((l.length : Nat) : Int)), (10, I ((0 : Nat) : Int))] ⟨rfl, rfl, rfl, rfl, rfl, trivial⟩ ?_
  refine VC.loop (I := fun kk ff ss => ∃ (j : Nat) (out : Value), kk = l.length - j ∧ ff = [(1, f), (5, .raw out), (8, .v y124 l), (9, I ((l.length : Nat) : Int)), (10, I ((j : Nat) : Int))] ∧ ss = [(out, .row 26 (.int .i64) ((l.take j).map F))] ∧ (j ≤ l.length)) ?_ _ _ _ ⟨0, (.slice none 0 0), rfl, rfl, rfl, Nat.zero_le _⟩
  rintro kk ff ss ⟨j, out, hk0, rfl, rfl, hj⟩
  refine VC.seq ?_
  refine VC.text ?_
  refine VO.c (.lss) ?_
  refine VO.go ?_
  refine VC.seq ?_
  refine VC.condD rfl (fun c3 => ?_) (fun c3 => ?_)
  · refine VC.skip ?_
    show VC _ _ _ _ _ _ _ _
    refine VC.seq ?_
    refine VC.block ?_
    refine VC.seq ?_
    refine VC.text ?_
    refine VO.c (.ix (j := j) rfl rfl el124 (by omega)) ?_
    refine VO.r (.ld vt127) ?_
    refine VO.c (.assign rfl) ?_
    refine VO.go ?_
    refine VC.text ?_
    refine VO.c (.move rfl) ?_
    refine VO.c (.move rfl) ?_
    refine VO.c (.move rfl) ?_
    refine VO.call rfl rfl ((hf _ (List.getElem_mem _)) ) ?_
    refine VO.new (.lit [F (l[j])] el179) ?_
    refine VO.app rfl rfl el179 el179 (by simp; omega) ?_
    intro ww1
    refine VO.c (.assign rfl) ?_
    refine VO.nil ?_
    show VC _ _ _ _ _ _ _ _
    refine VC.text ?_
    refine VO.c (.add rfl rfl (by omega)) ?_
    refine VO.c (.move rfl) ?_
    refine VO.nil ?_
    refine ⟨_, [(1, f), (5, .raw ww1), (8, .v y124 l), (9, I ((l.length : Nat) : Int)), (10, I (((j + 1) : Nat) : Int))], ?_, ⟨rfl, rfl, rfl, rfl, rfl, trivial⟩, (j + 1), ww1, rfl, rfl, (by rw [List.take_succ_eq_append_getElem (by omega), List.map_append] <;> rfl), (by omega)⟩
    omega
  · refine VC.exit ?_
    show VC _ _ _ _ _ _ _ _
    refine VC.seq ?_
    refine VC.text ?_
    refine VO.c (.move rfl) ?_
    refine VO.c (.assign rfl) ?_
    refine VO.go ?_
    refine VC.ret ?_
    exact VEnd.one rfl (evC (.row m0)) (pvE (by rw [List.take_of_length_le (by omega)]))
theorem sField_ok {l : List (List Nat)} (hl : l.length < 100000) (hr : ∀ r ∈ l, r.length < 100000) : VF Tryz.prog OA 135 [.v y101 l] (I (fieldE l)) := by
  refine VF.enter Tryz.func135 rfl (fun _ _ => rfl) rfl ?_
  show VC _ _ _ _ _ [(0, .v y101 l)] [] _
  refine VC.seq ?_
  refine VC.text ?_
  refine VO.c (.assign rfl) ?_
  refine VO.go ?_
  refine VC.seq ?_
  refine VC.seq ?_
  refine VC.text ?_
  refine VO.c (.move rfl) ?_
  refine VO.r (.len el101) ?_
  refine VO.c (.eql) ?_
  refine VO.call rfl rfl (VF.call (sWhen_ok )) ?_
  refine VO.c (.move rfl) ?_
  refine VO.r (.len el101) ?_
  refine VO.c (.gtr) ?_
  refine VO.call rfl rfl (VF.call (sWhen_ok )) ?_
  refine VO.new (.lit [whenE (decide (((l.length : Nat) : Int) = (0 : Int))) (12 : Int), whenE (decide ((8 : Int) < ((l.length : Nat) : Int))) (5 : Int)] el179) ?_
  refine VO.call rfl rfl (VF.call (sFirst_ok (by simp))) ?_
  refine VO.c (.assign rfl) ?_
  refine VO.go ?_
  refine VC.seq ?_
  refine VC.text ?_
  refine VO.c (.move rfl) ?_
  refine VO.c (.neq) ?_
  refine VO.go ?_
  refine VC.condD rfl (fun c2 => ?_) (fun c2 => ?_)
  · refine VC.seq ?_
    refine VC.text ?_
    refine VO.c (.move rfl) ?_
    refine VO.c (.assign rfl) ?_
    refine VO.go ?_
    refine VC.ret ?_
    exact VEnd.one rfl evT (pvI (by rw [field_pre] at c2 ⊢; rw [fieldE]; split <;> simp_all))
  · rw [field_pre] at c2
    have d1 : ¬ (l.length : Int) = 0 := fun h => by simp [h] at c2
    have d2 : ¬ (8 : Int) < l.length := fun h => by simp [h] at c2; omega
    have e0 := wid_eq (F := l) (by omega)
    refine VC.skip ?_
    show VC _ _ _ _ _ _ _ _
    refine VC.seq ?_
    refine VC.seq ?_
    refine VC.text ?_
    refine VO.c (.move rfl) ?_
    refine VO.r (.len el101) ?_
    refine VO.c (.move rfl) ?_
    refine VO.go ?_
    refine VC.block ?_
    refine VC.keep [(0, .v y101 l), (20, .v y101 l), (21, I ((l.length : Nat) : Int)), (22, I ((0 : Nat) : Int))] ⟨rfl, rfl, rfl, rfl, trivial⟩ ?_
    refine VC.loop (I := fun kk ff ss => ∃ (j : Nat), kk = l.length - j ∧ ff = [(0, .v y101 l), (20, .v y101 l), (21, I ((l.length : Nat) : Int)), (22, I ((j : Nat) : Int))] ∧ ss = [] ∧ (j ≤ l.length) ∧ (firstE (l.map (rowE (wid l))) = firstE ((l.drop j).map (rowE (wid l))))) ?_ _ _ _ ⟨0, rfl, rfl, rfl, Nat.zero_le _, (by rfl)⟩
    rintro kk ff ss ⟨j, hk0, rfl, rfl, hj, hf⟩
    refine VC.seq ?_
    refine VC.text ?_
    refine VO.c (.lss) ?_
    refine VO.go ?_
    refine VC.seq ?_
    refine VC.condD rfl (fun c5 => ?_) (fun c5 => ?_)
    · refine VC.skip ?_
      show VC _ _ _ _ _ _ _ _
      refine VC.seq ?_
      refine VC.block ?_
      refine VC.seq ?_
      refine VC.text ?_
      have hlj := hr _ (List.getElem_mem (show j < l.length by omega))
      refine VO.c (.ix (j := j) rfl rfl el101 (by omega)) ?_
      refine VO.r (.ld vt124) ?_
      refine VO.c (.assign rfl) ?_
      refine VO.go ?_
      refine VC.seq ?_
      refine VC.drawn ?_
      refine VD.c (.move rfl) ?_
      refine VD.r [] (.len el124) (.inl rfl) ?_
      refine VD.c (.eql) ?_
      refine VD.call rfl rfl (VF.call (sWhen_ok )) ?_
      refine VD.c (.move rfl) ?_
      refine VD.r [] (.len el124) (.inl rfl) ?_
      refine VD.nw [] ?_
      refine VD.c (.gtr) ?_
      refine VD.call rfl rfl (VF.call (sWhen_ok )) ?_
      refine VD.c (.move rfl) ?_
      refine VD.r [] (.len el124) (.inl rfl) ?_
      refine VD.c (.move rfl) ?_
      refine VD.c (.ix (j := 0) rfl rfl el101 (by omega)) ?_
      refine VD.r [] (.ld vt124) (.inl rfl) ?_
      refine VD.nw [] ?_
      refine VD.r [] (.len el124) (.inl rfl) ?_
      refine VD.c (.neq) ?_
      refine VD.call rfl rfl (VF.call (sWhen_ok )) ?_
      refine VD.c (.move rfl) ?_
      refine VD.call rfl rfl (VF.call (sMapFE_ok (F := lvlE) hlj (fun _ _ => VF.call gLv_ok))) ?_
      refine VD.callO rfl rfl (VF.call (sFirst_ok (by simp; omega))) ?_
      refine VD.new (.lit [whenE (decide ((((l[j]).length : Nat) : Int) = (0 : Int))) (12 : Int), whenE (decide ((8 : Int) < (((l[j]).length : Nat) : Int))) (5 : Int), whenE (decide ((((l[j]).length : Nat) : Int) ≠ (((l[0]).length : Nat) : Int))) (2 : Int), firstE ((l[j]).map lvlE)] el179) ?_
      refine VD.nw [45, 43] ?_
      refine VD.callO rfl rfl (VF.call (sFirst_ok (by simp))) ?_
      refine VD.c (.assign rfl) ?_
      refine VD.go ?_
      refine VC.seq ?_
      refine VC.text ?_
      refine VO.c (.move rfl) ?_
      refine VO.c (.neq) ?_
      refine VO.go ?_
      refine VC.condD rfl (fun c8 => ?_) (fun c8 => ?_)
      · refine VC.seq ?_
        refine VC.text ?_
        refine VO.c (.move rfl) ?_
        refine VO.c (.assign rfl) ?_
        refine VO.go ?_
        refine VC.ret ?_
        exact VEnd.one rfl evT (pvI (by rw [fieldE, if_neg d1, if_neg d2, hf, firstE_map_drop (by omega), if_neg (by rw [rowE, ← e0]; exact c8), rowE, ← e0]))
      · refine VC.skip ?_
        show VC _ _ _ _ _ _ _ _
        refine VC.text ?_
        refine VO.c (.add rfl rfl (by omega)) ?_
        refine VO.c (.move rfl) ?_
        refine VO.nil ?_
        refine ⟨_, [(0, .v y101 l), (20, .v y101 l), (21, I ((l.length : Nat) : Int)), (22, I (((j + 1) : Nat) : Int))], ?_, ⟨rfl, rfl, rfl, rfl, trivial⟩, (j + 1), rfl, rfl, rfl, (by omega), (by rw [hf, firstE_map_drop (by omega), if_pos (by rw [rowE, ← e0]; simpa using c8)])⟩
        omega
    · refine VC.exit ?_
      show VC _ _ _ _ _ _ _ _
      refine VC.seq ?_
      refine VC.text ?_
      refine VO.c (.assign rfl) ?_
      refine VO.go ?_
      refine VC.ret ?_
      exact VEnd.one rfl evT (pvI (by rw [fieldE, if_neg d1, if_neg d2, hf, firstE_map_end (by omega)]))
theorem rRows_ok {l : List (List Nat)} : VF Tryz.prog OA 64 [.v y101 l] (I (fieldE l)) := by
  refine VF.enter Tryz.func64 rfl (fun _ _ => rfl) rfl ?_
  show VC _ _ _ _ _ [(0, .v y101 l)] [] _
  refine VC.seq ?_
  refine VC.text ?_
  refine VO.c (.assign rfl) ?_
  refine VO.go ?_
  refine VC.seq ?_
  refine VC.seq ?_
  refine VC.text ?_
  refine VO.c (.move rfl) ?_
  refine VO.r (.len el101) ?_
  refine VO.c (.eql) ?_
  refine VO.go ?_
  refine VC.condD rfl (fun c1 => ?_) (fun c1 => ?_)
  · refine VC.seq ?_
    refine VC.text ?_
    refine VO.c (.assign rfl) ?_
    refine VO.go ?_
    refine VC.ret ?_
    exact VEnd.one rfl evT (pvI (by rw [fieldE, if_pos c1]))
  · refine VC.skip ?_
    show VC _ _ _ _ _ _ _ _
    refine VC.seq ?_
    refine VC.seq ?_
    refine VC.text ?_
    refine VO.c (.move rfl) ?_
    refine VO.r (.len el101) ?_
    refine VO.c (.gtr) ?_
    refine VO.go ?_
    refine VC.condD rfl (fun c3 => ?_) (fun c3 => ?_)
    · refine VC.seq ?_
      refine VC.text ?_
      refine VO.c (.assign rfl) ?_
      refine VO.go ?_
      refine VC.ret ?_
      exact VEnd.one rfl evT (pvI (by rw [fieldE, if_neg c1, if_pos c3]))
    · refine VC.skip ?_
      show VC _ _ _ _ _ _ _ _
      refine VC.seq ?_
      refine VC.seq ?_
      refine VC.text ?_
      refine VO.c (.assign rfl) ?_
      refine VO.go ?_
      refine VC.block ?_
      refine VC.keep [(0, .v y101 l), (3, I ((0 : Nat) : Int))] ⟨rfl, rfl, trivial⟩ ?_
      refine VC.loop (I := fun kk ff ss => ∃ (j : Nat), kk = l.length - j ∧ ff = [(0, .v y101 l), (3, I ((j : Nat) : Int))] ∧ ss = [] ∧ (j ≤ l.length) ∧ (firstE (l.map (rowE (wid l))) = firstE ((l.drop j).map (rowE (wid l))))) ?_ _ _ _ ⟨0, rfl, rfl, rfl, Nat.zero_le _, (by rfl)⟩
      rintro kk ff ss ⟨j, hk0, rfl, rfl, hj, hf⟩
      refine VC.seq ?_
      refine VC.seq ?_
      refine VC.text ?_
      refine VO.c (.move rfl) ?_
      refine VO.c (.move rfl) ?_
      refine VO.r (.len el101) ?_
      refine VO.c (.lss) ?_
      refine VO.go ?_
      refine VC.condD rfl (fun c6 => ?_) (fun c6 => ?_)
      · refine VC.skip ?_
        show VC _ _ _ _ _ _ _ _
        refine VC.seq ?_
        refine VC.block ?_
        refine VC.seq ?_
        refine VC.seq ?_
        refine VC.text ?_
        have e0 := wid_eq (F := l) (by omega)
        refine VO.c (.move rfl) ?_
        refine VO.c (.move rfl) ?_
        refine VO.c (.ix (j := j) rfl rfl el101 (by omega)) ?_
        refine VO.r (.ld vt124) ?_
        refine VO.r (.len el124) ?_
        refine VO.c (.eql) ?_
        refine VO.go ?_
        refine VC.condD rfl (fun c8 => ?_) (fun c8 => ?_)
        · refine VC.seq ?_
          refine VC.text ?_
          refine VO.c (.assign rfl) ?_
          refine VO.go ?_
          refine VC.ret ?_
          exact VEnd.one rfl evT (pvI (by rw [fieldE, if_neg c1, if_neg c3, hf, firstE_map_drop (by omega)]; simp only [rowE, firstE, whenE_t c8, if_true] <;> rfl))
        · refine VC.skip ?_
          show VC _ _ _ _ _ _ _ _
          refine VC.seq ?_
          refine VC.seq ?_
          refine VC.text ?_
          refine VO.c (.move rfl) ?_
          refine VO.c (.move rfl) ?_
          refine VO.c (.ix (j := j) rfl rfl el101 (by omega)) ?_
          refine VO.r (.ld vt124) ?_
          refine VO.r (.len el124) ?_
          refine VO.c (.gtr) ?_
          refine VO.go ?_
          refine VC.condD rfl (fun c10 => ?_) (fun c10 => ?_)
          · refine VC.seq ?_
            refine VC.text ?_
            refine VO.c (.assign rfl) ?_
            refine VO.go ?_
            refine VC.ret ?_
            exact VEnd.one rfl evT (pvI (by rw [fieldE, if_neg c1, if_neg c3, hf, firstE_map_drop (by omega)]; simp only [rowE, firstE, whenE_f c8, whenE_t c10, if_true] <;> rfl))
          · refine VC.skip ?_
            show VC _ _ _ _ _ _ _ _
            refine VC.seq ?_
            refine VC.seq ?_
            refine VC.drawn ?_
            refine VD.c (.move rfl) ?_
            refine VD.c (.move rfl) ?_
            refine VD.c (.ix (j := j) rfl rfl el101 (by omega)) ?_
            refine VD.r [] (.ld vt124) (.inl rfl) ?_
            refine VD.r [] (.len el124) (.inl rfl) ?_
            refine VD.c (.move rfl) ?_
            refine VD.nw [] ?_
            refine VD.c (.ix (j := 0) rfl rfl el101 (by omega)) ?_
            refine VD.r [] (.ld vt124) (.inl rfl) ?_
            refine VD.r [] (.len el124) (.inl rfl) ?_
            refine VD.c (.neq) ?_
            refine VD.go ?_
            refine VC.condD rfl (fun c12 => ?_) (fun c12 => ?_)
            · refine VC.seq ?_
              refine VC.text ?_
              refine VO.c (.assign rfl) ?_
              refine VO.go ?_
              refine VC.ret ?_
              exact VEnd.one rfl evT (pvI (by rw [fieldE, if_neg c1, if_neg c3, hf, firstE_map_drop (by omega)]; simp only [rowE, ← e0, firstE, whenE_f c8, whenE_f c10, whenE_t c12, if_true] <;> rfl))
            · refine VC.skip ?_
              show VC _ _ _ _ _ _ _ _
              refine VC.seq ?_
              refine VC.text ?_
              refine VO.c (.assign rfl) ?_
              refine VO.go ?_
              refine VC.block ?_
              refine VC.keep [(0, .v y101 l), (3, I ((j : Nat) : Int)), (4, I ((0 : Nat) : Int))] ⟨rfl, rfl, rfl, trivial⟩ ?_
              refine VC.loop (I := fun kk ff ss => ∃ (k : Nat), kk = l[j].length - k ∧ ff = [(0, .v y101 l), (3, I ((j : Nat) : Int)), (4, I ((k : Nat) : Int))] ∧ ss = [] ∧ (k ≤ l[j].length) ∧ (firstE (l[j].map lvlE) = firstE ((l[j].drop k).map lvlE))) ?_ _ _ _ ⟨0, rfl, rfl, rfl, (by omega), (by rfl)⟩
              rintro kk ff ss ⟨k, hk2, rfl, rfl, hk, hg⟩
              refine VC.seq ?_
              refine VC.seq ?_
              refine VC.text ?_
              refine VO.c (.move rfl) ?_
              refine VO.c (.move rfl) ?_
              refine VO.c (.move rfl) ?_
              refine VO.c (.ix (j := j) rfl rfl el101 (by omega)) ?_
              refine VO.r (.ld vt124) ?_
              refine VO.r (.len el124) ?_
              refine VO.c (.lss) ?_
              refine VO.go ?_
              refine VC.condD rfl (fun c15 => ?_) (fun c15 => ?_)
              · refine VC.skip ?_
                show VC _ _ _ _ _ _ _ _
                refine VC.seq ?_
                refine VC.block ?_
                refine VC.seq ?_
                refine VC.text ?_
                refine VO.c (.move rfl) ?_
                refine VO.c (.move rfl) ?_
                refine VO.c (.ix (j := j) rfl rfl el101 (by omega)) ?_
                refine VO.r (.ld vt124) ?_
                refine VO.c (.move rfl) ?_
                refine VO.c (.ix (j := k) rfl rfl el124 (by omega)) ?_
                refine VO.r (.ld vt127) ?_
                refine VO.call rfl rfl (VF.call (rLv_ok )) ?_
                refine VO.c (.assign rfl) ?_
                refine VO.go ?_
                refine VC.seq ?_
                refine VC.text ?_
                refine VO.c (.move rfl) ?_
                refine VO.c (.neq) ?_
                refine VO.go ?_
                refine VC.condD rfl (fun c18 => ?_) (fun c18 => ?_)
                · refine VC.seq ?_
                  refine VC.text ?_
                  refine VO.c (.move rfl) ?_
                  refine VO.c (.assign rfl) ?_
                  refine VO.go ?_
                  refine VC.ret ?_
                  exact VEnd.one rfl evT (pvI (by rw [fieldE, if_neg c1, if_neg c3, hf, firstE_map_drop (by omega)]; simp only [rowE, ← e0, firstE, whenE_f c8, whenE_f c10, whenE_f c12, if_true]; rw [hg, firstE_map_drop (by omega), if_neg c18]; simp [c18]))
                · refine VC.skip ?_
                  show VC _ _ _ _ _ _ _ _
                  refine VC.text ?_
                  refine VO.c (.move rfl) ?_
                  refine VO.c (.add rfl rfl (by omega)) ?_
                  refine VO.c (.assign rfl) ?_
                  refine VO.nil ?_
                  refine ⟨_, [(0, .v y101 l), (3, I ((j : Nat) : Int)), (4, I (((k + 1) : Nat) : Int))], ?_, ⟨rfl, rfl, rfl, trivial⟩, (k + 1), rfl, rfl, rfl, (by omega), (by rw [hg, firstE_map_drop (by omega), if_pos (Decidable.not_not.1 c18)])⟩
                  omega
              · refine VC.exit ?_
                show VC _ _ _ _ _ _ _ _
                refine VC.text ?_
                refine VO.c (.move rfl) ?_
                refine VO.c (.add rfl rfl (by omega)) ?_
                refine VO.c (.assign rfl) ?_
                refine VO.nil ?_
                have hz : firstE (l[j].map lvlE) = 0 := by rw [hg, firstE_map_end (by omega)]
                refine ⟨_, [(0, .v y101 l), (3, I (((j + 1) : Nat) : Int))], ?_, ⟨rfl, rfl, trivial⟩, (j + 1), rfl, rfl, rfl, (by omega), (by rw [hf, firstE_map_drop (by omega), if_pos (by simp only [rowE, ← e0, firstE, whenE_f c8, whenE_f c10, whenE_f c12, if_true, hz])])⟩
                omega
      · refine VC.exit ?_
        show VC _ _ _ _ _ _ _ _
        refine VC.seq ?_
        refine VC.text ?_
        refine VO.c (.assign rfl) ?_
        refine VO.go ?_
        refine VC.ret ?_
        exact VEnd.one rfl evT (pvI (by rw [fieldE, if_neg c1, if_neg c3, hf, firstE_map_end (by omega)]))
theorem sPlace_ok {p : Int × Int} {R : Int} {C : Int} (hR : 0 ≤ R ∧ R ≤ 100000) (hC : 0 ≤ C ∧ C ≤ 100000) : VF Tryz.prog OA 136 [.v y121 p, I R, I C] (I (placeE p R C)) := by
  refine VF.enter Tryz.func136 rfl (fun _ _ => rfl) rfl ?_
  show VC _ _ _ _ _ [(0, .v y121 p), (1, I R), (2, I C)] [] _
  refine VC.seq ?_
  refine VC.text ?_
  refine VO.new (.box) ?_
  refine VO.c (.assign rfl) ?_
  refine VO.go ?_
  refine VC.seq ?_
  refine VC.drawn ?_
  refine VD.c (.fa (.l .o)) ?_
  refine VD.r [] (.ld vt3) (.inl rfl) ?_
  refine VD.c (.move rfl) ?_
  refine VD.c (.sub rfl rfl (by omega)) ?_
  refine VD.c (.mul rfl rfl (by omega)) ?_
  refine VD.call rfl rfl (VF.call (sWithin_ok )) ?_
  refine VD.nw [] ?_
  refine VD.c (.fa (.r .o)) ?_
  refine VD.r [] (.ld vt3) (.inl rfl) ?_
  refine VD.c (.move rfl) ?_
  refine VD.c (.sub rfl rfl (by omega)) ?_
  refine VD.c (.mul rfl rfl (by omega)) ?_
  refine VD.call rfl rfl (VF.call (sWithin_ok )) ?_
  refine VD.new (.lit [rangeE p.1 (0 : Int) ((4 : Int) * (R - (1 : Int))), rangeE p.2 (0 : Int) ((4 : Int) * (C - (1 : Int)))] el179) ?_
  refine VD.nw [19] ?_
  refine VD.callO rfl rfl (VF.call (sFirst_ok (by simp))) ?_
  refine VD.c (.assign rfl) ?_
  refine VD.go ?_
  refine VC.ret ?_
  exact VEnd.one rfl evT (pvI (by first | rfl | simp))
theorem sxF_get {F : List (List Nat)} {r c : Nat} (hr : r < F.length) (hc : c < F[r].length) : sxE (F[r][c]) = sxF F r c := by
  unfold sxF
  rw [List.getD_eq_getElem?_getD, List.getD_eq_getElem?_getD, List.getElem?_eq_getElem hr, Option.getD_some, List.getElem?_eq_getElem hc, Option.getD_some]
theorem lv_get {F : List (List Nat)} (h : OkF F) {r c : Nat} (hr : r < F.length) (hc : c < F[r].length) : lvlE (F[r][c]) = 0 := h.lv _ (List.getElem_mem hr) _ (List.getElem_mem hc)
theorem wid_D {F : List (List Nat)} : (F.getD 0 []).length = wid F := by cases F <;> rfl
theorem at_same {F : List (List Nat)} {p : Int × Int} {a : Int} (h1 : sxF F (p.1 / 4).toNat (p.2 / 4).toNat = a) (h2 : sxF F (p.1 / 4).toNat (min ((p.2 / 4).toNat + 1) (wid F - 1)) = a) (h3 : sxF F (min ((p.1 / 4).toNat + 1) (F.length - 1)) (p.2 / 4).toNat = a) (h4 : sxF F (min ((p.1 / 4).toNat + 1) (F.length - 1)) (min ((p.2 / 4).toNat + 1) (wid F - 1)) = a) : 16 * a = atE F p := by
  unfold atE
  simp only [wid_D, h1, h2, h3, h4]
  generalize p.1 % 4 = y
  generalize p.2 % 4 = x
  rw [← Int.add_mul, ← Int.add_mul, ← Int.add_mul]
  congr 1
  simp only [Int.sub_mul, Int.mul_sub]
  omega
theorem sx_bound {F : List (List Nat)} (h : OkF F) {r c : Nat} (hr : r < F.length) (hc : c < F[r].length) : -1024 ≤ sxE (F[r][c]) ∧ sxE (F[r][c]) ≤ 1024 := (lvl_ok (lv_get h hr hc)).2
theorem wprod {a b s : Int} (ha : 0 ≤ a ∧ a ≤ 4) (hb : 0 ≤ b ∧ b ≤ 4) (hs : -1024 ≤ s ∧ s ≤ 1024) : -16384 ≤ a * b * s ∧ a * b * s ≤ 16384 := by
  have h0 : 0 ≤ a * b := Int.mul_nonneg ha.1 hb.1
  have h1 : a * b ≤ 4 * 4 := Int.mul_le_mul ha.2 hb.2 hb.1 (by decide)
  have h2 : a * b * s ≤ 16 * 1024 := by
    by_cases hn : 0 ≤ s
    · exact Int.mul_le_mul (by omega) hs.2 hn (by decide)
    · have := Int.mul_nonneg h0 (show 0 ≤ -s by omega)
      rw [Int.mul_neg] at this; omega
  have h3 : a * b * (-s) ≤ 16 * 1024 := by
    by_cases hn : 0 ≤ -s
    · exact Int.mul_le_mul (by omega) (by omega) hn (by decide)
    · have := Int.mul_nonneg h0 (show 0 ≤ s by omega)
      rw [Int.mul_neg]; omega
  rw [Int.mul_neg] at h3
  omega
theorem wfit {a b : Int} (ha : 0 ≤ a ∧ a ≤ 4) (hb : 0 ≤ b ∧ b ≤ 4) : fit (a * b) := by
  have h0 : 0 ≤ a * b := Int.mul_nonneg ha.1 hb.1
  have h1 : a * b ≤ 4 * 4 := Int.mul_le_mul ha.2 hb.2 hb.1 (by decide)
  exact ⟨by omega, by omega⟩
theorem pfit {a : Int} (h : -16384 ≤ a ∧ a ≤ 16384) : fit a := ⟨by omega, by omega⟩
theorem sAt_ok_c4 {F : List (List Nat)} {p : Int × Int}  {ww2 : Value} (hF : OkF F) (hr1 : (p.1 / 4).toNat < F.length) (hr2 : min ((p.1 / 4).toNat + 1) (F.length - 1) < F.length) (hw1 : F[(p.1 / 4).toNat].length = wid F) (hw2 : F[min ((p.1 / 4).toNat + 1) (F.length - 1)].length = wid F) (hc1 : (p.2 / 4).toNat < wid F) (hc2 : min ((p.2 / 4).toNat + 1) (wid F - 1) < wid F) : VC Tryz.prog OA none (seqN 4 (codeOf Tryz.f137)) Tryz.f137.ntmps [(7, I (p.1 % 4)), (8, I (p.2 % 4)), (11, .raw ww2)] [(ww2, .var [I (sxE ((F[((p.1 / 4).toNat)])[((p.2 / 4).toNat)])), I (sxE ((F[((p.1 / 4).toNat)])[(min ((p.2 / 4).toNat + 1) (wid F - 1))])), I (sxE ((F[(min ((p.1 / 4).toNat + 1) (F.length - 1))])[((p.2 / 4).toNat)])), I (sxE ((F[(min ((p.1 / 4).toNat + 1) (F.length - 1))])[(min ((p.2 / 4).toNat + 1) (wid F - 1))]))])] (VEnd Tryz.prog Tryz.f137 (I (atE F p))) := by
  refine VC.seq ?_
  refine VC.seq ?_
  refine VC.text ?_
  have k1 := sx_bound hF hr1 (show (p.2 / 4).toNat < _ by omega)
  have k2 := sx_bound hF hr1 (show min ((p.2 / 4).toNat + 1) (wid F - 1) < _ by omega)
  have k3 := sx_bound hF hr2 (show (p.2 / 4).toNat < _ by omega)
  have k4 := sx_bound hF hr2 (show min ((p.2 / 4).toNat + 1) (wid F - 1) < _ by omega)
  have g1 := sxF_get hr1 (show (p.2 / 4).toNat < _ by omega)
  have g2 := sxF_get hr1 (show min ((p.2 / 4).toNat + 1) (wid F - 1) < _ by omega)
  have g3 := sxF_get hr2 (show (p.2 / 4).toNat < _ by omega)
  have g4 := sxF_get hr2 (show min ((p.2 / 4).toNat + 1) (wid F - 1) < _ by omega)
  have hy : 0 ≤ p.1 % 4 ∧ p.1 % 4 ≤ 4 := by omega
  have hx : 0 ≤ p.2 % 4 ∧ p.2 % 4 ≤ 4 := by omega
  have hy2 : 0 ≤ 4 - p.1 % 4 ∧ 4 - p.1 % 4 ≤ 4 := by omega
  have hx2 : 0 ≤ 4 - p.2 % 4 ∧ 4 - p.2 % 4 ≤ 4 := by omega
  have p1 := wprod hy2 hx2 k1
  have p2 := wprod hy2 hx k2
  have p3 := wprod hy hx2 k3
  have p4 := wprod hy hx k4
  refine VO.c (.ixV 0 (k := 0) (τ' := (.int .i64)) m0) ?_
  refine VO.r (.ldF (k := 0) m0 vt3) ?_
  refine VO.c (.assign rfl) ?_
  refine VO.go ?_
  refine VC.seq ?_
  refine VC.text ?_
  refine VO.r (.ldA (dx := (sxE ((F[((p.1 / 4).toNat)])[((p.2 / 4).toNat)]), sxE ((F[((p.1 / 4).toNat)])[(min ((p.2 / 4).toNat + 1) (wid F - 1))]), sxE ((F[(min ((p.1 / 4).toNat + 1) (F.length - 1))])[((p.2 / 4).toNat)]), sxE ((F[(min ((p.1 / 4).toNat + 1) (F.length - 1))])[(min ((p.2 / 4).toNat + 1) (wid F - 1))]))) m0 vt255) ?_
  refine VO.c (.move rfl) ?_
  refine VO.c (.move rfl) ?_
  refine VO.c (.move rfl) ?_
  refine VO.c (.move rfl) ?_
  refine VO.c (.build (sxE ((F[((p.1 / 4).toNat)])[((p.2 / 4).toNat)]), sxE ((F[((p.1 / 4).toNat)])[((p.2 / 4).toNat)]), sxE ((F[((p.1 / 4).toNat)])[((p.2 / 4).toNat)]), sxE ((F[((p.1 / 4).toNat)])[((p.2 / 4).toNat)])) bt255) ?_
  refine VO.c (.arrCmp (xs := [sxE ((F[((p.1 / 4).toNat)])[((p.2 / 4).toNat)]), sxE ((F[((p.1 / 4).toNat)])[(min ((p.2 / 4).toNat + 1) (wid F - 1))]), sxE ((F[(min ((p.1 / 4).toNat + 1) (F.length - 1))])[((p.2 / 4).toNat)]), sxE ((F[(min ((p.1 / 4).toNat + 1) (F.length - 1))])[(min ((p.2 / 4).toNat + 1) (wid F - 1))])]) (ys := [sxE ((F[((p.1 / 4).toNat)])[((p.2 / 4).toNat)]), sxE ((F[((p.1 / 4).toNat)])[((p.2 / 4).toNat)]), sxE ((F[((p.1 / 4).toNat)])[((p.2 / 4).toNat)]), sxE ((F[((p.1 / 4).toNat)])[((p.2 / 4).toNat)])]) (.inl ⟨rfl, rfl⟩) rfl rfl rfl rfl (by kernel_rfl) rfl) ?_
  refine VO.go ?_
  refine VC.condD rfl (fun c5 => ?_) (fun c5 => ?_)
  · refine VC.seq ?_
    refine VC.text ?_
    refine VO.c (.move rfl) ?_
    refine VO.c (.mul rfl rfl (by omega)) ?_
    refine VO.c (.assign rfl) ?_
    refine VO.go ?_
    refine VC.ret ?_
    exact VEnd.one rfl evT (pvI (by simp only [List.cons.injEq, and_true, true_and] at c5; exact at_same g1.symm (g2.symm.trans c5.1) (g3.symm.trans c5.2.1) (g4.symm.trans c5.2.2)))
  · refine VC.skip ?_
    show VC _ _ _ _ _ _ _ _
    refine VC.seq ?_
    refine VC.text ?_
    refine VO.c (.assign rfl) ?_
    refine VO.go ?_
    refine VC.seq ?_
    refine VC.seq ?_
    refine VC.text ?_
    refine VO.c (.move rfl) ?_
    refine VO.c (.sub rfl rfl (by omega)) ?_
    refine VO.c (.move rfl) ?_
    refine VO.c (.sub rfl rfl (by omega)) ?_
    refine VO.c (.mul rfl rfl (by exact wfit hy2 hx2)) ?_
    refine VO.c (.move rfl) ?_
    refine VO.c (.sub rfl rfl (by omega)) ?_
    refine VO.c (.move rfl) ?_
    refine VO.c (.mul rfl rfl (by exact wfit hy2 hx)) ?_
    refine VO.c (.move rfl) ?_
    refine VO.c (.move rfl) ?_
    refine VO.c (.sub rfl rfl (by omega)) ?_
    refine VO.c (.mul rfl rfl (by exact wfit hy hx2)) ?_
    refine VO.c (.move rfl) ?_
    refine VO.c (.move rfl) ?_
    refine VO.c (.mul rfl rfl (by exact wfit hy hx)) ?_
    refine VO.c (.build ((((4 : Int) - (p.1 % 4)) * ((4 : Int) - (p.2 % 4))), (((4 : Int) - (p.1 % 4)) * (p.2 % 4)), ((p.1 % 4) * ((4 : Int) - (p.2 % 4))), ((p.1 % 4) * (p.2 % 4))) bt255) ?_
    refine VO.c (.move rfl) ?_
    refine VO.go ?_
    refine VC.block ?_
    refine VC.unroll ?_
    refine VC.seq ?_
    refine VC.text ?_
    refine VO.c (.lss) ?_
    refine VO.go ?_
    refine VC.seq ?_
    refine VC.condT rfl ?_
    refine VC.skip ?_
    show VC _ _ _ _ _ _ _ _
    refine VC.seq ?_
    refine VC.block ?_
    refine VC.seq ?_
    refine VC.text ?_
    refine VO.c (.move rfl) ?_
    refine VO.c (.ixA 0 (τ' := (.int .i64)) (dy := (((4 : Int) - (p.1 % 4)) * ((4 : Int) - (p.2 % 4)))) (.l .o)) ?_
    refine VO.c (.assign rfl) ?_
    refine VO.c (.assign rfl) ?_
    refine VO.go ?_
    refine VC.keep [(11, .raw ww2), (13, I (0 : Int)), (14, I (0 : Int)), (15, I (((4 : Int) - (p.1 % 4)) * ((4 : Int) - (p.2 % 4)))), (102, .v y255 ((((4 : Int) - (p.1 % 4)) * ((4 : Int) - (p.2 % 4))), (((4 : Int) - (p.1 % 4)) * (p.2 % 4)), ((p.1 % 4) * ((4 : Int) - (p.2 % 4))), ((p.1 % 4) * (p.2 % 4)))), (103, I (0 : Int))] ⟨rfl, rfl, rfl, rfl, rfl, rfl, trivial⟩ ?_
    refine VC.text ?_
    refine VO.c (.move rfl) ?_
    refine VO.c (.move rfl) ?_
    refine VO.c (.move rfl) ?_
    refine VO.c (.ixV 0 (k := 0) (τ' := (.int .i64)) m0) ?_
    refine VO.r (.ldF (k := 0) m0 vt3) ?_
    refine VO.c (.mul rfl rfl (by first | exact pfit p1 | exact pfit p2 | exact pfit p3 | exact pfit p4)) ?_
    refine VO.c (.add rfl rfl (by exact ⟨by omega, by omega⟩)) ?_
    refine VO.c (.assign rfl) ?_
    refine VO.nil ?_
    show VC _ _ _ _ _ _ _ _
    refine VC.text ?_
    refine VO.c (.add rfl rfl (by decide)) ?_
    refine VO.c (.move rfl) ?_
    refine VO.nil ?_
    show VC _ _ _ _ _ _ _ _
    refine VC.unroll ?_
    refine VC.seq ?_
    refine VC.text ?_
    refine VO.c (.lss) ?_
    refine VO.go ?_
    refine VC.seq ?_
    refine VC.condT rfl ?_
    refine VC.skip ?_
    show VC _ _ _ _ _ _ _ _
    refine VC.seq ?_
    refine VC.block ?_
    refine VC.seq ?_
    refine VC.text ?_
    refine VO.c (.move rfl) ?_
    refine VO.c (.ixA 1 (τ' := (.int .i64)) (dy := (((4 : Int) - (p.1 % 4)) * (p.2 % 4))) (.r (.l .o))) ?_
    refine VO.c (.assign rfl) ?_
    refine VO.c (.assign rfl) ?_
    refine VO.go ?_
    refine VC.text ?_
    refine VO.c (.move rfl) ?_
    refine VO.c (.move rfl) ?_
    refine VO.c (.move rfl) ?_
    refine VO.c (.ixV 1 (k := 1) (τ' := (.int .i64)) m0) ?_
    refine VO.r (.ldF (k := 1) m0 vt3) ?_
    refine VO.c (.mul rfl rfl (by first | exact pfit p1 | exact pfit p2 | exact pfit p3 | exact pfit p4)) ?_
    refine VO.c (.add rfl rfl (by exact ⟨by omega, by omega⟩)) ?_
    refine VO.c (.assign rfl) ?_
    refine VO.nil ?_
    show VC _ _ _ _ _ _ _ _
    refine VC.text ?_
    refine VO.c (.add rfl rfl (by decide)) ?_
    refine VO.c (.move rfl) ?_
    refine VO.nil ?_
    show VC _ _ _ _ _ _ _ _
    refine VC.unroll ?_
    refine VC.seq ?_
    refine VC.text ?_
    refine VO.c (.lss) ?_
    refine VO.go ?_
    refine VC.seq ?_
    refine VC.condT rfl ?_
    refine VC.skip ?_
    show VC _ _ _ _ _ _ _ _
    refine VC.seq ?_
    refine VC.block ?_
    refine VC.seq ?_
    refine VC.text ?_
    refine VO.c (.move rfl) ?_
    refine VO.c (.ixA 2 (τ' := (.int .i64)) (dy := ((p.1 % 4) * ((4 : Int) - (p.2 % 4)))) (.r (.r (.l .o)))) ?_
    refine VO.c (.assign rfl) ?_
    refine VO.c (.assign rfl) ?_
    refine VO.go ?_
    refine VC.text ?_
    refine VO.c (.move rfl) ?_
    refine VO.c (.move rfl) ?_
    refine VO.c (.move rfl) ?_
    refine VO.c (.ixV 2 (k := 2) (τ' := (.int .i64)) m0) ?_
    refine VO.r (.ldF (k := 2) m0 vt3) ?_
    refine VO.c (.mul rfl rfl (by first | exact pfit p1 | exact pfit p2 | exact pfit p3 | exact pfit p4)) ?_
    refine VO.c (.add rfl rfl (by exact ⟨by omega, by omega⟩)) ?_
    refine VO.c (.assign rfl) ?_
    refine VO.nil ?_
    show VC _ _ _ _ _ _ _ _
    refine VC.keep [(11, .raw ww2), (13, I ((((0 : Int) + ((((4 : Int) - (p.1 % 4)) * ((4 : Int) - (p.2 % 4))) * sxE ((F[((p.1 / 4).toNat)])[((p.2 / 4).toNat)]))) + ((((4 : Int) - (p.1 % 4)) * (p.2 % 4)) * sxE ((F[((p.1 / 4).toNat)])[(min ((p.2 / 4).toNat + 1) (wid F - 1))]))) + (((p.1 % 4) * ((4 : Int) - (p.2 % 4))) * sxE ((F[(min ((p.1 / 4).toNat + 1) (F.length - 1))])[((p.2 / 4).toNat)])))), (102, .v y255 ((((4 : Int) - (p.1 % 4)) * ((4 : Int) - (p.2 % 4))), (((4 : Int) - (p.1 % 4)) * (p.2 % 4)), ((p.1 % 4) * ((4 : Int) - (p.2 % 4))), ((p.1 % 4) * (p.2 % 4)))), (103, I (2 : Int))] ⟨rfl, rfl, rfl, rfl, trivial⟩ ?_
    refine VC.text ?_
    refine VO.c (.add rfl rfl (by decide)) ?_
    refine VO.c (.move rfl) ?_
    refine VO.nil ?_
    show VC _ _ _ _ _ _ _ _
    refine VC.unroll ?_
    refine VC.seq ?_
    refine VC.text ?_
    refine VO.c (.lss) ?_
    refine VO.go ?_
    refine VC.seq ?_
    refine VC.condT rfl ?_
    refine VC.skip ?_
    show VC _ _ _ _ _ _ _ _
    refine VC.seq ?_
    refine VC.block ?_
    refine VC.seq ?_
    refine VC.text ?_
    refine VO.c (.move rfl) ?_
    refine VO.c (.ixA 3 (τ' := (.int .i64)) (dy := ((p.1 % 4) * (p.2 % 4))) (.r (.r (.r .o)))) ?_
    refine VO.c (.assign rfl) ?_
    refine VO.c (.assign rfl) ?_
    refine VO.go ?_
    refine VC.text ?_
    refine VO.c (.move rfl) ?_
    refine VO.c (.move rfl) ?_
    refine VO.c (.move rfl) ?_
    refine VO.c (.ixV 3 (k := 3) (τ' := (.int .i64)) m0) ?_
    refine VO.r (.ldF (k := 3) m0 vt3) ?_
    refine VO.c (.mul rfl rfl (by first | exact pfit p1 | exact pfit p2 | exact pfit p3 | exact pfit p4)) ?_
    refine VO.c (.add rfl rfl (by exact ⟨by omega, by omega⟩)) ?_
    refine VO.c (.assign rfl) ?_
    refine VO.nil ?_
    show VC _ _ _ _ _ _ _ _
    refine VC.text ?_
    refine VO.c (.add rfl rfl (by decide)) ?_
    refine VO.c (.move rfl) ?_
    refine VO.nil ?_
    show VC _ _ _ _ _ _ _ _
    refine VC.unroll ?_
    refine VC.seq ?_
    refine VC.text ?_
    refine VO.c (.lss) ?_
    refine VO.go ?_
    refine VC.seq ?_
    refine VC.condF rfl ?_
    refine VC.exit ?_
    show VC _ _ _ _ _ _ _ _
    refine VC.seq ?_
    refine VC.text ?_
    refine VO.c (.move rfl) ?_
    refine VO.c (.assign rfl) ?_
    refine VO.go ?_
    refine VC.ret ?_
    exact VEnd.one rfl evT (pvI (by unfold atE; simp only [wid_D, ← g1, ← g2, ← g3, ← g4]; omega))
theorem sAt_ok {F : List (List Nat)} {p : Int × Int} (hF : OkF F) (hp : (0 ≤ p.1 ∧ p.1 ≤ 4 * ((F.length : Int) - 1)) ∧ (0 ≤ p.2 ∧ p.2 ≤ 4 * ((wid F : Int) - 1))) : VF Tryz.prog OA 137 [.v y101 F, .v y121 p] (I (atE F p)) := by
  refine VF.enter Tryz.func137 rfl (fun _ _ => rfl) rfl ?_
  show VC _ _ _ _ _ [(0, .v y101 F), (1, .v y121 p)] [] _
  have hq1 : p.1.tdiv 4 = (((p.1 / 4).toNat : Nat) : Int) := by rw [Int.tdiv_eq_ediv_of_nonneg hp.1.1]; omega
  have hq2 : p.2.tdiv 4 = (((p.2 / 4).toNat : Nat) : Int) := by rw [Int.tdiv_eq_ediv_of_nonneg hp.2.1]; omega
  have hm1 : p.1.tmod 4 = p.1 % 4 := Int.tmod_eq_emod_of_nonneg hp.1.1
  have hm2 : p.2.tmod 4 = p.2 % 4 := Int.tmod_eq_emod_of_nonneg hp.2.1
  have hpos := hF.pos
  have htop := hF.top
  have hwp := hF.wpos
  have hwt := hF.wtop
  have e0 := wid_eq hpos
  have hr1 : (p.1 / 4).toNat < F.length := by omega
  have hr2 : min ((p.1 / 4).toNat + 1) (F.length - 1) < F.length := by omega
  have hw1 := hF.row _ (List.getElem_mem hr1)
  have hw2 := hF.row _ (List.getElem_mem hr2)
  have hc1 : (p.2 / 4).toNat < wid F := by omega
  have hc2 : min ((p.2 / 4).toNat + 1) (wid F - 1) < wid F := by omega
  have hn1 : min ((((p.1 / 4).toNat : Nat) : Int) + (1 : Int)) (((F.length : Nat) : Int) - (1 : Int)) = ((min ((p.1 / 4).toNat + 1) (F.length - 1) : Nat) : Int) := by omega
  have hn2 : min ((((p.2 / 4).toNat : Nat) : Int) + (1 : Int)) ((((F[0]).length : Nat) : Int) - (1 : Int)) = ((min ((p.2 / 4).toNat + 1) (wid F - 1) : Nat) : Int) := by omega
  refine VC.seq ?_
  refine VC.text ?_
  refine VO.new (.box) ?_
  refine VO.c (.assign rfl) ?_
  refine VO.go ?_
  refine VC.seq ?_
  refine VC.drawn ?_
  refine VD.c (.fa (.l .o)) ?_
  refine VD.r [] (.ld vt3) (.inl rfl) ?_
  refine VD.c (.quo rfl rfl (by decide) (by omega)) ?_
  refine VD.c (.fa (.r .o)) ?_
  refine VD.r [] (.ld vt3) (.inl rfl) ?_
  refine VD.c (.quo rfl rfl (by decide) (by omega)) ?_
  refine VD.nw [] ?_
  refine VD.c (.fa (.l .o)) ?_
  refine VD.r [] (.ld vt3) (.inl rfl) ?_
  refine VD.c (.rem rfl rfl (by decide)) ?_
  refine VD.c (.fa (.r .o)) ?_
  refine VD.r [] (.ld vt3) (.inl rfl) ?_
  refine VD.c (.rem rfl rfl (by decide)) ?_
  refine VD.c (.assign rfl) ?_
  refine VD.nw [] ?_
  refine VD.c (.assign rfl) ?_
  refine VD.c (.assign rfl) ?_
  refine VD.c (.assign rfl) ?_
  rw [hq1, hq2, hm1, hm2]
  refine VD.go ?_
  refine VC.seq ?_
  refine VC.drawn ?_
  refine VD.c (.move rfl) ?_
  refine VD.c (.add rfl rfl (by omega)) ?_
  refine VD.c (.move rfl) ?_
  refine VD.r [] (.len el101) (.inl rfl) ?_
  refine VD.c (.sub rfl rfl (by omega)) ?_
  refine VD.r [] (.min) (.inl rfl) ?_
  refine VD.nw [] ?_
  refine VD.c (.move rfl) ?_
  refine VD.c (.add rfl rfl (by omega)) ?_
  refine VD.c (.move rfl) ?_
  refine VD.c (.ix (j := 0) rfl rfl el101 (by omega)) ?_
  refine VD.r [] (.ld vt124) (.inl rfl) ?_
  refine VD.r [] (.len el124) (.inl rfl) ?_
  refine VD.c (.sub rfl rfl (by omega)) ?_
  refine VD.nw [] ?_
  refine VD.r [] (.min) (.inl rfl) ?_
  refine VD.c (.assign rfl) ?_
  refine VD.c (.assign rfl) ?_
  rw [hn1, hn2]
  refine VD.go ?_
  refine VC.seq ?_
  refine VC.keep [(0, .v y101 F), (5, I (((p.1 / 4).toNat : Nat) : Int)), (6, I (((p.2 / 4).toNat : Nat) : Int)), (7, I (p.1 % 4)), (8, I (p.2 % 4)), (9, I (((min ((p.1 / 4).toNat + 1) (F.length - 1)) : Nat) : Int)), (10, I (((min ((p.2 / 4).toNat + 1) (wid F - 1)) : Nat) : Int))] ⟨rfl, rfl, rfl, rfl, rfl, rfl, rfl, trivial⟩ ?_
  refine VC.drawn ?_
  refine VD.c (.move rfl) ?_
  refine VD.c (.move rfl) ?_
  refine VD.c (.ix (j := ((p.1 / 4).toNat)) rfl rfl el101 (by omega)) ?_
  refine VD.r [] (.ld vt124) (.inl rfl) ?_
  refine VD.c (.move rfl) ?_
  refine VD.c (.ix (j := ((p.2 / 4).toNat)) rfl rfl el124 (by omega)) ?_
  refine VD.nw [] ?_
  refine VD.r [] (.ld vt127) (.inl rfl) ?_
  refine VD.call rfl rfl (VF.call (sSix_ok (lv_get hF hr1 (by omega)))) ?_
  refine VD.c (.move rfl) ?_
  refine VD.c (.move rfl) ?_
  refine VD.c (.ix (j := ((p.1 / 4).toNat)) rfl rfl el101 (by omega)) ?_
  refine VD.r [] (.ld vt124) (.inl rfl) ?_
  refine VD.c (.move rfl) ?_
  refine VD.nw [] ?_
  refine VD.c (.ix (j := (min ((p.2 / 4).toNat + 1) (wid F - 1))) rfl rfl el124 (by omega)) ?_
  refine VD.r [] (.ld vt127) (.inl rfl) ?_
  refine VD.call rfl rfl (VF.call (sSix_ok (lv_get hF hr1 (by omega)))) ?_
  refine VD.c (.move rfl) ?_
  refine VD.c (.move rfl) ?_
  refine VD.c (.ix (j := (min ((p.1 / 4).toNat + 1) (F.length - 1))) rfl rfl el101 (by omega)) ?_
  refine VD.r [] (.ld vt124) (.inl rfl) ?_
  refine VD.nw [] ?_
  refine VD.c (.move rfl) ?_
  refine VD.c (.ix (j := ((p.2 / 4).toNat)) rfl rfl el124 (by omega)) ?_
  refine VD.r [] (.ld vt127) (.inl rfl) ?_
  refine VD.call rfl rfl (VF.call (sSix_ok (lv_get hF hr2 (by omega)))) ?_
  refine VD.c (.move rfl) ?_
  refine VD.c (.move rfl) ?_
  refine VD.c (.ix (j := (min ((p.1 / 4).toNat + 1) (F.length - 1))) rfl rfl el101 (by omega)) ?_
  refine VD.nw [] ?_
  refine VD.r [] (.ld vt124) (.inl rfl) ?_
  refine VD.c (.move rfl) ?_
  refine VD.c (.ix (j := (min ((p.2 / 4).toNat + 1) (wid F - 1))) rfl rfl el124 (by omega)) ?_
  refine VD.r [] (.ld vt127) (.inl rfl) ?_
  refine VD.call rfl rfl (VF.call (sSix_ok (lv_get hF hr2 (by omega)))) ?_
  refine VD.c (.build (sxE ((F[((p.1 / 4).toNat)])[((p.2 / 4).toNat)]), sxE ((F[((p.1 / 4).toNat)])[(min ((p.2 / 4).toNat + 1) (wid F - 1))]), sxE ((F[(min ((p.1 / 4).toNat + 1) (F.length - 1))])[((p.2 / 4).toNat)]), sxE ((F[(min ((p.1 / 4).toNat + 1) (F.length - 1))])[(min ((p.2 / 4).toNat + 1) (wid F - 1))])) bt255) ?_
  refine VD.cell (.alloc zt255) ?_
  intro ww2
  refine VD.nw [11] ?_
  refine VD.mk0 (MakeV.setF (k := 0) vt255 .v (by decide) (.inr ⟨rfl, rfl⟩) rfl rfl) ?_
  rintro _ _ tl3 ⟨rfl, rfl⟩
  refine VD.go ?_
  refine VC.keep [(7, I (p.1 % 4)), (8, I (p.2 % 4)), (11, .raw ww2)] ⟨rfl, rfl, rfl, trivial⟩ ?_
  exact sAt_ok_c4 (F := F) (p := p) hF hr1 hr2 hw1 hw2 hc1 hc2
end Go.Proofs
namespace Go.Proofs
open Go.Fs Ieee
set_option linter.unusedVariables false
theorem vt121 : ValT Tryz.prog 121 y121 := valT_of (by kernel_rfl)
def rowS (F : List (List Nat)) (p : Int × Int) (r c : Nat) : Int := sumR c fun k => wtE p.1 r * wtE p.2 k * sxF F r k
def colS (F : List (List Nat)) (p : Int × Int) (r : Nat) : Int := sumR r fun i => rowS F p i (F.getD i []).length
def shortFE (F : List (List Nat)) : Bool := decide (F.length ≤ 9 ∧ ∀ r ∈ F, r.length ≤ 9)
theorem lRows_ok {l : List (List Nat)} (hl : l.length < 100000) (hr : ∀ r ∈ l, r.length < 100000) : VF Tryz.prog OA 63 [.v y101 l] (.v y101 l) := by
  refine VF.enter Tryz.func63 rfl (fun _ _ => rfl) rfl ?_
  show VC _ _ _ _ _ [(0, .v y101 l)] [] _
  refine VC.seq ?_
  refine VC.text ?_
  refine VO.c (.assign rfl) ?_
  refine VO.go ?_
  refine VC.seq ?_
  refine VC.text ?_
  refine VO.c (.assign rfl) ?_
  refine VO.go ?_
  refine VC.seq ?_
  refine VC.seq ?_
  refine VC.text ?_
  refine VO.c (.move rfl) ?_
  refine VO.r (.len el101) ?_
  refine VO.c (.move rfl) ?_
  refine VO.go ?_
  refine VC.block ?_
  refine VC.cell0 124 y124 ?_
  refine VC.keep [(3, .raw (.slice none 0 0)), (6, .v y101 l), (7, I ((l.length : Nat) : Int)), (8, I ((0 : Nat) : Int))] ⟨rfl, rfl, rfl, rfl, trivial⟩ ?_
  refine VC.loop (I := fun kk ff ss => ∃ (j : Nat) (out : Value), kk = l.length - j ∧ ff = [(3, .raw out), (6, .v y101 l), (7, I ((l.length : Nat) : Int)), (8, I ((j : Nat) : Int))] ∧ ss = [(out, .row 124 y124 (l.take j))] ∧ (j ≤ l.length)) ?_ _ _ _ ⟨0, (.slice none 0 0), rfl, rfl, rfl, Nat.zero_le _⟩
  rintro kk ff ss ⟨j, out, hk0, rfl, rfl, hj⟩
  refine VC.seq ?_
  refine VC.text ?_
  refine VO.c (.lss) ?_
  refine VO.go ?_
  refine VC.seq ?_
  refine VC.condD rfl (fun c3 => ?_) (fun c3 => ?_)
  · refine VC.skip ?_
    show VC _ _ _ _ _ _ _ _
    refine VC.seq ?_
    refine VC.block ?_
    refine VC.seq ?_
    refine VC.text ?_
    have hlj := hr _ (List.getElem_mem (show j < l.length by omega))
    refine VO.c (.ix (j := j) rfl rfl el101 (by omega)) ?_
    refine VO.r (.ld vt124) ?_
    refine VO.c (.assign rfl) ?_
    refine VO.go ?_
    refine VC.text ?_
    refine VO.c (.move rfl) ?_
    refine VO.cell (.lit0 el124) ?_
    intro ww1
    refine VO.c (.move rfl) ?_
    refine VO.app rfl rfl el124 el124 (by simp; omega) ?_
    intro ww2
    refine VO.shut [(15, .v y124 (l[j]))] (.cons rfl (.row m0) .nil) ?_
    refine VO.new (.lit [l[j]] el101) ?_
    refine VO.app rfl rfl el101 el101 (by simp; omega) ?_
    intro ww3
    refine VO.c (.assign rfl) ?_
    refine VO.nil ?_
    show VC _ _ _ _ _ _ _ _
    refine VC.text ?_
    refine VO.c (.add rfl rfl (by omega)) ?_
    refine VO.c (.move rfl) ?_
    refine VO.nil ?_
    refine ⟨_, [(3, .raw ww3), (6, .v y101 l), (7, I ((l.length : Nat) : Int)), (8, I (((j + 1) : Nat) : Int))], ?_, ⟨rfl, rfl, rfl, rfl, trivial⟩, (j + 1), ww3, rfl, rfl, (by rw [List.take_succ_eq_append_getElem (by omega)] <;> rfl), (by omega)⟩
    omega
  · refine VC.exit ?_
    show VC _ _ _ _ _ _ _ _
    refine VC.seq ?_
    refine VC.text ?_
    refine VO.c (.move rfl) ?_
    refine VO.c (.assign rfl) ?_
    refine VO.go ?_
    refine VC.ret ?_
    exact VEnd.one rfl (evC (.row m0)) (pvE (by rw [List.take_of_length_le (by omega)]))
def atB (F : List (List Nat)) (p : Int × Int) : Int := if fieldE F ≠ 0 then fieldE F else placeE p F.length (wid F)
def atR (F : List (List Nat)) (p : Int × Int) : Int := if atB F p = 0 then atE F p else 0
theorem atB_t {F : List (List Nat)} {p : Int × Int} (h : fieldE F ≠ 0) : atB F p = fieldE F := if_pos h
theorem atB_f {F : List (List Nat)} {p : Int × Int} (h : fieldE F = 0) : atB F p = placeE p F.length (wid F) := if_neg (by simpa using h)
theorem sAtP_ok {F : List (List Nat)} {p : Int × Int} (hl : F.length < 100000) (hr : ∀ r ∈ F, r.length < 100000) : VF Tryz.prog OA 62 [.v y101 F, .v y121 p] (.tup [I (atR F p), I (atB F p)]) := by
  refine VF.enter Tryz.func62 rfl (fun _ _ => rfl) rfl ?_
  show VC _ _ _ _ _ [(0, .v y101 F), (1, .v y121 p)] [] _
  refine VC.seq ?_
  refine VC.text ?_
  refine VO.new (.box) ?_
  refine VO.c (.assign rfl) ?_
  refine VO.c (.assign rfl) ?_
  refine VO.go ?_
  refine VC.seq ?_
  refine VC.seq ?_
  refine VC.text ?_
  refine VO.c (.move rfl) ?_
  refine VO.call rfl rfl (VF.call (sField_ok hl hr)) ?_
  refine VO.c (.assign rfl) ?_
  refine VO.go ?_
  refine VC.seq ?_
  refine VC.text ?_
  refine VO.c (.move rfl) ?_
  refine VO.c (.neq) ?_
  refine VO.go ?_
  refine VC.condD rfl (fun c2 => ?_) (fun c2 => ?_)
  · refine VC.seq ?_
    refine VC.text ?_
    refine VO.c (.move rfl) ?_
    refine VO.c (.assign rfl) ?_
    refine VO.c (.assign rfl) ?_
    refine VO.go ?_
    refine VC.ret ?_
    exact VEnd.two rfl evT evT (pvI (by unfold atR; rw [atB_t c2, if_neg c2])) (pvI (by exact (atB_t c2).symm))
  · have h0 : fieldE F = 0 := Decidable.not_not.1 c2
    have hF := fieldE_ok h0
    have hpos := hF.pos
    have htop := hF.top
    have hwp := hF.wpos
    have hwt := hF.wtop
    have e0 := wid_eq hpos
    refine VC.skip ?_
    show VC _ _ _ _ _ _ _ _
    refine VC.seq ?_
    refine VC.seq ?_
    refine VC.drawn ?_
    refine VD.r [] (.ld vt121) (.inl rfl) ?_
    refine VD.c (.move rfl) ?_
    refine VD.r [] (.len el101) (.inl rfl) ?_
    refine VD.c (.move rfl) ?_
    refine VD.c (.ix (j := 0) rfl rfl el101 (by omega)) ?_
    refine VD.r [] (.ld vt124) (.inl rfl) ?_
    refine VD.nw [] ?_
    refine VD.r [] (.len el124) (.inl rfl) ?_
    refine VD.call rfl rfl (VF.call (sPlace_ok (by omega) (by omega))) ?_
    refine VD.c (.assign rfl) ?_
    refine VD.go ?_
    refine VC.seq ?_
    refine VC.text ?_
    refine VO.c (.move rfl) ?_
    refine VO.c (.neq) ?_
    refine VO.go ?_
    refine VC.condD rfl (fun c5 => ?_) (fun c5 => ?_)
    · refine VC.seq ?_
      refine VC.text ?_
      refine VO.c (.move rfl) ?_
      refine VO.c (.assign rfl) ?_
      refine VO.c (.assign rfl) ?_
      refine VO.go ?_
      refine VC.ret ?_
      exact VEnd.two rfl evT evT (pvI (by unfold atR; rw [atB_f h0, if_neg (by rw [← e0]; exact c5)])) (pvI (by rw [atB_f h0, ← e0]))
    · refine VC.skip ?_
      show VC _ _ _ _ _ _ _ _
      refine VC.seq ?_
      refine VC.text ?_
      refine VO.c (.move rfl) ?_
      refine VO.r (.ld vt121) ?_
      refine VO.call rfl rfl (VF.call (sAt_ok hF (by have := placeE_ok (Decidable.not_not.1 c5); rw [e0] at this; exact this))) ?_
      refine VO.c (.assign rfl) ?_
      refine VO.c (.assign rfl) ?_
      refine VO.go ?_
      refine VC.ret ?_
      exact VEnd.two rfl evT evT (pvI (by unfold atR; rw [atB_f h0, if_pos (by rw [← e0]; exact Decidable.not_not.1 c5)])) (pvI (by rw [atB_f h0, ← e0]; exact (Decidable.not_not.1 c5).symm))
end Go.Proofs
namespace Go.Proofs
open Go.Fs Ieee
/-! ## Raised levels -/
def upW (x : Nat) : Nat := (single.add x 1065353216).getD 0
theorem wone : u32 1065353216 = some (16 * 44601490397061246283071436545296723011960832) := by decide +kernel
theorem up_add {x : Nat} (h : lvlE x = 0) (h1 : -960 ≤ sxE x ∧ sxE x ≤ 960) : single.add x 1065353216 = some (upW x) ∧ lvlE (upW x) = 0 ∧ sxE (upW x) = sxE x + 16 := by
  obtain ⟨hu, _, _⟩ := lvl_ok h
  have e : sxE x * 44601490397061246283071436545296723011960832 + 16 * 44601490397061246283071436545296723011960832 = (sxE x + 16) * 44601490397061246283071436545296723011960832 := by omega
  obtain ⟨r, hr, hr2⟩ := add32 hu wone (by
    rw [e, Int.natAbs_mul]
    have : (44601490397061246283071436545296723011960832 : Int).natAbs = 2 ^ 145 := by decide
    rw [this]
    exact rep_small (show (sxE x + 16).natAbs < 2 ^ 24 by omega) (by decide))
  rw [e] at hr2
  have hw : upW x = r := by unfold upW; rw [hr]; rfl
  rw [hw]
  obtain ⟨h2, h3⟩ := lvl_of hr2 (by omega) (by omega)
  exact ⟨hr, h2, h3⟩
structure SmF (F : List (List Nat)) : Prop where
  ok : OkF F
  top : F.length ≤ 4
  wtop : wid F ≤ 4
  low : ∀ r ∈ F, ∀ x ∈ r, -960 ≤ sxE x ∧ sxE x ≤ 960
theorem fieldE_of {F : List (List Nat)} (h : OkF F) : fieldE F = 0 := by
  have h1 := h.pos
  have h2 := h.top
  unfold fieldE
  rw [if_neg (by omega), if_neg (by omega), firstE_zero]
  intro e he
  obtain ⟨r, hr, rfl⟩ := List.mem_map.1 he
  have h3 := h.row r hr
  have h4 := h.wpos
  have h5 := h.wtop
  unfold rowE
  rw [whenE_f (by omega), whenE_f (by omega), whenE_f (by omega)]
  have h6 : firstE (r.map lvlE) = 0 := by
    rw [firstE_zero]
    intro e he
    obtain ⟨x, hx, rfl⟩ := List.mem_map.1 he
    exact h.lv r hr x hx
  rw [h6]; rfl
def upF (F : List (List Nat)) : List (List Nat) := F.map fun r => r.map upW
theorem upF_len {F : List (List Nat)} : (upF F).length = F.length := by simp [upF]
theorem upF_wid {F : List (List Nat)} : wid (upF F) = wid F := by cases F <;> simp [upF, wid]
theorem upF_ok {F : List (List Nat)} (h : SmF F) : OkF (upF F) where
  pos := by rw [upF_len]; exact h.ok.pos
  top := by rw [upF_len]; exact h.ok.top
  wpos := by rw [upF_wid]; exact h.ok.wpos
  wtop := by rw [upF_wid]; exact h.ok.wtop
  row := fun r hr => by
    obtain ⟨s, hs, rfl⟩ := List.mem_map.1 hr
    rw [upF_wid, List.length_map]; exact h.ok.row s hs
  lv := fun r hr x hx => by
    obtain ⟨s, hs, rfl⟩ := List.mem_map.1 hr
    obtain ⟨z, hz, rfl⟩ := List.mem_map.1 hx
    exact (up_add (h.ok.lv s hs z hz) (h.low s hs z hz)).2.1
theorem upF_sx {F : List (List Nat)} (h : SmF F) {r c : Nat} (hr : r < F.length) (hc : c < wid F) : sxF (upF F) r c = sxF F r c + 16 := by
  have hw := h.ok.row _ (List.getElem_mem hr)
  have hr' : r < (upF F).length := by rw [upF_len]; exact hr
  have hg : (upF F)[r] = F[r].map upW := by simp [upF]
  have hc' : c < (upF F)[r].length := by rw [hg, List.length_map]; omega
  rw [← sxF_get hr' hc', ← sxF_get hr (show c < F[r].length by omega)]
  have e : (upF F)[r][c] = upW (F[r][c]'(by omega)) := by simp only [hg, List.getElem_map]
  rw [e]
  exact (up_add (h.ok.lv _ (List.getElem_mem hr) _ (List.getElem_mem _)) (h.low _ (List.getElem_mem hr) _ (List.getElem_mem _))).2.2
/-! ## Lines -/
def lineE (f : Nat → Int) (n : Nat) (q : Int) : Int := (4 - q % 4) * f (q / 4).toNat + q % 4 * f (min ((q / 4).toNat + 1) (n - 1))
theorem at_line {F : List (List Nat)} {p : Int × Int} : atE F p = lineE (fun r => lineE (sxF F r) (wid F) p.2) F.length p.1 := by
  unfold atE lineE
  simp only [wid_D]
  rw [Int.mul_add, Int.mul_add, ← Int.mul_assoc, ← Int.mul_assoc, ← Int.mul_assoc, ← Int.mul_assoc]
  omega
theorem line_const {f g : Nat → Int} {n : Nat} {q k : Int} (hq : 0 ≤ q ∧ q ≤ 4 * ((n : Int) - 1)) (h : ∀ i, i < n → f i = g i + k) : lineE f n q = lineE g n q + 4 * k := by
  unfold lineE
  rw [h (q / 4).toNat (by omega), h (min ((q / 4).toNat + 1) (n - 1)) (by omega)]
  generalize g (q / 4).toNat = a
  generalize g (min ((q / 4).toNat + 1) (n - 1)) = b
  generalize q % 4 = x
  simp only [Int.mul_add, Int.sub_mul]
  omega
theorem line_step {f : Nat → Int} {n : Nat} {q : Int} (hq : 0 ≤ q ∧ q ≤ 4 * ((n : Int) - 1)) (hm : q % 4 ≠ 0) : lineE f n (q - 1) + lineE f n (q + 1) = 2 * lineE f n q := by
  obtain ⟨c, hc⟩ : ∃ c : Nat, q / 4 = c := ⟨(q / 4).toNat, by omega⟩
  have e1 : (q - 1) / 4 = c := by omega
  have e2 : (q - 1) % 4 = q % 4 - 1 := by omega
  have hn : min (c + 1) (n - 1) = c + 1 := by omega
  unfold lineE
  rw [hc, e1, e2]
  simp only [Int.toNat_natCast, hn]
  by_cases h3 : q % 4 = 3
  · have e3 : (q + 1) / 4 = ((c + 1 : Nat) : Int) := by omega
    have e4 : (q + 1) % 4 = 0 := by omega
    rw [e3, e4, h3]
    simp only [Int.toNat_natCast]
    omega
  · have e3 : (q + 1) / 4 = (c : Int) := by omega
    have e4 : (q + 1) % 4 = q % 4 + 1 := by omega
    rw [e3, e4]
    simp only [Int.toNat_natCast, hn]
    generalize f c = a
    generalize f (c + 1) = b
    generalize q % 4 = x
    simp only [Int.sub_mul, Int.add_mul, Int.mul_add, Int.mul_sub]
    omega
theorem line_corner {f : Nat → Int} {n i : Nat} : lineE f n (4 * (i : Int)) = 4 * f i := by
  unfold lineE
  rw [show 4 * (i : Int) % 4 = 0 by omega, show 4 * (i : Int) / 4 = (i : Int) by omega]
  simp
theorem line_low {f : Nat → Int} {n : Nat} {q m : Int} (hq : 0 ≤ q) (h1 : m ≤ 4 * f (q / 4).toNat) (h2 : m ≤ 4 * f (min ((q / 4).toNat + 1) (n - 1))) : m ≤ lineE f n q := by
  unfold lineE
  generalize f (q / 4).toNat = a at h1 ⊢
  generalize f (min ((q / 4).toNat + 1) (n - 1)) = b at h2 ⊢
  have hx : 0 ≤ q % 4 ∧ q % 4 < 4 := by omega
  generalize q % 4 = x at hx
  have k1 := Int.mul_nonneg (show 0 ≤ 4 - x by omega) (show 0 ≤ 4 * a - m by omega)
  have k2 := Int.mul_nonneg hx.1 (show 0 ≤ 4 * b - m by omega)
  simp only [Int.sub_mul, Int.mul_sub] at k1 k2 ⊢
  have e1 : x * (4 * a) = 4 * (x * a) := by rw [Int.mul_left_comm]
  have e2 : x * (4 * b) = 4 * (x * b) := by rw [Int.mul_left_comm]
  rw [e1] at k1
  rw [e2] at k2
  omega
theorem line_high {f : Nat → Int} {n : Nat} {q m : Int} (hq : 0 ≤ q) (h1 : 4 * f (q / 4).toNat ≤ m) (h2 : 4 * f (min ((q / 4).toNat + 1) (n - 1)) ≤ m) : lineE f n q ≤ m := by
  have h := line_low (f := fun i => - f i) (n := n) (m := -m) hq (by omega) (by omega)
  have e : lineE (fun i => - f i) n q = - lineE f n q := by unfold lineE; rw [Int.mul_neg, Int.mul_neg]; omega
  omega
/-! ## The four laws -/
theorem atB_zero {F : List (List Nat)} (h : OkF F) {p : Int × Int} (hp : (0 ≤ p.1 ∧ p.1 ≤ 4 * ((F.length : Int) - 1)) ∧ (0 ≤ p.2 ∧ p.2 ≤ 4 * ((wid F : Int) - 1))) : atB F p = 0 ∧ atR F p = atE F p := by
  have h1 : atB F p = 0 := by
    rw [atB_f (fieldE_of h)]
    unfold placeE
    rw [firstE_zero]
    intro e he
    rcases List.mem_cons.1 he with rfl | he
    · exact rangeE_zero.2 hp.1
    · rw [List.mem_singleton] at he; subst he; exact rangeE_zero.2 hp.2
  exact ⟨h1, if_pos h1⟩
abbrev InF (F : List (List Nat)) (p : Int × Int) : Prop := (0 ≤ p.1 ∧ p.1 ≤ 4 * ((F.length : Int) - 1)) ∧ (0 ≤ p.2 ∧ p.2 ≤ 4 * ((wid F : Int) - 1))
theorem at_up {F : List (List Nat)} (h : SmF F) {p : Int × Int} (hp : InF F p) : atB (upF F) p = 0 ∧ atR (upF F) p = atE F p + 256 := by
  obtain ⟨h1, h2⟩ := atB_zero (upF_ok h) (p := p) (by rw [upF_len, upF_wid]; exact hp)
  refine ⟨h1, ?_⟩
  rw [h2, at_line, at_line, upF_len, upF_wid]
  rw [line_const (k := 64) hp.1 fun i hi => by
    show lineE (sxF (upF F) i) (wid F) p.2 = lineE (sxF F i) (wid F) p.2 + 64
    have := line_const (f := sxF (upF F) i) (g := sxF F i) (k := 16) hp.2 fun j hj => upF_sx h hi hj
    omega]
  omega
theorem at_corner {F : List (List Nat)} (h : OkF F) {i k : Nat} (hi : i < F.length) (hk : k < wid F) : atB F (4 * (i : Int), 4 * (k : Int)) = 0 ∧ atR F (4 * (i : Int), 4 * (k : Int)) = 16 * sxF F i k := by
  obtain ⟨h1, h2⟩ := atB_zero h (p := (4 * (i : Int), 4 * (k : Int))) (by simp only; omega)
  refine ⟨h1, ?_⟩
  rw [h2, at_line]
  simp only [line_corner]
  omega
theorem at_between {F : List (List Nat)} {p : Int × Int} {lo hi : Int} (hp : InF F p)
    (h1 : lo ≤ 16 * sxF F (p.1 / 4).toNat (p.2 / 4).toNat ∧ 16 * sxF F (p.1 / 4).toNat (p.2 / 4).toNat ≤ hi)
    (h2 : lo ≤ 16 * sxF F (p.1 / 4).toNat (min ((p.2 / 4).toNat + 1) (wid F - 1)) ∧ 16 * sxF F (p.1 / 4).toNat (min ((p.2 / 4).toNat + 1) (wid F - 1)) ≤ hi)
    (h3 : lo ≤ 16 * sxF F (min ((p.1 / 4).toNat + 1) (F.length - 1)) (p.2 / 4).toNat ∧ 16 * sxF F (min ((p.1 / 4).toNat + 1) (F.length - 1)) (p.2 / 4).toNat ≤ hi)
    (h4 : lo ≤ 16 * sxF F (min ((p.1 / 4).toNat + 1) (F.length - 1)) (min ((p.2 / 4).toNat + 1) (wid F - 1)) ∧ 16 * sxF F (min ((p.1 / 4).toNat + 1) (F.length - 1)) (min ((p.2 / 4).toNat + 1) (wid F - 1)) ≤ hi) : lo ≤ atE F p ∧ atE F p ≤ hi := by
  rw [at_line]
  have key : ∀ r, (lo ≤ 16 * sxF F r (p.2 / 4).toNat ∧ 16 * sxF F r (p.2 / 4).toNat ≤ hi) → (lo ≤ 16 * sxF F r (min ((p.2 / 4).toNat + 1) (wid F - 1)) ∧ 16 * sxF F r (min ((p.2 / 4).toNat + 1) (wid F - 1)) ≤ hi) → lo ≤ 4 * lineE (sxF F r) (wid F) p.2 ∧ 4 * lineE (sxF F r) (wid F) p.2 ≤ hi := by
    intro r ha hb
    have e : 4 * lineE (sxF F r) (wid F) p.2 = lineE (fun c => 4 * sxF F r c) (wid F) p.2 := by
      unfold lineE; rw [Int.mul_add, Int.mul_left_comm, Int.mul_left_comm 4 (p.2 % 4)]
    rw [e]
    exact ⟨line_low hp.2.1 (by omega) (by omega), line_high hp.2.1 (by omega) (by omega)⟩
  have ka := key _ h1 h2
  have kb := key _ h3 h4
  exact ⟨line_low hp.1.1 ka.1 kb.1, line_high hp.1.1 ka.2 kb.2⟩
theorem at_stepX {F : List (List Nat)} (h : OkF F) {p : Int × Int} (hp : InF F p) (hm : p.2 % 4 ≠ 0) : atB F (p.1, p.2 - 1) = 0 ∧ atB F (p.1, p.2 + 1) = 0 ∧ atR F (p.1, p.2 - 1) + atR F (p.1, p.2 + 1) = 2 * atE F p := by
  obtain ⟨a1, a2⟩ := atB_zero h (p := (p.1, p.2 - 1)) (by simp only; omega)
  obtain ⟨b1, b2⟩ := atB_zero h (p := (p.1, p.2 + 1)) (by simp only; omega)
  refine ⟨a1, b1, ?_⟩
  rw [a2, b2, at_line, at_line, at_line]
  have e : ∀ r, lineE (sxF F r) (wid F) (p.2 - 1) + lineE (sxF F r) (wid F) (p.2 + 1) = 2 * lineE (sxF F r) (wid F) p.2 := fun r => line_step hp.2 hm
  unfold lineE at e ⊢
  simp only at e ⊢
  have e1 := e (p.1 / 4).toNat
  have e2 := e (min ((p.1 / 4).toNat + 1) (F.length - 1))
  generalize (4 - (p.2 - 1) % 4) * sxF F (p.1 / 4).toNat ((p.2 - 1) / 4).toNat + (p.2 - 1) % 4 * sxF F (p.1 / 4).toNat (min (((p.2 - 1) / 4).toNat + 1) (wid F - 1)) = A at e1 ⊢
  generalize (4 - (p.2 + 1) % 4) * sxF F (p.1 / 4).toNat ((p.2 + 1) / 4).toNat + (p.2 + 1) % 4 * sxF F (p.1 / 4).toNat (min (((p.2 + 1) / 4).toNat + 1) (wid F - 1)) = B at e1 ⊢
  generalize (4 - p.2 % 4) * sxF F (p.1 / 4).toNat (p.2 / 4).toNat + p.2 % 4 * sxF F (p.1 / 4).toNat (min ((p.2 / 4).toNat + 1) (wid F - 1)) = C at e1 ⊢
  generalize (4 - (p.2 - 1) % 4) * sxF F (min ((p.1 / 4).toNat + 1) (F.length - 1)) ((p.2 - 1) / 4).toNat + (p.2 - 1) % 4 * sxF F (min ((p.1 / 4).toNat + 1) (F.length - 1)) (min (((p.2 - 1) / 4).toNat + 1) (wid F - 1)) = A' at e2 ⊢
  generalize (4 - (p.2 + 1) % 4) * sxF F (min ((p.1 / 4).toNat + 1) (F.length - 1)) ((p.2 + 1) / 4).toNat + (p.2 + 1) % 4 * sxF F (min ((p.1 / 4).toNat + 1) (F.length - 1)) (min (((p.2 + 1) / 4).toNat + 1) (wid F - 1)) = B' at e2 ⊢
  generalize (4 - p.2 % 4) * sxF F (min ((p.1 / 4).toNat + 1) (F.length - 1)) (p.2 / 4).toNat + p.2 % 4 * sxF F (min ((p.1 / 4).toNat + 1) (F.length - 1)) (min ((p.2 / 4).toNat + 1) (wid F - 1)) = C' at e2 ⊢
  generalize p.1 % 4 = y
  have f1 : (4 - y) * A + (4 - y) * B = 2 * ((4 - y) * C) := by rw [← Int.mul_add, e1, Int.mul_left_comm]
  have f2 : y * A' + y * B' = 2 * (y * C') := by rw [← Int.mul_add, e2, Int.mul_left_comm]
  omega
theorem at_stepY {F : List (List Nat)} (h : OkF F) {p : Int × Int} (hp : InF F p) (hm : p.1 % 4 ≠ 0) : atB F (p.1 - 1, p.2) = 0 ∧ atB F (p.1 + 1, p.2) = 0 ∧ atR F (p.1 - 1, p.2) + atR F (p.1 + 1, p.2) = 2 * atE F p := by
  obtain ⟨a1, a2⟩ := atB_zero h (p := (p.1 - 1, p.2)) (by simp only; omega)
  obtain ⟨b1, b2⟩ := atB_zero h (p := (p.1 + 1, p.2)) (by simp only; omega)
  refine ⟨a1, b1, ?_⟩
  rw [a2, b2, at_line, at_line, at_line]
  exact line_step hp.1 hm
end Go.Proofs
namespace Go.Proofs
open Go.Fs Ieee
set_option linter.unusedVariables false
theorem zt121 : ZerT Tryz.prog 121 y121 := zerT_of (z := .agg #[.int .i64 0, .int .i64 0]) (by kernel_rfl) rfl rfl
theorem bt121 : BldT Tryz.prog 121 y121 [(0, 1), (1, 1)] := bldT_of zt121 rfl (by kernel_rfl)
end Go.Proofs
namespace Go.Fs
theorem CalmV.ixL {P : Program} {fl : VL} {σ : Sto} {x y : Operand} {T e : TypeId} {τ : Ty} {xs : List τ.den} {j : Nat} {a : τ.den} (hx : evV fl x = some (.v (.sl τ) xs)) (hy : evV fl y = some (.v (.int .i64) ((j : Nat) : Int))) (hT : ElT P T e τ) (hj : j < xs.length) (ha : xs[j] = a) : CalmV P fl σ (.indexAddr T x y) (.p τ a) := ha ▸ CalmV.ix hx hy hT hj
end Go.Fs
namespace Go.Proofs
open Go.Fs Ieee
theorem w60 : u32 1114636288 = some (960 * 44601490397061246283071436545296723011960832) := by decide +kernel
theorem wm60 : u32 3262119936 = some (-960 * 44601490397061246283071436545296723011960832) := by decide +kernel
theorem gt60 {x : Nat} (h : lvlE x = 0) : fcmpE .gtr .f32 x 1114636288 = decide (960 < sxE x) := by
  rw [(fcmp32 (lvl_ok h).1 w60).2.2.2.2.1]
  exact decide_eq_decide.2 ⟨fun h => by omega, fun h => by omega⟩
theorem lt60 {x : Nat} (h : lvlE x = 0) : fcmpE .lss .f32 x 3262119936 = decide (sxE x < -960) := by
  rw [(fcmp32 (lvl_ok h).1 wm60).2.2.1]
  exact decide_eq_decide.2 ⟨fun h => by omega, fun h => by omega⟩
theorem at_bound {F : List (List Nat)} (h : OkF F) {p : Int × Int} (hp : InF F p) : -16384 ≤ atR F p ∧ atR F p ≤ 16384 := by
  rw [(atB_zero h hp).2]
  have hr1 : (p.1 / 4).toNat < F.length := by omega
  have hr2 : min ((p.1 / 4).toNat + 1) (F.length - 1) < F.length := by omega
  have hw1 := h.row _ (List.getElem_mem hr1)
  have hw2 := h.row _ (List.getElem_mem hr2)
  have key : ∀ r c, (hr : r < F.length) → (hc : c < wid F) → -16384 ≤ 16 * sxF F r c ∧ 16 * sxF F r c ≤ 16384 := fun r c hr hc => by
    have hw := h.row _ (List.getElem_mem hr)
    have := sx_bound h hr (show c < _ by omega)
    rw [sxF_get hr (by omega)] at this
    omega
  exact at_between hp (key _ _ hr1 (by omega)) (key _ _ hr1 (by omega)) (key _ _ hr2 (by omega)) (key _ _ hr2 (by omega))
theorem short_rows {F : List (List Nat)} (h : OkF F) : ∀ r ∈ F, r.length < 100000 := fun r hr => by
  have := h.row r hr
  have := h.wtop
  omega
theorem law11_ok_c43 {F : List (List Nat)} {y : Int} {x : Int} {p1 p2 : Int} {ww3 : Value} {raised : Value} (hp : InF F (p1, p2)) (hF : OkF F) : VC Tryz.prog OA none (seqN 13 (codeOf Tryz.f11)) Tryz.f11.ntmps [(0, .v y101 F), (13, .raw ww3), (14, I (atR F (p1, p2)))] [(ww3, .var [I p1, I p2]), (raised, .row 124 y124 (upF F))] (VEnd Tryz.prog Tryz.f11 (B true)) := by
  refine VC.seq ?_
  refine VC.seq ?_
  refine VC.text ?_
  have hpos := hF.pos
  have htop := hF.top
  have hwp := hF.wpos
  have hwt := hF.wtop
  have hsr := short_rows hF
  have A0 := atB_zero hF hp
  have A2 := at_bound hF hp
  have hp1 : 0 ≤ p1 ∧ p1 ≤ 4 * ((F.length : Int) - 1) := hp.1
  have hp2 : 0 ≤ p2 ∧ p2 ≤ 4 * ((wid F : Int) - 1) := hp.2
  have hm1 : p1.tmod 4 = p1 % 4 := Int.tmod_eq_emod_of_nonneg hp1.1
  refine VO.c (.faO (k := 0) m0) ?_
  refine VO.r (.ldF (k := 0) m0 vt3) ?_
  refine VO.c (.rem rfl rfl (by decide)) ?_
  refine VO.c (.neq) ?_
  rw [hm1]
  refine VO.go ?_
  refine VC.join [] [(ww3, .var [I p1, I p2]), (raised, .row 124 y124 (upF F))] ?_ ?_
  refine VC.condD rfl (fun c43 => ?_) (fun c43 => ?_)
  · refine VC.seq ?_
    refine VC.drawn ?_
    have Y1 := at_stepY hF hp c43
    have Y2 := at_bound hF (p := (p1 - 1, p2)) (show InF F (p1 - 1, p2) from ⟨by simp only; omega, hp2⟩)
    have Y3 := at_bound hF (p := (p1 + 1, p2)) (show InF F (p1 + 1, p2) from ⟨by simp only; omega, hp2⟩)
    refine VD.c (.move rfl) ?_
    refine VD.call rfl rfl (VF.call (lRows_ok (by omega) hsr)) ?_
    refine VD.co (.faO (k := 0) m0) ?_
    refine VD.r [(ww3, .var [I p1, I p2]), (raised, .row 124 y124 (upF F))] (.ldF (k := 0) m0 vt3) (.inr ⟨rfl, rfl⟩) ?_
    refine VD.c (.sub rfl rfl (by omega)) ?_
    refine VD.co (.faO (k := 1) m0) ?_
    refine VD.nw [248] ?_
    refine VD.r [(ww3, .var [I p1, I p2]), (raised, .row 124 y124 (upF F))] (.ldF (k := 1) m0 vt3) (.inr ⟨rfl, rfl⟩) ?_
    refine VD.c (.build ((p1 - (1 : Int)), p2) bt121) ?_
    refine VD.callO rfl rfl (VF.call (sAtP_ok (by omega) hsr)) ?_
    refine VD.c (.move rfl) ?_
    refine VD.c (.extract) ?_
    refine VD.c (.extract) ?_
    refine VD.c (.assign rfl) ?_
    refine VD.nw [248] ?_
    refine VD.c (.assign rfl) ?_
    refine VD.go ?_
    refine VC.seq ?_
    refine VC.drawn ?_
    refine VD.c (.move rfl) ?_
    refine VD.call rfl rfl (VF.call (lRows_ok (by omega) hsr)) ?_
    refine VD.co (.faO (k := 0) m0) ?_
    refine VD.r [(ww3, .var [I p1, I p2]), (raised, .row 124 y124 (upF F))] (.ldF (k := 0) m0 vt3) (.inr ⟨rfl, rfl⟩) ?_
    refine VD.c (.add rfl rfl (by omega)) ?_
    refine VD.co (.faO (k := 1) m0) ?_
    refine VD.nw [260] ?_
    refine VD.r [(ww3, .var [I p1, I p2]), (raised, .row 124 y124 (upF F))] (.ldF (k := 1) m0 vt3) (.inr ⟨rfl, rfl⟩) ?_
    refine VD.c (.build ((p1 + (1 : Int)), p2) bt121) ?_
    refine VD.callO rfl rfl (VF.call (sAtP_ok (by omega) hsr)) ?_
    refine VD.c (.move rfl) ?_
    refine VD.c (.extract) ?_
    refine VD.c (.extract) ?_
    refine VD.c (.assign rfl) ?_
    refine VD.nw [260] ?_
    refine VD.c (.assign rfl) ?_
    refine VD.go ?_
    refine VC.seq ?_
    refine VC.keep [(14, I (atR F (p1, p2))), (32, I (atR F ((p1 - (1 : Int)), p2))), (33, I (atB F ((p1 - (1 : Int)), p2))), (34, I (atR F ((p1 + (1 : Int)), p2))), (35, I (atB F ((p1 + (1 : Int)), p2)))] ⟨rfl, rfl, rfl, rfl, rfl, trivial⟩ ?_
    refine VC.text ?_
    refine VO.c (.move rfl) ?_
    refine VO.c (.neq) ?_
    refine VO.c (.move rfl) ?_
    refine VO.splitD (x := 272) rfl (fun g46_2 => ?_) (fun g46_2 => ?_)
    · exact absurd Y1.1 g46_2
    · refine VO.c (.move rfl) ?_
      refine VO.c (.neq) ?_
      refine VO.c (.pickF rfl rfl) ?_
      refine VO.c (.move rfl) ?_
      refine VO.splitD (x := 276) rfl (fun g46_6 => ?_) (fun g46_6 => ?_)
      · exact absurd Y1.2.1 g46_6
      · refine VO.c (.move rfl) ?_
        refine VO.c (.move rfl) ?_
        refine VO.c (.add rfl rfl (by omega)) ?_
        refine VO.c (.move rfl) ?_
        refine VO.c (.mul rfl rfl (by omega)) ?_
        refine VO.c (.neq) ?_
        refine VO.c (.pickF rfl rfl) ?_
        refine VO.go ?_
        refine VC.condD rfl (fun c46 => ?_) (fun c46 => ?_)
        · exact absurd (by rw [Y1.2.2, A0.2]) c46
        · refine VC.skip ?_
          exact ⟨trivial, rfl⟩
  · refine VC.skip ?_
    exact ⟨trivial, rfl⟩
  show VC _ _ _ _ _ _ _ _
  refine VC.seq ?_
  refine VC.text ?_
  refine VO.call rfl rfl (VF.call (awake_ok )) ?_
  refine VO.c (.assign rfl) ?_
  refine VO.go ?_
  refine VC.ret ?_
  exact VEnd.one rfl evT (pvE (by first | rfl | simp))
theorem law11_ok_c38 {F : List (List Nat)} {y : Int} {x : Int} {p1 p2 : Int} {ww3 : Value} {raised : Value} (hp : InF F (p1, p2)) (hF : OkF F) : VC Tryz.prog OA none (seqN 12 (codeOf Tryz.f11)) Tryz.f11.ntmps [(0, .v y101 F), (13, .raw ww3), (14, I (atR F (p1, p2)))] [(ww3, .var [I p1, I p2]), (raised, .row 124 y124 (upF F))] (VEnd Tryz.prog Tryz.f11 (B true)) := by
  refine VC.seq ?_
  refine VC.seq ?_
  refine VC.text ?_
  have hpos := hF.pos
  have htop := hF.top
  have hwp := hF.wpos
  have hwt := hF.wtop
  have hsr := short_rows hF
  have A0 := atB_zero hF hp
  have A2 := at_bound hF hp
  have hp1 : 0 ≤ p1 ∧ p1 ≤ 4 * ((F.length : Int) - 1) := hp.1
  have hp2 : 0 ≤ p2 ∧ p2 ≤ 4 * ((wid F : Int) - 1) := hp.2
  have hm1 : p2.tmod 4 = p2 % 4 := Int.tmod_eq_emod_of_nonneg hp2.1
  refine VO.c (.faO (k := 1) m0) ?_
  refine VO.r (.ldF (k := 1) m0 vt3) ?_
  refine VO.c (.rem rfl rfl (by decide)) ?_
  refine VO.c (.neq) ?_
  rw [hm1]
  refine VO.go ?_
  refine VC.join [(0, .v y101 F), (13, .raw ww3), (14, I (atR F (p1, p2)))] [(ww3, .var [I p1, I p2]), (raised, .row 124 y124 (upF F))] ?_ ?_
  refine VC.condD rfl (fun c38 => ?_) (fun c38 => ?_)
  · refine VC.seq ?_
    refine VC.drawn ?_
    have X1 := at_stepX hF hp c38
    have X2 := at_bound hF (p := (p1, p2 - 1)) (show InF F (p1, p2 - 1) from ⟨hp1, by simp only; omega⟩)
    have X3 := at_bound hF (p := (p1, p2 + 1)) (show InF F (p1, p2 + 1) from ⟨hp1, by simp only; omega⟩)
    refine VD.c (.move rfl) ?_
    refine VD.call rfl rfl (VF.call (lRows_ok (by omega) hsr)) ?_
    refine VD.co (.faO (k := 0) m0) ?_
    refine VD.r [(ww3, .var [I p1, I p2]), (raised, .row 124 y124 (upF F))] (.ldF (k := 0) m0 vt3) (.inr ⟨rfl, rfl⟩) ?_
    refine VD.co (.faO (k := 1) m0) ?_
    refine VD.r [(ww3, .var [I p1, I p2]), (raised, .row 124 y124 (upF F))] (.ldF (k := 1) m0 vt3) (.inr ⟨rfl, rfl⟩) ?_
    refine VD.nw [206] ?_
    refine VD.c (.sub rfl rfl (by omega)) ?_
    refine VD.c (.build (p1, (p2 - (1 : Int))) bt121) ?_
    refine VD.callO rfl rfl (VF.call (sAtP_ok (by omega) hsr)) ?_
    refine VD.c (.move rfl) ?_
    refine VD.c (.extract) ?_
    refine VD.c (.extract) ?_
    refine VD.c (.assign rfl) ?_
    refine VD.nw [206] ?_
    refine VD.c (.assign rfl) ?_
    refine VD.go ?_
    refine VC.seq ?_
    refine VC.drawn ?_
    refine VD.c (.move rfl) ?_
    refine VD.call rfl rfl (VF.call (lRows_ok (by omega) hsr)) ?_
    refine VD.co (.faO (k := 0) m0) ?_
    refine VD.r [(ww3, .var [I p1, I p2]), (raised, .row 124 y124 (upF F))] (.ldF (k := 0) m0 vt3) (.inr ⟨rfl, rfl⟩) ?_
    refine VD.co (.faO (k := 1) m0) ?_
    refine VD.r [(ww3, .var [I p1, I p2]), (raised, .row 124 y124 (upF F))] (.ldF (k := 1) m0 vt3) (.inr ⟨rfl, rfl⟩) ?_
    refine VD.nw [218] ?_
    refine VD.c (.add rfl rfl (by omega)) ?_
    refine VD.c (.build (p1, (p2 + (1 : Int))) bt121) ?_
    refine VD.callO rfl rfl (VF.call (sAtP_ok (by omega) hsr)) ?_
    refine VD.c (.move rfl) ?_
    refine VD.c (.extract) ?_
    refine VD.c (.extract) ?_
    refine VD.c (.assign rfl) ?_
    refine VD.nw [218] ?_
    refine VD.c (.assign rfl) ?_
    refine VD.go ?_
    refine VC.seq ?_
    refine VC.keep [(0, .v y101 F), (13, .raw ww3), (14, I (atR F (p1, p2))), (28, I (atR F (p1, (p2 - (1 : Int))))), (29, I (atB F (p1, (p2 - (1 : Int))))), (30, I (atR F (p1, (p2 + (1 : Int))))), (31, I (atB F (p1, (p2 + (1 : Int)))))] ⟨rfl, rfl, rfl, rfl, rfl, rfl, rfl, trivial⟩ ?_
    refine VC.text ?_
    refine VO.c (.move rfl) ?_
    refine VO.c (.neq) ?_
    refine VO.c (.move rfl) ?_
    refine VO.splitD (x := 230) rfl (fun g41_2 => ?_) (fun g41_2 => ?_)
    · exact absurd X1.1 g41_2
    · refine VO.c (.move rfl) ?_
      refine VO.c (.neq) ?_
      refine VO.c (.pickF rfl rfl) ?_
      refine VO.c (.move rfl) ?_
      refine VO.splitD (x := 234) rfl (fun g41_6 => ?_) (fun g41_6 => ?_)
      · exact absurd X1.2.1 g41_6
      · refine VO.c (.move rfl) ?_
        refine VO.c (.move rfl) ?_
        refine VO.c (.add rfl rfl (by omega)) ?_
        refine VO.c (.move rfl) ?_
        refine VO.c (.mul rfl rfl (by omega)) ?_
        refine VO.c (.neq) ?_
        refine VO.c (.pickF rfl rfl) ?_
        refine VO.go ?_
        refine VC.condD rfl (fun c41 => ?_) (fun c41 => ?_)
        · exact absurd (by rw [X1.2.2, A0.2]) c41
        · refine VC.skip ?_
          exact ⟨⟨rfl, rfl, rfl, trivial⟩, rfl⟩
  · refine VC.skip ?_
    exact ⟨⟨rfl, rfl, rfl, trivial⟩, rfl⟩
  show VC _ _ _ _ _ _ _ _
  refine VC.keep [(0, .v y101 F), (13, .raw ww3), (14, I (atR F (p1, p2)))] ⟨rfl, rfl, rfl, trivial⟩ ?_
  exact law11_ok_c43 (F := F) (y := y) (x := x) hp hF
theorem law11_ok_c22 {F : List (List Nat)} {y : Int} {x : Int} {p1 p2 : Int} {ww3 : Value} {raised : Value} (hp : InF F (p1, p2)) (hF : OkF F) : VC Tryz.prog OA none (seqN 8 (codeOf Tryz.f11)) Tryz.f11.ntmps [(0, .v y101 F), (13, .raw ww3), (14, I (atR F (p1, p2)))] [(ww3, .var [I p1, I p2]), (raised, .row 124 y124 (upF F))] (VEnd Tryz.prog Tryz.f11 (B true)) := by
  refine VC.seq ?_
  refine VC.drawn ?_
  have hpos := hF.pos
  have htop := hF.top
  have hwp := hF.wpos
  have hwt := hF.wtop
  have e0 := wid_eq hpos
  have hsr := short_rows hF
  have A0 := atB_zero hF hp
  have hq1 : p1.tdiv 4 = (((p1 / 4).toNat : Nat) : Int) := by rw [Int.tdiv_eq_ediv_of_nonneg hp.1.1]; have := hp.1.1; simp only at this; omega
  have hq2 : p2.tdiv 4 = (((p2 / 4).toNat : Nat) : Int) := by rw [Int.tdiv_eq_ediv_of_nonneg hp.2.1]; have := hp.2.1; simp only at this; omega
  have hr1 : (p1 / 4).toNat < F.length := by have := hp.1; simp only at this; omega
  have hr2 : min ((p1 / 4).toNat + 1) (F.length - 1) < F.length := by omega
  have hc1 : (p2 / 4).toNat < wid F := by have := hp.2; simp only at this; omega
  have hc2 : min ((p2 / 4).toNat + 1) (wid F - 1) < wid F := by omega
  have hw1 := hF.row _ (List.getElem_mem hr1)
  have hw2 := hF.row _ (List.getElem_mem hr2)
  have hn1 : min ((((p1 / 4).toNat : Nat) : Int) + (1 : Int)) (((F.length : Nat) : Int) - (1 : Int)) = ((min ((p1 / 4).toNat + 1) (F.length - 1) : Nat) : Int) := by omega
  have hn2 : min ((((p2 / 4).toNat : Nat) : Int) + (1 : Int)) ((((F[0]).length : Nat) : Int) - (1 : Int)) = ((min ((p2 / 4).toNat + 1) (wid F - 1) : Nat) : Int) := by omega
  have K11 := at_corner hF hr1 hc1
  have K12 := at_corner hF hr1 hc2
  have K21 := at_corner hF hr2 hc1
  have K22 := at_corner hF hr2 hc2
  have S11 := sx_bound hF hr1 (show (p2 / 4).toNat < _ by omega)
  have S12 := sx_bound hF hr1 (show min ((p2 / 4).toNat + 1) (wid F - 1) < _ by omega)
  have S21 := sx_bound hF hr2 (show (p2 / 4).toNat < _ by omega)
  have S22 := sx_bound hF hr2 (show min ((p2 / 4).toNat + 1) (wid F - 1) < _ by omega)
  have G11 := sxF_get hr1 (show (p2 / 4).toNat < _ by omega)
  have G12 := sxF_get hr1 (show min ((p2 / 4).toNat + 1) (wid F - 1) < _ by omega)
  have G21 := sxF_get hr2 (show (p2 / 4).toNat < _ by omega)
  have G22 := sxF_get hr2 (show min ((p2 / 4).toNat + 1) (wid F - 1) < _ by omega)
  refine VD.co (.faO (k := 0) m0) ?_
  refine VD.r [(ww3, .var [I p1, I p2]), (raised, .row 124 y124 (upF F))] (.ldF (k := 0) m0 vt3) (.inr ⟨rfl, rfl⟩) ?_
  refine VD.c (.quo rfl rfl (by decide) (by omega)) ?_
  refine VD.co (.faO (k := 1) m0) ?_
  refine VD.r [(ww3, .var [I p1, I p2]), (raised, .row 124 y124 (upF F))] (.ldF (k := 1) m0 vt3) (.inr ⟨rfl, rfl⟩) ?_
  refine VD.c (.quo rfl rfl (by decide) (by omega)) ?_
  refine VD.nw [] ?_
  refine VD.c (.assign rfl) ?_
  refine VD.c (.assign rfl) ?_
  rw [hq1, hq2]
  refine VD.go ?_
  refine VC.seq ?_
  refine VC.text ?_
  refine VO.c (.assign rfl) ?_
  refine VO.c (.assign rfl) ?_
  refine VO.go ?_
  refine VC.seq ?_
  refine VC.seq ?_
  refine VC.text ?_
  refine VO.c (.move rfl) ?_
  refine VO.c (.move rfl) ?_
  refine VO.c (.add rfl rfl (by omega)) ?_
  refine VO.c (.move rfl) ?_
  refine VO.r (.len el101) ?_
  refine VO.c (.sub rfl rfl (by omega)) ?_
  refine VO.r (.min) ?_
  rw [hn1]
  refine VO.new (.lit [(((p1 / 4).toNat : Nat) : Int), (((min ((p1 / 4).toNat + 1) (F.length - 1)) : Nat) : Int)] el22) ?_
  refine VO.r (.len el22) ?_
  refine VO.c (.move rfl) ?_
  refine VO.go ?_
  refine VC.block ?_
  refine VC.unroll ?_
  refine VC.seq ?_
  refine VC.text ?_
  refine VO.c (.lss) ?_
  refine VO.go ?_
  refine VC.seq ?_
  refine VC.condT rfl ?_
  refine VC.skip ?_
  show VC _ _ _ _ _ _ _ _
  refine VC.seq ?_
  refine VC.block ?_
  refine VC.seq ?_
  refine VC.text ?_
  refine VO.c (.ixL (j := 0) (a := (((p1 / 4).toNat : Nat) : Int)) rfl rfl el22 (by simp) rfl) ?_
  refine VO.r (.ld vt3) ?_
  refine VO.c (.assign rfl) ?_
  refine VO.go ?_
  refine VC.seq ?_
  refine VC.text ?_
  refine VO.c (.move rfl) ?_
  refine VO.c (.move rfl) ?_
  refine VO.c (.add rfl rfl (by omega)) ?_
  refine VO.c (.move rfl) ?_
  refine VO.c (.ix (j := 0) rfl rfl el101 (by omega)) ?_
  refine VO.r (.ld vt124) ?_
  refine VO.r (.len el124) ?_
  refine VO.c (.sub rfl rfl (by omega)) ?_
  refine VO.r (.min) ?_
  rw [hn2]
  refine VO.new (.lit [(((p2 / 4).toNat : Nat) : Int), (((min ((p2 / 4).toNat + 1) (wid F - 1)) : Nat) : Int)] el22) ?_
  refine VO.r (.len el22) ?_
  refine VO.c (.move rfl) ?_
  refine VO.go ?_
  refine VC.block ?_
  refine VC.unroll ?_
  refine VC.seq ?_
  refine VC.keep [(0, .v y101 F), (13, .raw ww3), (14, I (atR F (p1, p2))), (19, I (((p2 / 4).toNat : Nat) : Int)), (20, I (1073741824 : Int)), (21, I (-1073741824 : Int)), (23, I (((p1 / 4).toNat : Nat) : Int)), (137, .v y22 [(((p1 / 4).toNat : Nat) : Int), (((min ((p1 / 4).toNat + 1) (F.length - 1)) : Nat) : Int)]), (138, I (2 : Int)), (139, I (0 : Int)), (152, .v y22 [(((p2 / 4).toNat : Nat) : Int), (((min ((p2 / 4).toNat + 1) (wid F - 1)) : Nat) : Int)]), (153, I (2 : Int)), (154, I (0 : Int))] ⟨rfl, rfl, rfl, rfl, rfl, rfl, rfl, rfl, rfl, rfl, rfl, rfl, rfl, trivial⟩ ?_
  refine VC.text ?_
  refine VO.c (.lss) ?_
  refine VO.go ?_
  refine VC.seq ?_
  refine VC.condT rfl ?_
  refine VC.skip ?_
  show VC _ _ _ _ _ _ _ _
  refine VC.seq ?_
  refine VC.block ?_
  refine VC.seq ?_
  refine VC.text ?_
  refine VO.c (.ixL (j := 0) (a := (((p2 / 4).toNat : Nat) : Int)) rfl rfl el22 (by simp) rfl) ?_
  refine VO.r (.ld vt3) ?_
  refine VO.c (.assign rfl) ?_
  refine VO.go ?_
  refine VC.seq ?_
  refine VC.text ?_
  refine VO.c (.move rfl) ?_
  refine VO.call rfl rfl (VF.call (lRows_ok (by omega) hsr)) ?_
  refine VO.c (.move rfl) ?_
  refine VO.c (.mul rfl rfl (by omega)) ?_
  refine VO.c (.move rfl) ?_
  refine VO.c (.mul rfl rfl (by omega)) ?_
  refine VO.c (.build (((4 : Int) * (((p1 / 4).toNat : Nat) : Int)), ((4 : Int) * (((p2 / 4).toNat : Nat) : Int))) bt121) ?_
  refine VO.call rfl rfl (VF.call (sAtP_ok (by first | assumption | omega) (by first | assumption | omega))) ?_
  refine VO.c (.move rfl) ?_
  refine VO.c (.extract) ?_
  refine VO.c (.extract) ?_
  refine VO.c (.assign rfl) ?_
  refine VO.c (.assign rfl) ?_
  refine VO.go ?_
  refine VC.seq ?_
  refine VC.seq ?_
  refine VC.text ?_
  refine VO.c (.move rfl) ?_
  refine VO.c (.neq) ?_
  refine VO.c (.move rfl) ?_
  refine VO.splitD (x := 171) rfl (fun g31_2 => ?_) (fun g31_2 => ?_)
  · first | exact absurd K11.1 g31_2 | exact absurd K12.1 g31_2 | exact absurd K21.1 g31_2 | exact absurd K22.1 g31_2
  · refine VO.c (.move rfl) ?_
    refine VO.c (.move rfl) ?_
    refine VO.c (.move rfl) ?_
    refine VO.c (.ix (j := ((p1 / 4).toNat)) rfl rfl el101 (by omega)) ?_
    refine VO.r (.ld vt124) ?_
    refine VO.c (.move rfl) ?_
    refine VO.c (.ix (j := ((p2 / 4).toNat)) rfl rfl el124 (by omega)) ?_
    refine VO.r (.ld vt127) ?_
    refine VO.call rfl rfl (VF.call (rSix_ok (lv_get hF (by omega) (by omega)))) ?_
    refine VO.c (.mul rfl rfl (by omega)) ?_
    refine VO.c (.neq) ?_
    refine VO.c (.pickF rfl rfl) ?_
    refine VO.go ?_
    refine VC.condD rfl (fun c31 => ?_) (fun c31 => ?_)
    · first | exact absurd (by rw [K11.2, G11]) c31 | exact absurd (by rw [K12.2, G12]) c31 | exact absurd (by rw [K21.2, G21]) c31 | exact absurd (by rw [K22.2, G22]) c31
    · refine VC.skip ?_
      show VC _ _ _ _ _ _ _ _
      refine VC.keep [(0, .v y101 F), (13, .raw ww3), (14, I (atR F (p1, p2))), (19, I (((p2 / 4).toNat : Nat) : Int)), (20, I (1073741824 : Int)), (21, I (-1073741824 : Int)), (23, I (((p1 / 4).toNat : Nat) : Int)), (26, I (atR F (((4 : Int) * (((p1 / 4).toNat : Nat) : Int)), ((4 : Int) * (((p2 / 4).toNat : Nat) : Int))))), (137, .v y22 [(((p1 / 4).toNat : Nat) : Int), (((min ((p1 / 4).toNat + 1) (F.length - 1)) : Nat) : Int)]), (138, I (2 : Int)), (139, I (0 : Int)), (152, .v y22 [(((p2 / 4).toNat : Nat) : Int), (((min ((p2 / 4).toNat + 1) (wid F - 1)) : Nat) : Int)]), (153, I (2 : Int)), (154, I (0 : Int))] ⟨rfl, rfl, rfl, rfl, rfl, rfl, rfl, rfl, rfl, rfl, rfl, rfl, rfl, rfl, trivial⟩ ?_
      refine VC.text ?_
      refine VO.c (.move rfl) ?_
      refine VO.c (.move rfl) ?_
      refine VO.r (.min) ?_
      refine VO.c (.move rfl) ?_
      refine VO.c (.move rfl) ?_
      refine VO.r (.max) ?_
      refine VO.c (.assign rfl) ?_
      refine VO.c (.assign rfl) ?_
      refine VO.nil ?_
      show VC _ _ _ _ _ _ _ _
      refine VC.text ?_
      refine VO.c (.add rfl rfl (by decide)) ?_
      refine VO.c (.move rfl) ?_
      refine VO.nil ?_
      show VC _ _ _ _ _ _ _ _
      refine VC.unroll ?_
      refine VC.seq ?_
      refine VC.text ?_
      refine VO.c (.lss) ?_
      refine VO.go ?_
      refine VC.seq ?_
      refine VC.condT rfl ?_
      refine VC.skip ?_
      show VC _ _ _ _ _ _ _ _
      refine VC.seq ?_
      refine VC.block ?_
      refine VC.seq ?_
      refine VC.text ?_
      refine VO.c (.ixL (j := 1) (a := (((min ((p2 / 4).toNat + 1) (wid F - 1)) : Nat) : Int)) rfl rfl el22 (by simp) rfl) ?_
      refine VO.r (.ld vt3) ?_
      refine VO.c (.assign rfl) ?_
      refine VO.go ?_
      refine VC.seq ?_
      refine VC.text ?_
      refine VO.c (.move rfl) ?_
      refine VO.call rfl rfl (VF.call (lRows_ok (by omega) hsr)) ?_
      refine VO.c (.move rfl) ?_
      refine VO.c (.mul rfl rfl (by omega)) ?_
      refine VO.c (.move rfl) ?_
      refine VO.c (.mul rfl rfl (by omega)) ?_
      refine VO.c (.build (((4 : Int) * (((p1 / 4).toNat : Nat) : Int)), ((4 : Int) * (((min ((p2 / 4).toNat + 1) (wid F - 1)) : Nat) : Int))) bt121) ?_
      refine VO.call rfl rfl (VF.call (sAtP_ok (by first | assumption | omega) (by first | assumption | omega))) ?_
      refine VO.c (.move rfl) ?_
      refine VO.c (.extract) ?_
      refine VO.c (.extract) ?_
      refine VO.c (.assign rfl) ?_
      refine VO.c (.assign rfl) ?_
      refine VO.go ?_
      refine VC.seq ?_
      refine VC.seq ?_
      refine VC.text ?_
      refine VO.c (.move rfl) ?_
      refine VO.c (.neq) ?_
      refine VO.c (.move rfl) ?_
      refine VO.splitD (x := 171) rfl (fun g31_2 => ?_) (fun g31_2 => ?_)
      · first | exact absurd K11.1 g31_2 | exact absurd K12.1 g31_2 | exact absurd K21.1 g31_2 | exact absurd K22.1 g31_2
      · refine VO.c (.move rfl) ?_
        refine VO.c (.move rfl) ?_
        refine VO.c (.move rfl) ?_
        refine VO.c (.ix (j := ((p1 / 4).toNat)) rfl rfl el101 (by omega)) ?_
        refine VO.r (.ld vt124) ?_
        refine VO.c (.move rfl) ?_
        refine VO.c (.ix (j := (min ((p2 / 4).toNat + 1) (wid F - 1))) rfl rfl el124 (by omega)) ?_
        refine VO.r (.ld vt127) ?_
        refine VO.call rfl rfl (VF.call (rSix_ok (lv_get hF (by omega) (by omega)))) ?_
        refine VO.c (.mul rfl rfl (by omega)) ?_
        refine VO.c (.neq) ?_
        refine VO.c (.pickF rfl rfl) ?_
        refine VO.go ?_
        refine VC.condD rfl (fun c31 => ?_) (fun c31 => ?_)
        · first | exact absurd (by rw [K11.2, G11]) c31 | exact absurd (by rw [K12.2, G12]) c31 | exact absurd (by rw [K21.2, G21]) c31 | exact absurd (by rw [K22.2, G22]) c31
        · refine VC.skip ?_
          show VC _ _ _ _ _ _ _ _
          refine VC.keep [(0, .v y101 F), (13, .raw ww3), (14, I (atR F (p1, p2))), (19, I (((p2 / 4).toNat : Nat) : Int)), (20, I (min (1073741824 : Int) (atR F (((4 : Int) * (((p1 / 4).toNat : Nat) : Int)), ((4 : Int) * (((p2 / 4).toNat : Nat) : Int)))))), (21, I (max (-1073741824 : Int) (atR F (((4 : Int) * (((p1 / 4).toNat : Nat) : Int)), ((4 : Int) * (((p2 / 4).toNat : Nat) : Int)))))), (23, I (((p1 / 4).toNat : Nat) : Int)), (26, I (atR F (((4 : Int) * (((p1 / 4).toNat : Nat) : Int)), ((4 : Int) * (((min ((p2 / 4).toNat + 1) (wid F - 1)) : Nat) : Int))))), (137, .v y22 [(((p1 / 4).toNat : Nat) : Int), (((min ((p1 / 4).toNat + 1) (F.length - 1)) : Nat) : Int)]), (138, I (2 : Int)), (139, I (0 : Int)), (152, .v y22 [(((p2 / 4).toNat : Nat) : Int), (((min ((p2 / 4).toNat + 1) (wid F - 1)) : Nat) : Int)]), (153, I (2 : Int)), (154, I (1 : Int))] ⟨rfl, rfl, rfl, rfl, rfl, rfl, rfl, rfl, rfl, rfl, rfl, rfl, rfl, rfl, trivial⟩ ?_
          refine VC.text ?_
          refine VO.c (.move rfl) ?_
          refine VO.c (.move rfl) ?_
          refine VO.r (.min) ?_
          refine VO.c (.move rfl) ?_
          refine VO.c (.move rfl) ?_
          refine VO.r (.max) ?_
          refine VO.c (.assign rfl) ?_
          refine VO.c (.assign rfl) ?_
          refine VO.nil ?_
          show VC _ _ _ _ _ _ _ _
          refine VC.text ?_
          refine VO.c (.add rfl rfl (by decide)) ?_
          refine VO.c (.move rfl) ?_
          refine VO.nil ?_
          show VC _ _ _ _ _ _ _ _
          refine VC.unroll ?_
          refine VC.seq ?_
          refine VC.text ?_
          refine VO.c (.lss) ?_
          refine VO.go ?_
          refine VC.seq ?_
          refine VC.condF rfl ?_
          refine VC.exit ?_
          show VC _ _ _ _ _ _ _ _
          refine VC.text ?_
          refine VO.c (.add rfl rfl (by decide)) ?_
          refine VO.c (.move rfl) ?_
          refine VO.nil ?_
          show VC _ _ _ _ _ _ _ _
          refine VC.unroll ?_
          refine VC.seq ?_
          refine VC.text ?_
          refine VO.c (.lss) ?_
          refine VO.go ?_
          refine VC.seq ?_
          refine VC.condT rfl ?_
          refine VC.skip ?_
          show VC _ _ _ _ _ _ _ _
          refine VC.seq ?_
          refine VC.block ?_
          refine VC.seq ?_
          refine VC.text ?_
          refine VO.c (.ixL (j := 1) (a := (((min ((p1 / 4).toNat + 1) (F.length - 1)) : Nat) : Int)) rfl rfl el22 (by simp) rfl) ?_
          refine VO.r (.ld vt3) ?_
          refine VO.c (.assign rfl) ?_
          refine VO.go ?_
          refine VC.seq ?_
          refine VC.text ?_
          refine VO.c (.move rfl) ?_
          refine VO.c (.move rfl) ?_
          refine VO.c (.add rfl rfl (by omega)) ?_
          refine VO.c (.move rfl) ?_
          refine VO.c (.ix (j := 0) rfl rfl el101 (by omega)) ?_
          refine VO.r (.ld vt124) ?_
          refine VO.r (.len el124) ?_
          refine VO.c (.sub rfl rfl (by omega)) ?_
          refine VO.r (.min) ?_
          rw [hn2]
          refine VO.new (.lit [(((p2 / 4).toNat : Nat) : Int), (((min ((p2 / 4).toNat + 1) (wid F - 1)) : Nat) : Int)] el22) ?_
          refine VO.r (.len el22) ?_
          refine VO.c (.move rfl) ?_
          refine VO.go ?_
          refine VC.block ?_
          refine VC.unroll ?_
          refine VC.seq ?_
          refine VC.text ?_
          refine VO.c (.lss) ?_
          refine VO.go ?_
          refine VC.seq ?_
          refine VC.condT rfl ?_
          refine VC.skip ?_
          show VC _ _ _ _ _ _ _ _
          refine VC.seq ?_
          refine VC.block ?_
          refine VC.seq ?_
          refine VC.text ?_
          refine VO.c (.ixL (j := 0) (a := (((p2 / 4).toNat : Nat) : Int)) rfl rfl el22 (by simp) rfl) ?_
          refine VO.r (.ld vt3) ?_
          refine VO.c (.assign rfl) ?_
          refine VO.go ?_
          refine VC.seq ?_
          refine VC.keep [(0, .v y101 F), (13, .raw ww3), (14, I (atR F (p1, p2))), (19, I (((p2 / 4).toNat : Nat) : Int)), (20, I (min (min (1073741824 : Int) (atR F (((4 : Int) * (((p1 / 4).toNat : Nat) : Int)), ((4 : Int) * (((p2 / 4).toNat : Nat) : Int))))) (atR F (((4 : Int) * (((p1 / 4).toNat : Nat) : Int)), ((4 : Int) * (((min ((p2 / 4).toNat + 1) (wid F - 1)) : Nat) : Int)))))), (21, I (max (max (-1073741824 : Int) (atR F (((4 : Int) * (((p1 / 4).toNat : Nat) : Int)), ((4 : Int) * (((p2 / 4).toNat : Nat) : Int))))) (atR F (((4 : Int) * (((p1 / 4).toNat : Nat) : Int)), ((4 : Int) * (((min ((p2 / 4).toNat + 1) (wid F - 1)) : Nat) : Int)))))), (23, I (((min ((p1 / 4).toNat + 1) (F.length - 1)) : Nat) : Int)), (25, I (((p2 / 4).toNat : Nat) : Int)), (137, .v y22 [(((p1 / 4).toNat : Nat) : Int), (((min ((p1 / 4).toNat + 1) (F.length - 1)) : Nat) : Int)]), (138, I (2 : Int)), (139, I (1 : Int)), (152, .v y22 [(((p2 / 4).toNat : Nat) : Int), (((min ((p2 / 4).toNat + 1) (wid F - 1)) : Nat) : Int)]), (153, I (2 : Int)), (154, I (0 : Int))] ⟨rfl, rfl, rfl, rfl, rfl, rfl, rfl, rfl, rfl, rfl, rfl, rfl, rfl, rfl, trivial⟩ ?_
          refine VC.text ?_
          refine VO.c (.move rfl) ?_
          refine VO.call rfl rfl (VF.call (lRows_ok (by omega) hsr)) ?_
          refine VO.c (.move rfl) ?_
          refine VO.c (.mul rfl rfl (by omega)) ?_
          refine VO.c (.move rfl) ?_
          refine VO.c (.mul rfl rfl (by omega)) ?_
          refine VO.c (.build (((4 : Int) * (((min ((p1 / 4).toNat + 1) (F.length - 1)) : Nat) : Int)), ((4 : Int) * (((p2 / 4).toNat : Nat) : Int))) bt121) ?_
          refine VO.call rfl rfl (VF.call (sAtP_ok (by first | assumption | omega) (by first | assumption | omega))) ?_
          refine VO.c (.move rfl) ?_
          refine VO.c (.extract) ?_
          refine VO.c (.extract) ?_
          refine VO.c (.assign rfl) ?_
          refine VO.c (.assign rfl) ?_
          refine VO.go ?_
          refine VC.seq ?_
          refine VC.seq ?_
          refine VC.text ?_
          refine VO.c (.move rfl) ?_
          refine VO.c (.neq) ?_
          refine VO.c (.move rfl) ?_
          refine VO.splitD (x := 171) rfl (fun g31_2 => ?_) (fun g31_2 => ?_)
          · first | exact absurd K11.1 g31_2 | exact absurd K12.1 g31_2 | exact absurd K21.1 g31_2 | exact absurd K22.1 g31_2
          · refine VO.c (.move rfl) ?_
            refine VO.c (.move rfl) ?_
            refine VO.c (.move rfl) ?_
            refine VO.c (.ix (j := (min ((p1 / 4).toNat + 1) (F.length - 1))) rfl rfl el101 (by omega)) ?_
            refine VO.r (.ld vt124) ?_
            refine VO.c (.move rfl) ?_
            refine VO.c (.ix (j := ((p2 / 4).toNat)) rfl rfl el124 (by omega)) ?_
            refine VO.r (.ld vt127) ?_
            refine VO.call rfl rfl (VF.call (rSix_ok (lv_get hF (by omega) (by omega)))) ?_
            refine VO.c (.mul rfl rfl (by omega)) ?_
            refine VO.c (.neq) ?_
            refine VO.c (.pickF rfl rfl) ?_
            refine VO.go ?_
            refine VC.condD rfl (fun c31 => ?_) (fun c31 => ?_)
            · first | exact absurd (by rw [K11.2, G11]) c31 | exact absurd (by rw [K12.2, G12]) c31 | exact absurd (by rw [K21.2, G21]) c31 | exact absurd (by rw [K22.2, G22]) c31
            · refine VC.skip ?_
              show VC _ _ _ _ _ _ _ _
              refine VC.text ?_
              refine VO.c (.move rfl) ?_
              refine VO.c (.move rfl) ?_
              refine VO.r (.min) ?_
              refine VO.c (.move rfl) ?_
              refine VO.c (.move rfl) ?_
              refine VO.r (.max) ?_
              refine VO.c (.assign rfl) ?_
              refine VO.c (.assign rfl) ?_
              refine VO.nil ?_
              show VC _ _ _ _ _ _ _ _
              refine VC.keep [(0, .v y101 F), (13, .raw ww3), (14, I (atR F (p1, p2))), (19, I (((p2 / 4).toNat : Nat) : Int)), (20, I (min (min (min (1073741824 : Int) (atR F (((4 : Int) * (((p1 / 4).toNat : Nat) : Int)), ((4 : Int) * (((p2 / 4).toNat : Nat) : Int))))) (atR F (((4 : Int) * (((p1 / 4).toNat : Nat) : Int)), ((4 : Int) * (((min ((p2 / 4).toNat + 1) (wid F - 1)) : Nat) : Int))))) (atR F (((4 : Int) * (((min ((p1 / 4).toNat + 1) (F.length - 1)) : Nat) : Int)), ((4 : Int) * (((p2 / 4).toNat : Nat) : Int)))))), (21, I (max (max (max (-1073741824 : Int) (atR F (((4 : Int) * (((p1 / 4).toNat : Nat) : Int)), ((4 : Int) * (((p2 / 4).toNat : Nat) : Int))))) (atR F (((4 : Int) * (((p1 / 4).toNat : Nat) : Int)), ((4 : Int) * (((min ((p2 / 4).toNat + 1) (wid F - 1)) : Nat) : Int))))) (atR F (((4 : Int) * (((min ((p1 / 4).toNat + 1) (F.length - 1)) : Nat) : Int)), ((4 : Int) * (((p2 / 4).toNat : Nat) : Int)))))), (23, I (((min ((p1 / 4).toNat + 1) (F.length - 1)) : Nat) : Int)), (137, .v y22 [(((p1 / 4).toNat : Nat) : Int), (((min ((p1 / 4).toNat + 1) (F.length - 1)) : Nat) : Int)]), (138, I (2 : Int)), (139, I (1 : Int)), (152, .v y22 [(((p2 / 4).toNat : Nat) : Int), (((min ((p2 / 4).toNat + 1) (wid F - 1)) : Nat) : Int)]), (153, I (2 : Int)), (154, I (0 : Int))] ⟨rfl, rfl, rfl, rfl, rfl, rfl, rfl, rfl, rfl, rfl, rfl, rfl, rfl, trivial⟩ ?_
              refine VC.text ?_
              refine VO.c (.add rfl rfl (by decide)) ?_
              refine VO.c (.move rfl) ?_
              refine VO.nil ?_
              show VC _ _ _ _ _ _ _ _
              refine VC.unroll ?_
              refine VC.seq ?_
              refine VC.text ?_
              refine VO.c (.lss) ?_
              refine VO.go ?_
              refine VC.seq ?_
              refine VC.condT rfl ?_
              refine VC.skip ?_
              show VC _ _ _ _ _ _ _ _
              refine VC.seq ?_
              refine VC.block ?_
              refine VC.seq ?_
              refine VC.text ?_
              refine VO.c (.ixL (j := 1) (a := (((min ((p2 / 4).toNat + 1) (wid F - 1)) : Nat) : Int)) rfl rfl el22 (by simp) rfl) ?_
              refine VO.r (.ld vt3) ?_
              refine VO.c (.assign rfl) ?_
              refine VO.go ?_
              refine VC.seq ?_
              refine VC.text ?_
              refine VO.c (.move rfl) ?_
              refine VO.call rfl rfl (VF.call (lRows_ok (by omega) hsr)) ?_
              refine VO.c (.move rfl) ?_
              refine VO.c (.mul rfl rfl (by omega)) ?_
              refine VO.c (.move rfl) ?_
              refine VO.c (.mul rfl rfl (by omega)) ?_
              refine VO.c (.build (((4 : Int) * (((min ((p1 / 4).toNat + 1) (F.length - 1)) : Nat) : Int)), ((4 : Int) * (((min ((p2 / 4).toNat + 1) (wid F - 1)) : Nat) : Int))) bt121) ?_
              refine VO.call rfl rfl (VF.call (sAtP_ok (by first | assumption | omega) (by first | assumption | omega))) ?_
              refine VO.c (.move rfl) ?_
              refine VO.c (.extract) ?_
              refine VO.c (.extract) ?_
              refine VO.c (.assign rfl) ?_
              refine VO.c (.assign rfl) ?_
              refine VO.go ?_
              refine VC.seq ?_
              refine VC.seq ?_
              refine VC.text ?_
              refine VO.c (.move rfl) ?_
              refine VO.c (.neq) ?_
              refine VO.c (.move rfl) ?_
              refine VO.splitD (x := 171) rfl (fun g31_2 => ?_) (fun g31_2 => ?_)
              · first | exact absurd K11.1 g31_2 | exact absurd K12.1 g31_2 | exact absurd K21.1 g31_2 | exact absurd K22.1 g31_2
              · refine VO.c (.move rfl) ?_
                refine VO.c (.move rfl) ?_
                refine VO.c (.move rfl) ?_
                refine VO.c (.ix (j := (min ((p1 / 4).toNat + 1) (F.length - 1))) rfl rfl el101 (by omega)) ?_
                refine VO.r (.ld vt124) ?_
                refine VO.c (.move rfl) ?_
                refine VO.c (.ix (j := (min ((p2 / 4).toNat + 1) (wid F - 1))) rfl rfl el124 (by omega)) ?_
                refine VO.r (.ld vt127) ?_
                refine VO.call rfl rfl (VF.call (rSix_ok (lv_get hF (by omega) (by omega)))) ?_
                refine VO.c (.mul rfl rfl (by omega)) ?_
                refine VO.c (.neq) ?_
                refine VO.c (.pickF rfl rfl) ?_
                refine VO.go ?_
                refine VC.condD rfl (fun c31 => ?_) (fun c31 => ?_)
                · first | exact absurd (by rw [K11.2, G11]) c31 | exact absurd (by rw [K12.2, G12]) c31 | exact absurd (by rw [K21.2, G21]) c31 | exact absurd (by rw [K22.2, G22]) c31
                · refine VC.skip ?_
                  show VC _ _ _ _ _ _ _ _
                  refine VC.keep [(0, .v y101 F), (13, .raw ww3), (14, I (atR F (p1, p2))), (19, I (((p2 / 4).toNat : Nat) : Int)), (20, I (min (min (min (1073741824 : Int) (atR F (((4 : Int) * (((p1 / 4).toNat : Nat) : Int)), ((4 : Int) * (((p2 / 4).toNat : Nat) : Int))))) (atR F (((4 : Int) * (((p1 / 4).toNat : Nat) : Int)), ((4 : Int) * (((min ((p2 / 4).toNat + 1) (wid F - 1)) : Nat) : Int))))) (atR F (((4 : Int) * (((min ((p1 / 4).toNat + 1) (F.length - 1)) : Nat) : Int)), ((4 : Int) * (((p2 / 4).toNat : Nat) : Int)))))), (21, I (max (max (max (-1073741824 : Int) (atR F (((4 : Int) * (((p1 / 4).toNat : Nat) : Int)), ((4 : Int) * (((p2 / 4).toNat : Nat) : Int))))) (atR F (((4 : Int) * (((p1 / 4).toNat : Nat) : Int)), ((4 : Int) * (((min ((p2 / 4).toNat + 1) (wid F - 1)) : Nat) : Int))))) (atR F (((4 : Int) * (((min ((p1 / 4).toNat + 1) (F.length - 1)) : Nat) : Int)), ((4 : Int) * (((p2 / 4).toNat : Nat) : Int)))))), (23, I (((min ((p1 / 4).toNat + 1) (F.length - 1)) : Nat) : Int)), (26, I (atR F (((4 : Int) * (((min ((p1 / 4).toNat + 1) (F.length - 1)) : Nat) : Int)), ((4 : Int) * (((min ((p2 / 4).toNat + 1) (wid F - 1)) : Nat) : Int))))), (137, .v y22 [(((p1 / 4).toNat : Nat) : Int), (((min ((p1 / 4).toNat + 1) (F.length - 1)) : Nat) : Int)]), (138, I (2 : Int)), (139, I (1 : Int)), (152, .v y22 [(((p2 / 4).toNat : Nat) : Int), (((min ((p2 / 4).toNat + 1) (wid F - 1)) : Nat) : Int)]), (153, I (2 : Int)), (154, I (1 : Int))] ⟨rfl, rfl, rfl, rfl, rfl, rfl, rfl, rfl, rfl, rfl, rfl, rfl, rfl, rfl, trivial⟩ ?_
                  refine VC.text ?_
                  refine VO.c (.move rfl) ?_
                  refine VO.c (.move rfl) ?_
                  refine VO.r (.min) ?_
                  refine VO.c (.move rfl) ?_
                  refine VO.c (.move rfl) ?_
                  refine VO.r (.max) ?_
                  refine VO.c (.assign rfl) ?_
                  refine VO.c (.assign rfl) ?_
                  refine VO.nil ?_
                  show VC _ _ _ _ _ _ _ _
                  refine VC.text ?_
                  refine VO.c (.add rfl rfl (by decide)) ?_
                  refine VO.c (.move rfl) ?_
                  refine VO.nil ?_
                  show VC _ _ _ _ _ _ _ _
                  refine VC.unroll ?_
                  refine VC.seq ?_
                  refine VC.text ?_
                  refine VO.c (.lss) ?_
                  refine VO.go ?_
                  refine VC.seq ?_
                  refine VC.condF rfl ?_
                  refine VC.exit ?_
                  show VC _ _ _ _ _ _ _ _
                  refine VC.text ?_
                  refine VO.c (.add rfl rfl (by decide)) ?_
                  refine VO.c (.move rfl) ?_
                  refine VO.nil ?_
                  show VC _ _ _ _ _ _ _ _
                  refine VC.unroll ?_
                  refine VC.seq ?_
                  refine VC.text ?_
                  refine VO.c (.lss) ?_
                  refine VO.go ?_
                  refine VC.seq ?_
                  refine VC.condF rfl ?_
                  refine VC.exit ?_
                  show VC _ _ _ _ _ _ _ _
                  refine VC.seq ?_
                  refine VC.seq ?_
                  refine VC.text ?_
                  have Bw := at_between (lo := min (min (16 * sxF F (p1 / 4).toNat (p2 / 4).toNat) (16 * sxF F (p1 / 4).toNat (min ((p2 / 4).toNat + 1) (wid F - 1)))) (min (16 * sxF F (min ((p1 / 4).toNat + 1) (F.length - 1)) (p2 / 4).toNat) (16 * sxF F (min ((p1 / 4).toNat + 1) (F.length - 1)) (min ((p2 / 4).toNat + 1) (wid F - 1))))) (hi := max (max (16 * sxF F (p1 / 4).toNat (p2 / 4).toNat) (16 * sxF F (p1 / 4).toNat (min ((p2 / 4).toNat + 1) (wid F - 1)))) (max (16 * sxF F (min ((p1 / 4).toNat + 1) (F.length - 1)) (p2 / 4).toNat) (16 * sxF F (min ((p1 / 4).toNat + 1) (F.length - 1)) (min ((p2 / 4).toNat + 1) (wid F - 1))))) hp (by simp only; omega) (by simp only; omega) (by simp only; omega) (by simp only; omega)
                  rw [← A0.2] at Bw
                  refine VO.c (.move rfl) ?_
                  refine VO.c (.move rfl) ?_
                  refine VO.c (.lss) ?_
                  refine VO.c (.move rfl) ?_
                  refine VO.splitD (x := 195) rfl (fun g36_3 => ?_) (fun g36_3 => ?_)
                  · exfalso
                    rw [K11.2, K12.2, K21.2, K22.2] at g36_3
                    omega
                  · refine VO.c (.move rfl) ?_
                    refine VO.c (.move rfl) ?_
                    refine VO.c (.gtr) ?_
                    refine VO.c (.pickF rfl rfl) ?_
                    refine VO.go ?_
                    refine VC.condD rfl (fun c36 => ?_) (fun c36 => ?_)
                    · exfalso
                      rw [K11.2, K12.2, K21.2, K22.2] at c36
                      omega
                    · refine VC.skip ?_
                      show VC _ _ _ _ _ _ _ _
                      refine VC.keep [(0, .v y101 F), (13, .raw ww3), (14, I (atR F (p1, p2)))] ⟨rfl, rfl, rfl, trivial⟩ ?_
                      exact law11_ok_c38 (F := F) (y := y) (x := x) hp hF
theorem law11_ok_c18 {F : List (List Nat)} {y : Int} {x : Int} {p1 p2 : Int} {ww3 : Value} {raised : Value} (hp : InF F (p1, p2)) (hS : SmF F) : VC Tryz.prog OA none (seqN 5 (codeOf Tryz.f11)) Tryz.f11.ntmps [(0, .v y101 F), (7, .raw raised), (13, .raw ww3)] [(ww3, .var [I p1, I p2]), (raised, .row 124 y124 (upF F))] (VEnd Tryz.prog Tryz.f11 (B true)) := by
  refine VC.seq ?_
  refine VC.drawn ?_
  have hF := hS.ok
  have hpos := hF.pos
  have htop := hF.top
  have hwp := hF.wpos
  have hwt := hF.wtop
  have e0 := wid_eq hpos
  have hsr := short_rows hF
  have A0 := atB_zero hF hp
  have A1 := at_up hS hp
  have A2 := at_bound hF hp
  refine VD.c (.move rfl) ?_
  refine VD.call rfl rfl (VF.call (lRows_ok (by omega) hsr)) ?_
  refine VD.r [(ww3, .var [I p1, I p2]), (raised, .row 124 y124 (upF F))] (.ldA (dx := (p1, p2)) m0 vt121) (.inr ⟨rfl, rfl⟩) ?_
  refine VD.callO rfl rfl (VF.call (sAtP_ok (by omega) hsr)) ?_
  refine VD.c (.move rfl) ?_
  refine VD.c (.extract) ?_
  refine VD.nw [101] ?_
  refine VD.c (.extract) ?_
  refine VD.c (.assign rfl) ?_
  refine VD.c (.assign rfl) ?_
  refine VD.go ?_
  refine VC.seq ?_
  refine VC.text ?_
  refine VO.c (.move rfl) ?_
  refine VO.r (.ldA (dx := (p1, p2)) m0 vt121) ?_
  refine VO.callC rfl rfl .same (.cons (.row m1) (.cons .same .nil)) rfl (VF.call (sAtP_ok (by rw [upF_len]; omega) (short_rows (upF_ok hS)))) ?_
  refine VO.c (.move rfl) ?_
  refine VO.c (.extract) ?_
  refine VO.c (.extract) ?_
  refine VO.c (.assign rfl) ?_
  refine VO.c (.assign rfl) ?_
  refine VO.go ?_
  refine VC.seq ?_
  refine VC.seq ?_
  refine VC.text ?_
  refine VO.c (.move rfl) ?_
  refine VO.c (.neq) ?_
  refine VO.c (.move rfl) ?_
  refine VO.splitD (x := 114) rfl (fun g20_2 => ?_) (fun g20_2 => ?_)
  · exact absurd A0.1 g20_2
  · refine VO.c (.move rfl) ?_
    refine VO.c (.neq) ?_
    refine VO.c (.pickF rfl rfl) ?_
    refine VO.c (.move rfl) ?_
    refine VO.splitD (x := 118) rfl (fun g20_6 => ?_) (fun g20_6 => ?_)
    · exact absurd A1.1 g20_6
    · refine VO.c (.move rfl) ?_
      refine VO.c (.move rfl) ?_
      refine VO.c (.add rfl rfl (by omega)) ?_
      refine VO.c (.neq) ?_
      refine VO.c (.pickF rfl rfl) ?_
      refine VO.go ?_
      refine VC.condD rfl (fun c20 => ?_) (fun c20 => ?_)
      · exact absurd (by rw [A1.2, A0.2]) c20
      · refine VC.skip ?_
        show VC _ _ _ _ _ _ _ _
        refine VC.keep [(0, .v y101 F), (13, .raw ww3), (14, I (atR F (p1, p2)))] ⟨rfl, rfl, rfl, trivial⟩ ?_
        exact law11_ok_c22 (F := F) (y := y) (x := x) hp hF
theorem law11_ok {F : List (List Nat)} {y : Int} {x : Int} (hy : 0 ≤ y ∧ y ≤ 255) (hx : 0 ≤ x ∧ x ≤ 255) : VF Tryz.prog OA 11 [.v y101 F, .v (.int .u8) y, .v (.int .u8) x] (B true) := by
  refine VF.enter Tryz.func11 rfl (fun _ _ => rfl) rfl ?_
  show VC _ _ _ _ _ [(0, .v y101 F), (1, .v (.int .u8) y), (2, .v (.int .u8) x)] [] _
  refine VC.seq ?_
  refine VC.text ?_
  refine VO.c (.assign rfl) ?_
  refine VO.go ?_
  refine VC.seq ?_
  refine VC.seq ?_
  refine VC.text ?_
  refine VO.c (.move rfl) ?_
  refine VO.call rfl rfl (VF.call (rRows_ok )) ?_
  refine VO.c (.neq) ?_
  refine VO.c (.move rfl) ?_
  refine VO.splitD (x := 39) rfl (fun g1_3 => ?_) (fun g1_3 => ?_)
  · refine VO.skip ?_
    refine VO.skip ?_
    refine VO.skip ?_
    refine VO.c (.pickT rfl rfl) ?_
    refine VO.c (.move rfl) ?_
    refine VO.skip ?_
    refine VO.skip ?_
    refine VO.skip ?_
    refine VO.skip ?_
    refine VO.skip ?_
    refine VO.c (.pickT rfl rfl) ?_
    refine VO.go ?_
    refine VC.condT rfl ?_
    refine VC.seq ?_
    refine VC.text ?_
    refine VO.call rfl rfl (VF.call (awake_ok )) ?_
    refine VO.c (.assign rfl) ?_
    refine VO.go ?_
    refine VC.ret ?_
    exact VEnd.one rfl evT (pvE (by first | rfl | simp))
  · have h0 : fieldE F = 0 := Decidable.not_not.1 g1_3
    have hF := fieldE_ok h0
    have hpos := hF.pos
    have htop := hF.top
    have hwp := hF.wpos
    have hwt := hF.wtop
    have e0 := wid_eq hpos
    have hsr := short_rows hF
    refine VO.c (.move rfl) ?_
    refine VO.r (.len el101) ?_
    refine VO.c (.gtr) ?_
    refine VO.c (.pickF rfl rfl) ?_
    refine VO.c (.move rfl) ?_
    refine VO.splitD (x := 44) rfl (fun g1_8 => ?_) (fun g1_8 => ?_)
    · refine VO.skip ?_
      refine VO.skip ?_
      refine VO.skip ?_
      refine VO.skip ?_
      refine VO.skip ?_
      refine VO.c (.pickT rfl rfl) ?_
      refine VO.go ?_
      refine VC.condT rfl ?_
      refine VC.seq ?_
      refine VC.text ?_
      refine VO.call rfl rfl (VF.call (awake_ok )) ?_
      refine VO.c (.assign rfl) ?_
      refine VO.go ?_
      refine VC.ret ?_
      exact VEnd.one rfl evT (pvE (by first | rfl | simp))
    · refine VO.c (.move rfl) ?_
      refine VO.c (.ix (j := 0) rfl rfl el101 (by omega)) ?_
      refine VO.r (.ld vt124) ?_
      refine VO.r (.len el124) ?_
      refine VO.c (.gtr) ?_
      refine VO.c (.pickF rfl rfl) ?_
      refine VO.go ?_
      refine VC.condD rfl (fun c1 => ?_) (fun c1 => ?_)
      · refine VC.seq ?_
        refine VC.text ?_
        refine VO.call rfl rfl (VF.call (awake_ok )) ?_
        refine VO.c (.assign rfl) ?_
        refine VO.go ?_
        refine VC.ret ?_
        exact VEnd.one rfl evT (pvE (by first | rfl | simp))
      · refine VC.skip ?_
        show VC _ _ _ _ _ _ _ _
        refine VC.seq ?_
        refine VC.text ?_
        refine VO.c (.assign rfl) ?_
        refine VO.go ?_
        refine VC.seq ?_
        refine VC.seq ?_
        refine VC.text ?_
        refine VO.c (.move rfl) ?_
        refine VO.r (.len el101) ?_
        refine VO.c (.move rfl) ?_
        refine VO.go ?_
        refine VC.block ?_
        refine VC.cell0 124 y124 ?_
        refine VC.keep [(0, .v y101 F), (1, .v (.int .u8) y), (2, .v (.int .u8) x), (7, .raw (.slice none 0 0)), (52, .v y101 F), (53, I ((F.length : Nat) : Int)), (54, I ((0 : Nat) : Int))] ⟨rfl, rfl, rfl, rfl, rfl, rfl, rfl, trivial⟩ ?_
        refine VC.loop (I := fun kk ff ss => ∃ (j : Nat) (raised : Value), kk = F.length - j ∧ ff = [(0, .v y101 F), (1, .v (.int .u8) y), (2, .v (.int .u8) x), (7, .raw raised), (52, .v y101 F), (53, I ((F.length : Nat) : Int)), (54, I ((j : Nat) : Int))] ∧ ss = [(raised, .row 124 y124 (upF (F.take j)))] ∧ (j ≤ F.length) ∧ (∀ r ∈ F.take j, ∀ v ∈ r, -960 ≤ sxE v ∧ sxE v ≤ 960)) ?_ _ _ _ ⟨0, (.slice none 0 0), rfl, rfl, rfl, Nat.zero_le _, (by simp)⟩
        rintro kk ff ss ⟨j, raised, hk0, rfl, rfl, hj, hs⟩
        refine VC.seq ?_
        refine VC.text ?_
        refine VO.c (.lss) ?_
        refine VO.go ?_
        refine VC.seq ?_
        refine VC.condD rfl (fun c5 => ?_) (fun c5 => ?_)
        · refine VC.skip ?_
          show VC _ _ _ _ _ _ _ _
          refine VC.seq ?_
          refine VC.block ?_
          refine VC.seq ?_
          refine VC.text ?_
          have hjj : j < F.length := by omega
          have hw := hF.row _ (List.getElem_mem hjj)
          refine VO.c (.ix (j := j) rfl rfl el101 (by omega)) ?_
          refine VO.r (.ld vt124) ?_
          refine VO.c (.assign rfl) ?_
          refine VO.go ?_
          refine VC.seq ?_
          refine VC.text ?_
          refine VO.c (.assign rfl) ?_
          refine VO.go ?_
          refine VC.seq ?_
          refine VC.seq ?_
          refine VC.text ?_
          refine VO.c (.move rfl) ?_
          refine VO.r (.len el124) ?_
          refine VO.c (.move rfl) ?_
          refine VO.go ?_
          refine VC.block ?_
          refine VC.cell0 127 (.flt .f32) ?_
          refine VC.keep [(0, .v y101 F), (1, .v (.int .u8) y), (2, .v (.int .u8) x), (7, .raw raised), (10, .raw (.slice none 0 0)), (52, .v y101 F), (53, I ((F.length : Nat) : Int)), (54, I ((j : Nat) : Int)), (58, .v y124 (F[j])), (59, I (((F[j]).length : Nat) : Int)), (60, I ((0 : Nat) : Int))] ⟨rfl, rfl, rfl, rfl, rfl, rfl, rfl, rfl, rfl, rfl, rfl, trivial⟩ ?_
          refine VC.loop (I := fun kk ff ss => ∃ (k : Nat) (up : Value), kk = F[j].length - k ∧ ff = [(0, .v y101 F), (1, .v (.int .u8) y), (2, .v (.int .u8) x), (7, .raw raised), (10, .raw up), (52, .v y101 F), (53, I ((F.length : Nat) : Int)), (54, I ((j : Nat) : Int)), (58, .v y124 (F[j])), (59, I (((F[j]).length : Nat) : Int)), (60, I ((k : Nat) : Int))] ∧ ss = [(up, .row 127 (.flt .f32) ((F[j].take k).map upW)), (raised, .row 124 y124 (upF (F.take j)))] ∧ (k ≤ F[j].length) ∧ (∀ v ∈ F[j].take k, -960 ≤ sxE v ∧ sxE v ≤ 960)) ?_ _ _ _ ⟨0, (.slice none 0 0), rfl, rfl, rfl, (by omega), (by simp)⟩
          rintro kk ff ss ⟨k, up, hk2, rfl, rfl, hk, hz⟩
          refine VC.seq ?_
          refine VC.text ?_
          refine VO.c (.lss) ?_
          refine VO.go ?_
          refine VC.seq ?_
          refine VC.condD rfl (fun c9 => ?_) (fun c9 => ?_)
          · refine VC.skip ?_
            show VC _ _ _ _ _ _ _ _
            refine VC.seq ?_
            refine VC.block ?_
            refine VC.seq ?_
            refine VC.text ?_
            have hlv := lv_get hF hjj (show k < F[j].length by omega)
            refine VO.c (.ix (j := k) rfl rfl el124 (by omega)) ?_
            refine VO.r (.ld vt127) ?_
            refine VO.c (.assign rfl) ?_
            refine VO.go ?_
            refine VC.seq ?_
            refine VC.seq ?_
            refine VC.text ?_
            refine VO.c (.move rfl) ?_
            refine VO.c (.fcmpD (b := .gtr) (r := decide (960 < sxE (F[j][k]))) (gt60 hlv)) ?_
            refine VO.c (.move rfl) ?_
            refine VO.splitD (x := 66) rfl (fun g11_2 => ?_) (fun g11_2 => ?_)
            · refine VO.skip ?_
              refine VO.skip ?_
              refine VO.c (.pickT rfl rfl) ?_
              refine VO.go ?_
              refine VC.condT rfl ?_
              refine VC.seq ?_
              refine VC.text ?_
              refine VO.call rfl rfl (VF.call (awake_ok )) ?_
              refine VO.c (.assign rfl) ?_
              refine VO.go ?_
              refine VC.ret ?_
              exact VEnd.one rfl evT (pvE (by first | rfl | simp))
            · refine VO.c (.move rfl) ?_
              refine VO.c (.fcmpD (b := .lss) (r := decide (sxE (F[j][k]) < -960)) (lt60 hlv)) ?_
              refine VO.c (.pickF rfl rfl) ?_
              refine VO.go ?_
              refine VC.condD rfl (fun c11 => ?_) (fun c11 => ?_)
              · refine VC.seq ?_
                refine VC.text ?_
                refine VO.call rfl rfl (VF.call (awake_ok )) ?_
                refine VO.c (.assign rfl) ?_
                refine VO.go ?_
                refine VC.ret ?_
                exact VEnd.one rfl evT (pvE (by first | rfl | simp))
              · refine VC.skip ?_
                show VC _ _ _ _ _ _ _ _
                refine VC.text ?_
                have hz1 : -960 ≤ sxE (F[j][k]) ∧ sxE (F[j][k]) ≤ 960 := by omega
                refine VO.c (.move rfl) ?_
                refine VO.c (.move rfl) ?_
                refine VO.c (.fop (add32E (up_add hlv hz1).1)) ?_
                refine VO.new (.lit [(upW (F[j][k]))] el124) ?_
                refine VO.app rfl rfl el124 el124 (by simp; omega) ?_
                intro ww1
                refine VO.c (.assign rfl) ?_
                refine VO.nil ?_
                show VC _ _ _ _ _ _ _ _
                refine VC.text ?_
                refine VO.c (.add rfl rfl (by omega)) ?_
                refine VO.c (.move rfl) ?_
                refine VO.nil ?_
                refine ⟨_, [(0, .v y101 F), (1, .v (.int .u8) y), (2, .v (.int .u8) x), (7, .raw raised), (10, .raw ww1), (52, .v y101 F), (53, I ((F.length : Nat) : Int)), (54, I ((j : Nat) : Int)), (58, .v y124 (F[j])), (59, I (((F[j]).length : Nat) : Int)), (60, I (((k + 1) : Nat) : Int))], ?_, ⟨rfl, rfl, rfl, rfl, rfl, rfl, rfl, rfl, rfl, rfl, rfl, trivial⟩, (k + 1), ww1, rfl, rfl, (by rw [List.take_succ_eq_append_getElem (by omega), List.map_append] <;> rfl), (by omega), (by exact all_take (by omega) hz hz1)⟩
                omega
          · refine VC.exit ?_
            show VC _ _ _ _ _ _ _ _
            refine VC.text ?_
            refine VO.c (.move rfl) ?_
            refine VO.c (.move rfl) ?_
            refine VO.shut [(10, .v y124 ((F[j].take k).map upW)), (78, .v y124 ((F[j].take k).map upW))] (.cons rfl (.row m0) (.cons rfl (.row m0) .nil)) ?_
            refine VO.new (.lit [((F[j].take k).map upW)] el101) ?_
            refine VO.app rfl rfl el101 el101 (by simp [upF]; omega) ?_
            intro ww2
            refine VO.c (.assign rfl) ?_
            refine VO.nil ?_
            show VC _ _ _ _ _ _ _ _
            refine VC.text ?_
            refine VO.c (.add rfl rfl (by omega)) ?_
            refine VO.c (.move rfl) ?_
            refine VO.nil ?_
            refine ⟨_, [(0, .v y101 F), (1, .v (.int .u8) y), (2, .v (.int .u8) x), (7, .raw ww2), (52, .v y101 F), (53, I ((F.length : Nat) : Int)), (54, I (((j + 1) : Nat) : Int))], ?_, ⟨rfl, rfl, rfl, rfl, rfl, rfl, rfl, trivial⟩, (j + 1), ww2, rfl, rfl, (by rw [List.take_of_length_le (l := F[j]) (by omega), List.take_succ_eq_append_getElem (by omega), upF, upF, List.map_append] <;> rfl), (by omega), (by exact all_take (by omega) hs (by rw [List.take_of_length_le (by omega)] at hz; exact hz))⟩
            omega
        · refine VC.exit ?_
          show VC _ _ _ _ _ _ _ _
          refine VC.seq ?_
          refine VC.drawn ?_
          have hS : SmF F := ⟨hF, by omega, by omega, by rw [List.take_of_length_le (by omega)] at hs; exact hs⟩
          have hd1 : 0 < 4 * (F.length : Int) - 3 := by omega
          have hd2 : 0 < 4 * ((F[0].length : Nat) : Int) - 3 := by omega
          have hm1 := Int.emod_lt_of_pos y hd1
          have hm2 := Int.emod_lt_of_pos x hd2
          have hm3 := Int.emod_nonneg y (show 4 * (F.length : Int) - 3 ≠ 0 by omega)
          have hm4 := Int.emod_nonneg x (show 4 * ((F[0].length : Nat) : Int) - 3 ≠ 0 by omega)
          have hm5 : y.tmod (4 * (F.length : Int) - 3) = y % (4 * (F.length : Int) - 3) := Int.tmod_eq_emod_of_nonneg hy.1
          have hm6 : x.tmod (4 * ((F[0].length : Nat) : Int) - 3) = x % (4 * ((F[0].length : Nat) : Int) - 3) := Int.tmod_eq_emod_of_nonneg hx.1
          refine VD.c (.move rfl) ?_
          refine VD.c (.convI rfl .i64 (by exact wrap64 (by omega) (by omega))) ?_
          refine VD.c (.move rfl) ?_
          refine VD.r [] (.len el101) (.inl rfl) ?_
          refine VD.c (.mul rfl rfl (by omega)) ?_
          refine VD.c (.sub rfl rfl (by omega)) ?_
          refine VD.nw [] ?_
          refine VD.c (.rem rfl rfl (by omega)) ?_
          refine VD.c (.move rfl) ?_
          refine VD.c (.convI rfl .i64 (by exact wrap64 (by omega) (by omega))) ?_
          refine VD.c (.move rfl) ?_
          refine VD.c (.ix (j := 0) rfl rfl el101 (by omega)) ?_
          refine VD.r [] (.ld vt124) (.inl rfl) ?_
          refine VD.r [] (.len el124) (.inl rfl) ?_
          refine VD.nw [] ?_
          refine VD.c (.mul rfl rfl (by omega)) ?_
          refine VD.c (.sub rfl rfl (by omega)) ?_
          refine VD.c (.rem rfl rfl (by omega)) ?_
          refine VD.c (.build ((y.tmod (((4 : Int) * ((F.length : Nat) : Int)) - (3 : Int))), (x.tmod (((4 : Int) * (((F[0]).length : Nat) : Int)) - (3 : Int)))) bt121) ?_
          refine VD.cell (.alloc zt121) ?_
          intro ww3
          refine VD.mk0 (MakeV.setF (k := 0) vt121 .v (by decide) (.inr ⟨rfl, rfl⟩) rfl rfl) ?_
          rintro _ _ tl4 ⟨rfl, rfl⟩
          refine VD.go ?_
          have hp : InF F (y.tmod (4 * (F.length : Int) - 3), x.tmod (4 * ((F[0].length : Nat) : Int) - 3)) := by rw [hm5, hm6]; exact ⟨⟨hm3, by omega⟩, ⟨hm4, by omega⟩⟩
          rw [List.take_of_length_le (l := F) (by omega)]
          generalize y.tmod (4 * (F.length : Int) - 3) = p1 at hp ⊢
          generalize x.tmod (4 * ((F[0].length : Nat) : Int) - 3) = p2 at hp ⊢
          refine VC.keep [(0, .v y101 F), (7, .raw raised), (13, .raw ww3)] ⟨rfl, rfl, rfl, trivial⟩ ?_
          exact law11_ok_c18 (F := F) (y := y) (x := x) hp hS
theorem wf8 {n : Int} (h : (Lit.int .u8 n).wf = true) : 0 ≤ n ∧ n ≤ 255 := by
  have h1 : (decide (IntKind.u8.min ≤ n) && decide (n ≤ IntKind.u8.max)) = true := h
  obtain ⟨h2, h3⟩ := band h1
  exact ⟨of_decide_eq_true h2, of_decide_eq_true h3⟩
end Go.Proofs
