/- Contracts of functions of the program, over the evaluator: what each answers. Conditions: those in each statement. -/
import Derived.Test.YtednnfllcafliaaGreatDoorP6
set_option linter.all false
namespace Go.Proofs
open Go.Fs Ieee
set_option linter.unusedVariables false
abbrev y101 : Ty := (.sl (.sl (.flt .f32)))
abbrev y117 : Ty := (.pair (.int .i64) (.int .i64))
abbrev y121 : Ty := (.pair (.int .i64) (.int .i64))
abbrev y124 : Ty := (.sl (.flt .f32))
abbrev y255 : Ty := (.pair (.int .i64) (.pair (.int .i64) (.pair (.int .i64) (.int .i64))))
theorem vt124 : ValT Tryz.prog 124 y124 := valT_of (by kernel_rfl)
theorem vt127 : ValT Tryz.prog 127 (.flt .f32) := valT_of (by kernel_rfl)
theorem vt255 : ValT Tryz.prog 255 y255 := valT_of (by kernel_rfl)
theorem el101 : ElT Tryz.prog 101 124 y124 := elT_of (by kernel_rfl)
theorem el124 : ElT Tryz.prog 124 127 (.flt .f32) := elT_of (by kernel_rfl)
theorem zt255 : ZerT Tryz.prog 255 y255 := zerT_of (z := .agg #[.int .i64 0, .int .i64 0, .int .i64 0, .int .i64 0]) (by kernel_rfl) rfl rfl
theorem bt255 : BldT Tryz.prog 255 y255 [(0, 1), (1, 1), (2, 1), (3, 1)] := bldT_of zt255 rfl (by kernel_rfl)
/-! ## Fields -/
def wid (F : List (List Nat)) : Nat := (F.headD []).length
theorem wid_eq {F : List (List Nat)} (h : 0 < F.length) : F[0].length = wid F := by
  cases F with
  | nil => simp at h
  | cons x l => rfl
def rowE (n : Nat) (r : List Nat) : Int := firstE [whenE (decide ((r.length : Int) = 0)) 12, whenE (decide ((8 : Int) < r.length)) 5, whenE (decide ((r.length : Int) ≠ n)) 2, firstE (r.map lvlE)]
def fieldE (F : List (List Nat)) : Int := if (F.length : Int) = 0 then 12 else if (8 : Int) < F.length then 5 else firstE (F.map (rowE (wid F)))
def placeE (p : Int × Int) (R C : Int) : Int := firstE [rangeE p.1 0 (4 * (R - 1)), rangeE p.2 0 (4 * (C - 1))]
theorem field_pre {n : Int} : firstE [whenE (decide (n = 0)) 12, whenE (decide ((8 : Int) < n)) 5] = if n = 0 then 12 else if 8 < n then 5 else 0 := by
  by_cases h1 : n = 0
  · rw [whenE_t h1, if_pos h1]; simp [firstE]
  · rw [whenE_f h1, if_neg h1]
    by_cases h2 : 8 < n
    · rw [whenE_t h2, if_pos h2]; simp [firstE]
    · rw [whenE_f h2, if_neg h2]; simp [firstE]
structure OkF (F : List (List Nat)) : Prop where
  pos : 0 < F.length
  top : F.length ≤ 8
  wpos : 0 < wid F
  wtop : wid F ≤ 8
  row : ∀ r ∈ F, r.length = wid F
  lv : ∀ r ∈ F, ∀ x ∈ r, lvlE x = 0
theorem fieldE_ok {F : List (List Nat)} (h : fieldE F = 0) : OkF F := by
  unfold fieldE at h
  split at h
  · cases h
  · rename_i h1
    split at h
    · cases h
    · rename_i h2
      rw [firstE_zero] at h
      have hr : ∀ r ∈ F, (r.length : Int) ≠ 0 ∧ ¬ (8 : Int) < r.length ∧ r.length = wid F ∧ ∀ x ∈ r, lvlE x = 0 := fun r hr => by
        have h3 := h _ (List.mem_map_of_mem hr)
        unfold rowE at h3
        rw [firstE_zero] at h3
        have a1 := h3 _ (List.mem_cons_self)
        have a2 := h3 _ (List.mem_cons_of_mem _ List.mem_cons_self)
        have a3 := h3 _ (List.mem_cons_of_mem _ (List.mem_cons_of_mem _ List.mem_cons_self))
        have a4 := h3 _ (List.mem_cons_of_mem _ (List.mem_cons_of_mem _ (List.mem_cons_of_mem _ List.mem_cons_self)))
        rw [firstE_zero] at a4
        refine ⟨fun e => ?_, fun e => ?_, ?_, fun x hx => a4 _ (List.mem_map_of_mem hx)⟩
        · rw [whenE_t e] at a1; cases a1
        · rw [whenE_t e] at a2; cases a2
        · by_cases e : (r.length : Int) ≠ wid F
          · rw [whenE_t e] at a3; cases a3
          · omega
      have hp : 0 < F.length := by omega
      have h0 := hr _ (List.getElem_mem hp)
      rw [wid_eq hp] at h0
      exact ⟨hp, by omega, by omega, by omega, fun r m => (hr r m).2.2.1, fun r m => (hr r m).2.2.2⟩
theorem placeE_ok {p : Int × Int} {R C : Int} (h : placeE p R C = 0) : (0 ≤ p.1 ∧ p.1 ≤ 4 * (R - 1)) ∧ (0 ≤ p.2 ∧ p.2 ≤ 4 * (C - 1)) := by
  unfold placeE at h
  rw [firstE_zero] at h
  exact ⟨rangeE_zero.1 (h _ (by simp)), rangeE_zero.1 (h _ (by simp))⟩
theorem sMapFE_ok {F : Nat → Int} {l : List Nat} {f : PV} (hl : l.length < 100000) (hf : ∀ x ∈ l, VCall Tryz.prog OA f [.v (.flt .f32) x] (I (F x))) : VF Tryz.prog OA 168 [.v y124 l, f] (.v y179 (l.map F)) := by
  refine VF.enter Tryz.func168 rfl (fun _ _ => rfl) rfl ?_
  show VC _ _ _ _ _ [(0, .v y124 l), (1, f)] [] _
  refine VC.seq ?_
  refine VC.text ?_
  refine VO.c (.assign rfl) ?_
  refine VO.go ?_
  refine VC.seq ?_
  refine VC.text ?_
  refine VO.c (.assign rfl) ?_
  refine VO.go ?_
  refine VC.seq ?_
  refine VC.seq ?_
  refine VC.text ?_
  refine VO.c (.move rfl) ?_
  refine VO.r (.len el124) ?_
  refine VO.c (.move rfl) ?_
  refine VO.go ?_
  refine VC.block ?_
  refine VC.cell0 26 (.int .i64) ?_
  refine VC.keep [(1, f), (5, .raw (.slice none 0 0)), (8, .v y124 l), (9, I ((l.length : Nat) : Int)), (10, I ((0 : Nat) : Int))] ⟨rfl, rfl, rfl, rfl, rfl, trivial⟩ ?_
  refine VC.loop (I := fun kk ff ss => ∃ (j : Nat) (out : Value), kk = l.length - j ∧ ff = [(1, f), (5, .raw out), (8, .v y124 l), (9, I ((l.length : Nat) : Int)), (10, I ((j : Nat) : Int))] ∧ ss = [(out, .row 26 (.int .i64) ((l.take j).map F))] ∧ (j ≤ l.length)) ?_ _ _ _ ⟨0, (.slice none 0 0), rfl, rfl, rfl, Nat.zero_le _⟩
  rintro kk ff ss ⟨j, out, hk0, rfl, rfl, hj⟩
  refine VC.seq ?_
  refine VC.text ?_
  refine VO.c (.lss) ?_
  refine VO.go ?_
  refine VC.seq ?_
  refine VC.condD rfl (fun c3 => ?_) (fun c3 => ?_)
  · refine VC.skip ?_
    show VC _ _ _ _ _ _ _ _
    refine VC.seq ?_
    refine VC.block ?_
    refine VC.seq ?_
    refine VC.text ?_
    refine VO.c (.ix (j := j) rfl rfl el124 (by omega)) ?_
    refine VO.r (.ld vt127) ?_
    refine VO.c (.assign rfl) ?_
    refine VO.go ?_
    refine VC.text ?_
    refine VO.c (.move rfl) ?_
    refine VO.c (.move rfl) ?_
    refine VO.c (.move rfl) ?_
    refine VO.call rfl rfl ((hf _ (List.getElem_mem _)) ) ?_
    refine VO.new (.lit [F (l[j])] el179) ?_
    refine VO.app rfl rfl el179 el179 (by simp; omega) ?_
    intro ww1
    refine VO.c (.assign rfl) ?_
    refine VO.nil ?_
    show VC _ _ _ _ _ _ _ _
    refine VC.text ?_
    refine VO.c (.add rfl rfl (by omega)) ?_
    refine VO.c (.move rfl) ?_
    refine VO.nil ?_
    refine ⟨_, [(1, f), (5, .raw ww1), (8, .v y124 l), (9, I ((l.length : Nat) : Int)), (10, I (((j + 1) : Nat) : Int))], ?_, ⟨rfl, rfl, rfl, rfl, rfl, trivial⟩, (j + 1), ww1, rfl, rfl, (by rw [List.take_succ_eq_append_getElem (by omega), List.map_append] <;> rfl), (by omega)⟩
    omega
  · refine VC.exit ?_
    show VC _ _ _ _ _ _ _ _
    refine VC.seq ?_
    refine VC.text ?_
    refine VO.c (.move rfl) ?_
    refine VO.c (.assign rfl) ?_
    refine VO.go ?_
    refine VC.ret ?_
    exact VEnd.one rfl (evC (.row m0)) (pvE (by rw [List.take_of_length_le (by omega)]))
theorem sField_ok {l : List (List Nat)} (hl : l.length < 100000) (hr : ∀ r ∈ l, r.length < 100000) : VF Tryz.prog OA 135 [.v y101 l] (I (fieldE l)) := by
  refine VF.enter Tryz.func135 rfl (fun _ _ => rfl) rfl ?_
  show VC _ _ _ _ _ [(0, .v y101 l)] [] _
  refine VC.seq ?_
  refine VC.text ?_
  refine VO.c (.assign rfl) ?_
  refine VO.go ?_
  refine VC.seq ?_
  refine VC.seq ?_
  refine VC.text ?_
  refine VO.c (.move rfl) ?_
  refine VO.r (.len el101) ?_
  refine VO.c (.eql) ?_
  refine VO.call rfl rfl (VF.call (sWhen_ok )) ?_
  refine VO.c (.move rfl) ?_
  refine VO.r (.len el101) ?_
  refine VO.c (.gtr) ?_
  refine VO.call rfl rfl (VF.call (sWhen_ok )) ?_
  refine VO.new (.lit [whenE (decide (((l.length : Nat) : Int) = (0 : Int))) (12 : Int), whenE (decide ((8 : Int) < ((l.length : Nat) : Int))) (5 : Int)] el179) ?_
  refine VO.call rfl rfl (VF.call (sFirst_ok (by simp))) ?_
  refine VO.c (.assign rfl) ?_
  refine VO.go ?_
  refine VC.seq ?_
  refine VC.text ?_
  refine VO.c (.move rfl) ?_
  refine VO.c (.neq) ?_
  refine VO.go ?_
  refine VC.condD rfl (fun c2 => ?_) (fun c2 => ?_)
  · refine VC.seq ?_
    refine VC.text ?_
    refine VO.c (.move rfl) ?_
    refine VO.c (.assign rfl) ?_
    refine VO.go ?_
    refine VC.ret ?_
    exact VEnd.one rfl evT (pvI (by rw [field_pre] at c2 ⊢; rw [fieldE]; split <;> simp_all))
  · rw [field_pre] at c2
    have d1 : ¬ (l.length : Int) = 0 := fun h => by simp [h] at c2
    have d2 : ¬ (8 : Int) < l.length := fun h => by simp [h] at c2; omega
    have e0 := wid_eq (F := l) (by omega)
    refine VC.skip ?_
    show VC _ _ _ _ _ _ _ _
    refine VC.seq ?_
    refine VC.seq ?_
    refine VC.text ?_
    refine VO.c (.move rfl) ?_
    refine VO.r (.len el101) ?_
    refine VO.c (.move rfl) ?_
    refine VO.go ?_
    refine VC.block ?_
    refine VC.keep [(0, .v y101 l), (20, .v y101 l), (21, I ((l.length : Nat) : Int)), (22, I ((0 : Nat) : Int))] ⟨rfl, rfl, rfl, rfl, trivial⟩ ?_
    refine VC.loop (I := fun kk ff ss => ∃ (j : Nat), kk = l.length - j ∧ ff = [(0, .v y101 l), (20, .v y101 l), (21, I ((l.length : Nat) : Int)), (22, I ((j : Nat) : Int))] ∧ ss = [] ∧ (j ≤ l.length) ∧ (firstE (l.map (rowE (wid l))) = firstE ((l.drop j).map (rowE (wid l))))) ?_ _ _ _ ⟨0, rfl, rfl, rfl, Nat.zero_le _, (by rfl)⟩
    rintro kk ff ss ⟨j, hk0, rfl, rfl, hj, hf⟩
    refine VC.seq ?_
    refine VC.text ?_
    refine VO.c (.lss) ?_
    refine VO.go ?_
    refine VC.seq ?_
    refine VC.condD rfl (fun c5 => ?_) (fun c5 => ?_)
    · refine VC.skip ?_
      show VC _ _ _ _ _ _ _ _
      refine VC.seq ?_
      refine VC.block ?_
      refine VC.seq ?_
      refine VC.text ?_
      have hlj := hr _ (List.getElem_mem (show j < l.length by omega))
      refine VO.c (.ix (j := j) rfl rfl el101 (by omega)) ?_
      refine VO.r (.ld vt124) ?_
      refine VO.c (.assign rfl) ?_
      refine VO.go ?_
      refine VC.seq ?_
      refine VC.drawn ?_
      refine VD.c (.move rfl) ?_
      refine VD.r [] (.len el124) (.inl rfl) ?_
      refine VD.c (.eql) ?_
      refine VD.call rfl rfl (VF.call (sWhen_ok )) ?_
      refine VD.c (.move rfl) ?_
      refine VD.r [] (.len el124) (.inl rfl) ?_
      refine VD.nw [] ?_
      refine VD.c (.gtr) ?_
      refine VD.call rfl rfl (VF.call (sWhen_ok )) ?_
      refine VD.c (.move rfl) ?_
      refine VD.r [] (.len el124) (.inl rfl) ?_
      refine VD.c (.move rfl) ?_
      refine VD.c (.ix (j := 0) rfl rfl el101 (by omega)) ?_
      refine VD.r [] (.ld vt124) (.inl rfl) ?_
      refine VD.nw [] ?_
      refine VD.r [] (.len el124) (.inl rfl) ?_
      refine VD.c (.neq) ?_
      refine VD.call rfl rfl (VF.call (sWhen_ok )) ?_
      refine VD.c (.move rfl) ?_
      refine VD.call rfl rfl (VF.call (sMapFE_ok (F := lvlE) hlj (fun _ _ => VF.call gLv_ok))) ?_
      refine VD.callO rfl rfl (VF.call (sFirst_ok (by simp; omega))) ?_
      refine VD.new (.lit [whenE (decide ((((l[j]).length : Nat) : Int) = (0 : Int))) (12 : Int), whenE (decide ((8 : Int) < (((l[j]).length : Nat) : Int))) (5 : Int), whenE (decide ((((l[j]).length : Nat) : Int) ≠ (((l[0]).length : Nat) : Int))) (2 : Int), firstE ((l[j]).map lvlE)] el179) ?_
      refine VD.nw [45, 43] ?_
      refine VD.callO rfl rfl (VF.call (sFirst_ok (by simp))) ?_
      refine VD.c (.assign rfl) ?_
      refine VD.go ?_
      refine VC.seq ?_
      refine VC.text ?_
      refine VO.c (.move rfl) ?_
      refine VO.c (.neq) ?_
      refine VO.go ?_
      refine VC.condD rfl (fun c8 => ?_) (fun c8 => ?_)
      · refine VC.seq ?_
        refine VC.text ?_
        refine VO.c (.move rfl) ?_
        refine VO.c (.assign rfl) ?_
        refine VO.go ?_
        refine VC.ret ?_
        exact VEnd.one rfl evT (pvI (by rw [fieldE, if_neg d1, if_neg d2, hf, firstE_map_drop (by omega), if_neg (by rw [rowE, ← e0]; exact c8), rowE, ← e0]))
      · refine VC.skip ?_
        show VC _ _ _ _ _ _ _ _
        refine VC.text ?_
        refine VO.c (.add rfl rfl (by omega)) ?_
        refine VO.c (.move rfl) ?_
        refine VO.nil ?_
        refine ⟨_, [(0, .v y101 l), (20, .v y101 l), (21, I ((l.length : Nat) : Int)), (22, I (((j + 1) : Nat) : Int))], ?_, ⟨rfl, rfl, rfl, rfl, trivial⟩, (j + 1), rfl, rfl, rfl, (by omega), (by rw [hf, firstE_map_drop (by omega), if_pos (by rw [rowE, ← e0]; simpa using c8)])⟩
        omega
    · refine VC.exit ?_
      show VC _ _ _ _ _ _ _ _
      refine VC.seq ?_
      refine VC.text ?_
      refine VO.c (.assign rfl) ?_
      refine VO.go ?_
      refine VC.ret ?_
      exact VEnd.one rfl evT (pvI (by rw [fieldE, if_neg d1, if_neg d2, hf, firstE_map_end (by omega)]))
theorem rRows_ok {l : List (List Nat)} (hl : l.length < 100000) (hr : ∀ r ∈ l, r.length < 100000) : VF Tryz.prog OA 64 [.v y101 l] (I (fieldE l)) := by
  refine VF.enter Tryz.func64 rfl (fun _ _ => rfl) rfl ?_
  show VC _ _ _ _ _ [(0, .v y101 l)] [] _
  refine VC.seq ?_
  refine VC.text ?_
  refine VO.c (.assign rfl) ?_
  refine VO.go ?_
  refine VC.seq ?_
  refine VC.seq ?_
  refine VC.text ?_
  refine VO.c (.move rfl) ?_
  refine VO.r (.len el101) ?_
  refine VO.c (.eql) ?_
  refine VO.go ?_
  refine VC.condD rfl (fun c1 => ?_) (fun c1 => ?_)
  · refine VC.seq ?_
    refine VC.text ?_
    refine VO.c (.assign rfl) ?_
    refine VO.go ?_
    refine VC.ret ?_
    exact VEnd.one rfl evT (pvI (by rw [fieldE, if_pos c1]))
  · refine VC.skip ?_
    show VC _ _ _ _ _ _ _ _
    refine VC.seq ?_
    refine VC.seq ?_
    refine VC.text ?_
    refine VO.c (.move rfl) ?_
    refine VO.r (.len el101) ?_
    refine VO.c (.gtr) ?_
    refine VO.go ?_
    refine VC.condD rfl (fun c3 => ?_) (fun c3 => ?_)
    · refine VC.seq ?_
      refine VC.text ?_
      refine VO.c (.assign rfl) ?_
      refine VO.go ?_
      refine VC.ret ?_
      exact VEnd.one rfl evT (pvI (by rw [fieldE, if_neg c1, if_pos c3]))
    · refine VC.skip ?_
      show VC _ _ _ _ _ _ _ _
      refine VC.seq ?_
      refine VC.seq ?_
      refine VC.text ?_
      refine VO.c (.assign rfl) ?_
      refine VO.go ?_
      refine VC.block ?_
      refine VC.keep [(0, .v y101 l), (3, I ((0 : Nat) : Int))] ⟨rfl, rfl, trivial⟩ ?_
      refine VC.loop (I := fun kk ff ss => ∃ (j : Nat), kk = l.length - j ∧ ff = [(0, .v y101 l), (3, I ((j : Nat) : Int))] ∧ ss = [] ∧ (j ≤ l.length) ∧ (firstE (l.map (rowE (wid l))) = firstE ((l.drop j).map (rowE (wid l))))) ?_ _ _ _ ⟨0, rfl, rfl, rfl, Nat.zero_le _, (by rfl)⟩
      rintro kk ff ss ⟨j, hk0, rfl, rfl, hj, hf⟩
      refine VC.seq ?_
      refine VC.seq ?_
      refine VC.text ?_
      refine VO.c (.move rfl) ?_
      refine VO.c (.move rfl) ?_
      refine VO.r (.len el101) ?_
      refine VO.c (.lss) ?_
      refine VO.go ?_
      refine VC.condD rfl (fun c6 => ?_) (fun c6 => ?_)
      · refine VC.skip ?_
        show VC _ _ _ _ _ _ _ _
        refine VC.seq ?_
        refine VC.block ?_
        refine VC.seq ?_
        refine VC.seq ?_
        refine VC.text ?_
        have e0 := wid_eq (F := l) (by omega)
        have hlj := hr _ (List.getElem_mem (show j < l.length by omega))
        refine VO.c (.move rfl) ?_
        refine VO.c (.move rfl) ?_
        refine VO.c (.ix (j := j) rfl rfl el101 (by omega)) ?_
        refine VO.r (.ld vt124) ?_
        refine VO.r (.len el124) ?_
        refine VO.c (.eql) ?_
        refine VO.go ?_
        refine VC.condD rfl (fun c8 => ?_) (fun c8 => ?_)
        · refine VC.seq ?_
          refine VC.text ?_
          refine VO.c (.assign rfl) ?_
          refine VO.go ?_
          refine VC.ret ?_
          exact VEnd.one rfl evT (pvI (by rw [fieldE, if_neg c1, if_neg c3, hf, firstE_map_drop (by omega)]; simp only [rowE, firstE, whenE_t c8, if_true] <;> rfl))
        · refine VC.skip ?_
          show VC _ _ _ _ _ _ _ _
          refine VC.seq ?_
          refine VC.seq ?_
          refine VC.text ?_
          refine VO.c (.move rfl) ?_
          refine VO.c (.move rfl) ?_
          refine VO.c (.ix (j := j) rfl rfl el101 (by omega)) ?_
          refine VO.r (.ld vt124) ?_
          refine VO.r (.len el124) ?_
          refine VO.c (.gtr) ?_
          refine VO.go ?_
          refine VC.condD rfl (fun c10 => ?_) (fun c10 => ?_)
          · refine VC.seq ?_
            refine VC.text ?_
            refine VO.c (.assign rfl) ?_
            refine VO.go ?_
            refine VC.ret ?_
            exact VEnd.one rfl evT (pvI (by rw [fieldE, if_neg c1, if_neg c3, hf, firstE_map_drop (by omega)]; simp only [rowE, firstE, whenE_f c8, whenE_t c10, if_true] <;> rfl))
          · refine VC.skip ?_
            show VC _ _ _ _ _ _ _ _
            refine VC.seq ?_
            refine VC.seq ?_
            refine VC.drawn ?_
            refine VD.c (.move rfl) ?_
            refine VD.c (.move rfl) ?_
            refine VD.c (.ix (j := j) rfl rfl el101 (by omega)) ?_
            refine VD.r [] (.ld vt124) (.inl rfl) ?_
            refine VD.r [] (.len el124) (.inl rfl) ?_
            refine VD.c (.move rfl) ?_
            refine VD.nw [] ?_
            refine VD.c (.ix (j := 0) rfl rfl el101 (by omega)) ?_
            refine VD.r [] (.ld vt124) (.inl rfl) ?_
            refine VD.r [] (.len el124) (.inl rfl) ?_
            refine VD.c (.neq) ?_
            refine VD.go ?_
            refine VC.condD rfl (fun c12 => ?_) (fun c12 => ?_)
            · refine VC.seq ?_
              refine VC.text ?_
              refine VO.c (.assign rfl) ?_
              refine VO.go ?_
              refine VC.ret ?_
              exact VEnd.one rfl evT (pvI (by rw [fieldE, if_neg c1, if_neg c3, hf, firstE_map_drop (by omega)]; simp only [rowE, ← e0, firstE, whenE_f c8, whenE_f c10, whenE_t c12, if_true] <;> rfl))
            · refine VC.skip ?_
              show VC _ _ _ _ _ _ _ _
              refine VC.seq ?_
              refine VC.text ?_
              refine VO.c (.assign rfl) ?_
              refine VO.go ?_
              refine VC.block ?_
              refine VC.keep [(0, .v y101 l), (3, I ((j : Nat) : Int)), (4, I ((0 : Nat) : Int))] ⟨rfl, rfl, rfl, trivial⟩ ?_
              refine VC.loop (I := fun kk ff ss => ∃ (k : Nat), kk = l[j].length - k ∧ ff = [(0, .v y101 l), (3, I ((j : Nat) : Int)), (4, I ((k : Nat) : Int))] ∧ ss = [] ∧ (k ≤ l[j].length) ∧ (firstE (l[j].map lvlE) = firstE ((l[j].drop k).map lvlE))) ?_ _ _ _ ⟨0, rfl, rfl, rfl, (by omega), (by rfl)⟩
              rintro kk ff ss ⟨k, hk2, rfl, rfl, hk, hg⟩
              refine VC.seq ?_
              refine VC.seq ?_
              refine VC.text ?_
              refine VO.c (.move rfl) ?_
              refine VO.c (.move rfl) ?_
              refine VO.c (.move rfl) ?_
              refine VO.c (.ix (j := j) rfl rfl el101 (by omega)) ?_
              refine VO.r (.ld vt124) ?_
              refine VO.r (.len el124) ?_
              refine VO.c (.lss) ?_
              refine VO.go ?_
              refine VC.condD rfl (fun c15 => ?_) (fun c15 => ?_)
              · refine VC.skip ?_
                show VC _ _ _ _ _ _ _ _
                refine VC.seq ?_
                refine VC.block ?_
                refine VC.seq ?_
                refine VC.text ?_
                refine VO.c (.move rfl) ?_
                refine VO.c (.move rfl) ?_
                refine VO.c (.ix (j := j) rfl rfl el101 (by omega)) ?_
                refine VO.r (.ld vt124) ?_
                refine VO.c (.move rfl) ?_
                refine VO.c (.ix (j := k) rfl rfl el124 (by omega)) ?_
                refine VO.r (.ld vt127) ?_
                refine VO.call rfl rfl (VF.call (rLv_ok )) ?_
                refine VO.c (.assign rfl) ?_
                refine VO.go ?_
                refine VC.seq ?_
                refine VC.text ?_
                refine VO.c (.move rfl) ?_
                refine VO.c (.neq) ?_
                refine VO.go ?_
                refine VC.condD rfl (fun c18 => ?_) (fun c18 => ?_)
                · refine VC.seq ?_
                  refine VC.text ?_
                  refine VO.c (.move rfl) ?_
                  refine VO.c (.assign rfl) ?_
                  refine VO.go ?_
                  refine VC.ret ?_
                  exact VEnd.one rfl evT (pvI (by rw [fieldE, if_neg c1, if_neg c3, hf, firstE_map_drop (by omega)]; simp only [rowE, ← e0, firstE, whenE_f c8, whenE_f c10, whenE_f c12, if_true]; rw [hg, firstE_map_drop (by omega), if_neg c18]; simp [c18]))
                · refine VC.skip ?_
                  show VC _ _ _ _ _ _ _ _
                  refine VC.text ?_
                  refine VO.c (.move rfl) ?_
                  refine VO.c (.add rfl rfl (by omega)) ?_
                  refine VO.c (.assign rfl) ?_
                  refine VO.nil ?_
                  refine ⟨_, [(0, .v y101 l), (3, I ((j : Nat) : Int)), (4, I (((k + 1) : Nat) : Int))], ?_, ⟨rfl, rfl, rfl, trivial⟩, (k + 1), rfl, rfl, rfl, (by omega), (by rw [hg, firstE_map_drop (by omega), if_pos (Decidable.not_not.1 c18)])⟩
                  omega
              · refine VC.exit ?_
                show VC _ _ _ _ _ _ _ _
                refine VC.text ?_
                refine VO.c (.move rfl) ?_
                refine VO.c (.add rfl rfl (by omega)) ?_
                refine VO.c (.assign rfl) ?_
                refine VO.nil ?_
                have hz : firstE (l[j].map lvlE) = 0 := by rw [hg, firstE_map_end (by omega)]
                refine ⟨_, [(0, .v y101 l), (3, I (((j + 1) : Nat) : Int))], ?_, ⟨rfl, rfl, trivial⟩, (j + 1), rfl, rfl, rfl, (by omega), (by rw [hf, firstE_map_drop (by omega), if_pos (by simp only [rowE, ← e0, firstE, whenE_f c8, whenE_f c10, whenE_f c12, if_true, hz])])⟩
                omega
      · refine VC.exit ?_
        show VC _ _ _ _ _ _ _ _
        refine VC.seq ?_
        refine VC.text ?_
        refine VO.c (.assign rfl) ?_
        refine VO.go ?_
        refine VC.ret ?_
        exact VEnd.one rfl evT (pvI (by rw [fieldE, if_neg c1, if_neg c3, hf, firstE_map_end (by omega)]))
theorem sPlace_ok {p : Int × Int} {R : Int} {C : Int} (hR : 0 ≤ R ∧ R ≤ 100000) (hC : 0 ≤ C ∧ C ≤ 100000) : VF Tryz.prog OA 136 [.v y121 p, I R, I C] (I (placeE p R C)) := by
  refine VF.enter Tryz.func136 rfl (fun _ _ => rfl) rfl ?_
  show VC _ _ _ _ _ [(0, .v y121 p), (1, I R), (2, I C)] [] _
  refine VC.seq ?_
  refine VC.text ?_
  refine VO.new (.box) ?_
  refine VO.c (.assign rfl) ?_
  refine VO.go ?_
  refine VC.seq ?_
  refine VC.drawn ?_
  refine VD.c (.fa (.l .o)) ?_
  refine VD.r [] (.ld vt3) (.inl rfl) ?_
  refine VD.c (.move rfl) ?_
  refine VD.c (.sub rfl rfl (by omega)) ?_
  refine VD.c (.mul rfl rfl (by omega)) ?_
  refine VD.call rfl rfl (VF.call (sWithin_ok )) ?_
  refine VD.nw [] ?_
  refine VD.c (.fa (.r .o)) ?_
  refine VD.r [] (.ld vt3) (.inl rfl) ?_
  refine VD.c (.move rfl) ?_
  refine VD.c (.sub rfl rfl (by omega)) ?_
  refine VD.c (.mul rfl rfl (by omega)) ?_
  refine VD.call rfl rfl (VF.call (sWithin_ok )) ?_
  refine VD.new (.lit [rangeE p.1 (0 : Int) ((4 : Int) * (R - (1 : Int))), rangeE p.2 (0 : Int) ((4 : Int) * (C - (1 : Int)))] el179) ?_
  refine VD.nw [19] ?_
  refine VD.callO rfl rfl (VF.call (sFirst_ok (by simp))) ?_
  refine VD.c (.assign rfl) ?_
  refine VD.go ?_
  refine VC.ret ?_
  exact VEnd.one rfl evT (pvI (by first | rfl | simp))
theorem rPlace_ok {p : Int × Int} {R : Int} {C : Int} (hR : 0 ≤ R ∧ R ≤ 100000) (hC : 0 ≤ C ∧ C ≤ 100000) : VF Tryz.prog OA 65 [.v y117 p, I R, I C] (I (placeE p R C)) := by
  refine VF.enter Tryz.func65 rfl (fun _ _ => rfl) rfl ?_
  show VC _ _ _ _ _ [(0, .v y117 p), (1, I R), (2, I C)] [] _
  refine VC.seq ?_
  refine VC.text ?_
  refine VO.new (.box) ?_
  refine VO.c (.assign rfl) ?_
  refine VO.go ?_
  refine VC.seq ?_
  refine VC.drawn ?_
  refine VD.c (.fa (.l .o)) ?_
  refine VD.r [] (.ld vt3) (.inl rfl) ?_
  refine VD.c (.move rfl) ?_
  refine VD.c (.sub rfl rfl (by omega)) ?_
  refine VD.c (.mul rfl rfl (by omega)) ?_
  refine VD.call rfl rfl (VF.call (rCheckRange_ok )) ?_
  refine VD.nw [] ?_
  refine VD.c (.fa (.r .o)) ?_
  refine VD.r [] (.ld vt3) (.inl rfl) ?_
  refine VD.c (.move rfl) ?_
  refine VD.c (.sub rfl rfl (by omega)) ?_
  refine VD.c (.mul rfl rfl (by omega)) ?_
  refine VD.call rfl rfl (VF.call (rCheckRange_ok )) ?_
  refine VD.new (.lit [rangeE p.1 (0 : Int) ((4 : Int) * (R - (1 : Int))), rangeE p.2 (0 : Int) ((4 : Int) * (C - (1 : Int)))] el22) ?_
  refine VD.nw [19] ?_
  refine VD.callO rfl rfl (VF.call (rFirst_ok (by simp))) ?_
  refine VD.c (.assign rfl) ?_
  refine VD.go ?_
  refine VC.ret ?_
  exact VEnd.one rfl evT (pvI (by first | rfl | simp))
theorem sxF_get {F : List (List Nat)} {r c : Nat} (hr : r < F.length) (hc : c < F[r].length) : sxE (F[r][c]) = sxF F r c := by
  unfold sxF
  rw [List.getD_eq_getElem?_getD, List.getD_eq_getElem?_getD, List.getElem?_eq_getElem hr, Option.getD_some, List.getElem?_eq_getElem hc, Option.getD_some]
theorem lv_get {F : List (List Nat)} (h : OkF F) {r c : Nat} (hr : r < F.length) (hc : c < F[r].length) : lvlE (F[r][c]) = 0 := h.lv _ (List.getElem_mem hr) _ (List.getElem_mem hc)
theorem wid_D {F : List (List Nat)} : (F.getD 0 []).length = wid F := by cases F <;> rfl
theorem at_same {F : List (List Nat)} {p : Int × Int} {a : Int} (h1 : sxF F (p.1 / 4).toNat (p.2 / 4).toNat = a) (h2 : sxF F (p.1 / 4).toNat (min ((p.2 / 4).toNat + 1) (wid F - 1)) = a) (h3 : sxF F (min ((p.1 / 4).toNat + 1) (F.length - 1)) (p.2 / 4).toNat = a) (h4 : sxF F (min ((p.1 / 4).toNat + 1) (F.length - 1)) (min ((p.2 / 4).toNat + 1) (wid F - 1)) = a) : 16 * a = atE F p := by
  unfold atE
  simp only [wid_D, h1, h2, h3, h4]
  generalize p.1 % 4 = y
  generalize p.2 % 4 = x
  rw [← Int.add_mul, ← Int.add_mul, ← Int.add_mul]
  congr 1
  simp only [Int.sub_mul, Int.mul_sub]
  omega
theorem sx_bound {F : List (List Nat)} (h : OkF F) {r c : Nat} (hr : r < F.length) (hc : c < F[r].length) : -1024 ≤ sxE (F[r][c]) ∧ sxE (F[r][c]) ≤ 1024 := (lvl_ok (lv_get h hr hc)).2
theorem wprod {a b s : Int} (ha : 0 ≤ a ∧ a ≤ 4) (hb : 0 ≤ b ∧ b ≤ 4) (hs : -1024 ≤ s ∧ s ≤ 1024) : -16384 ≤ a * b * s ∧ a * b * s ≤ 16384 := by
  have h0 : 0 ≤ a * b := Int.mul_nonneg ha.1 hb.1
  have h1 : a * b ≤ 4 * 4 := Int.mul_le_mul ha.2 hb.2 hb.1 (by decide)
  have h2 : a * b * s ≤ 16 * 1024 := by
    by_cases hn : 0 ≤ s
    · exact Int.mul_le_mul (by omega) hs.2 hn (by decide)
    · have := Int.mul_nonneg h0 (show 0 ≤ -s by omega)
      rw [Int.mul_neg] at this; omega
  have h3 : a * b * (-s) ≤ 16 * 1024 := by
    by_cases hn : 0 ≤ -s
    · exact Int.mul_le_mul (by omega) (by omega) hn (by decide)
    · have := Int.mul_nonneg h0 (show 0 ≤ s by omega)
      rw [Int.mul_neg]; omega
  rw [Int.mul_neg] at h3
  omega
theorem wfit {a b : Int} (ha : 0 ≤ a ∧ a ≤ 4) (hb : 0 ≤ b ∧ b ≤ 4) : fit (a * b) := by
  have h0 : 0 ≤ a * b := Int.mul_nonneg ha.1 hb.1
  have h1 : a * b ≤ 4 * 4 := Int.mul_le_mul ha.2 hb.2 hb.1 (by decide)
  exact ⟨by omega, by omega⟩
theorem pfit {a : Int} (h : -16384 ≤ a ∧ a ≤ 16384) : fit a := ⟨by omega, by omega⟩
theorem sAt_ok_c4 {F : List (List Nat)} {p : Int × Int}  {ww2 : Value} (hF : OkF F) (hr1 : (p.1 / 4).toNat < F.length) (hr2 : min ((p.1 / 4).toNat + 1) (F.length - 1) < F.length) (hw1 : F[(p.1 / 4).toNat].length = wid F) (hw2 : F[min ((p.1 / 4).toNat + 1) (F.length - 1)].length = wid F) (hc1 : (p.2 / 4).toNat < wid F) (hc2 : min ((p.2 / 4).toNat + 1) (wid F - 1) < wid F) : VC Tryz.prog OA none (seqN 4 (codeOf Tryz.f137)) Tryz.f137.ntmps [(7, I (p.1 % 4)), (8, I (p.2 % 4)), (11, .raw ww2)] [(ww2, .var [I (sxE ((F[((p.1 / 4).toNat)])[((p.2 / 4).toNat)])), I (sxE ((F[((p.1 / 4).toNat)])[(min ((p.2 / 4).toNat + 1) (wid F - 1))])), I (sxE ((F[(min ((p.1 / 4).toNat + 1) (F.length - 1))])[((p.2 / 4).toNat)])), I (sxE ((F[(min ((p.1 / 4).toNat + 1) (F.length - 1))])[(min ((p.2 / 4).toNat + 1) (wid F - 1))]))])] (VEnd Tryz.prog Tryz.f137 (I (atE F p))) := by
  refine VC.seq ?_
  refine VC.seq ?_
  refine VC.text ?_
  have k1 := sx_bound hF hr1 (show (p.2 / 4).toNat < _ by omega)
  have k2 := sx_bound hF hr1 (show min ((p.2 / 4).toNat + 1) (wid F - 1) < _ by omega)
  have k3 := sx_bound hF hr2 (show (p.2 / 4).toNat < _ by omega)
  have k4 := sx_bound hF hr2 (show min ((p.2 / 4).toNat + 1) (wid F - 1) < _ by omega)
  have g1 := sxF_get hr1 (show (p.2 / 4).toNat < _ by omega)
  have g2 := sxF_get hr1 (show min ((p.2 / 4).toNat + 1) (wid F - 1) < _ by omega)
  have g3 := sxF_get hr2 (show (p.2 / 4).toNat < _ by omega)
  have g4 := sxF_get hr2 (show min ((p.2 / 4).toNat + 1) (wid F - 1) < _ by omega)
  have hy : 0 ≤ p.1 % 4 ∧ p.1 % 4 ≤ 4 := by omega
  have hx : 0 ≤ p.2 % 4 ∧ p.2 % 4 ≤ 4 := by omega
  have hy2 : 0 ≤ 4 - p.1 % 4 ∧ 4 - p.1 % 4 ≤ 4 := by omega
  have hx2 : 0 ≤ 4 - p.2 % 4 ∧ 4 - p.2 % 4 ≤ 4 := by omega
  have p1 := wprod hy2 hx2 k1
  have p2 := wprod hy2 hx k2
  have p3 := wprod hy hx2 k3
  have p4 := wprod hy hx k4
  refine VO.c (.ixV 0 (k := 0) (τ' := (.int .i64)) m0) ?_
  refine VO.r (.ldF (k := 0) m0 vt3) ?_
  refine VO.c (.assign rfl) ?_
  refine VO.go ?_
  refine VC.seq ?_
  refine VC.text ?_
  refine VO.r (.ldA (dx := (sxE ((F[((p.1 / 4).toNat)])[((p.2 / 4).toNat)]), sxE ((F[((p.1 / 4).toNat)])[(min ((p.2 / 4).toNat + 1) (wid F - 1))]), sxE ((F[(min ((p.1 / 4).toNat + 1) (F.length - 1))])[((p.2 / 4).toNat)]), sxE ((F[(min ((p.1 / 4).toNat + 1) (F.length - 1))])[(min ((p.2 / 4).toNat + 1) (wid F - 1))]))) m0 vt255) ?_
  refine VO.c (.move rfl) ?_
  refine VO.c (.move rfl) ?_
  refine VO.c (.move rfl) ?_
  refine VO.c (.move rfl) ?_
  refine VO.c (.build (sxE ((F[((p.1 / 4).toNat)])[((p.2 / 4).toNat)]), sxE ((F[((p.1 / 4).toNat)])[((p.2 / 4).toNat)]), sxE ((F[((p.1 / 4).toNat)])[((p.2 / 4).toNat)]), sxE ((F[((p.1 / 4).toNat)])[((p.2 / 4).toNat)])) bt255) ?_
  refine VO.c (.arrCmp (xs := [sxE ((F[((p.1 / 4).toNat)])[((p.2 / 4).toNat)]), sxE ((F[((p.1 / 4).toNat)])[(min ((p.2 / 4).toNat + 1) (wid F - 1))]), sxE ((F[(min ((p.1 / 4).toNat + 1) (F.length - 1))])[((p.2 / 4).toNat)]), sxE ((F[(min ((p.1 / 4).toNat + 1) (F.length - 1))])[(min ((p.2 / 4).toNat + 1) (wid F - 1))])]) (ys := [sxE ((F[((p.1 / 4).toNat)])[((p.2 / 4).toNat)]), sxE ((F[((p.1 / 4).toNat)])[((p.2 / 4).toNat)]), sxE ((F[((p.1 / 4).toNat)])[((p.2 / 4).toNat)]), sxE ((F[((p.1 / 4).toNat)])[((p.2 / 4).toNat)])]) (.inl ⟨rfl, rfl⟩) rfl rfl rfl rfl (by kernel_rfl) rfl) ?_
  refine VO.go ?_
  refine VC.condD rfl (fun c5 => ?_) (fun c5 => ?_)
  · refine VC.seq ?_
    refine VC.text ?_
    refine VO.c (.move rfl) ?_
    refine VO.c (.mul rfl rfl (by omega)) ?_
    refine VO.c (.assign rfl) ?_
    refine VO.go ?_
    refine VC.ret ?_
    exact VEnd.one rfl evT (pvI (by simp only [List.cons.injEq, and_true, true_and] at c5; exact at_same g1.symm (g2.symm.trans c5.1) (g3.symm.trans c5.2.1) (g4.symm.trans c5.2.2)))
  · refine VC.skip ?_
    show VC _ _ _ _ _ _ _ _
    refine VC.seq ?_
    refine VC.text ?_
    refine VO.c (.assign rfl) ?_
    refine VO.go ?_
    refine VC.seq ?_
    refine VC.seq ?_
    refine VC.text ?_
    refine VO.c (.move rfl) ?_
    refine VO.c (.sub rfl rfl (by omega)) ?_
    refine VO.c (.move rfl) ?_
    refine VO.c (.sub rfl rfl (by omega)) ?_
    refine VO.c (.mul rfl rfl (by exact wfit hy2 hx2)) ?_
    refine VO.c (.move rfl) ?_
    refine VO.c (.sub rfl rfl (by omega)) ?_
    refine VO.c (.move rfl) ?_
    refine VO.c (.mul rfl rfl (by exact wfit hy2 hx)) ?_
    refine VO.c (.move rfl) ?_
    refine VO.c (.move rfl) ?_
    refine VO.c (.sub rfl rfl (by omega)) ?_
    refine VO.c (.mul rfl rfl (by exact wfit hy hx2)) ?_
    refine VO.c (.move rfl) ?_
    refine VO.c (.move rfl) ?_
    refine VO.c (.mul rfl rfl (by exact wfit hy hx)) ?_
    refine VO.c (.build ((((4 : Int) - (p.1 % 4)) * ((4 : Int) - (p.2 % 4))), (((4 : Int) - (p.1 % 4)) * (p.2 % 4)), ((p.1 % 4) * ((4 : Int) - (p.2 % 4))), ((p.1 % 4) * (p.2 % 4))) bt255) ?_
    refine VO.c (.move rfl) ?_
    refine VO.go ?_
    refine VC.block ?_
    refine VC.unroll ?_
    refine VC.seq ?_
    refine VC.text ?_
    refine VO.c (.lss) ?_
    refine VO.go ?_
    refine VC.seq ?_
    refine VC.condT rfl ?_
    refine VC.skip ?_
    show VC _ _ _ _ _ _ _ _
    refine VC.seq ?_
    refine VC.block ?_
    refine VC.seq ?_
    refine VC.text ?_
    refine VO.c (.move rfl) ?_
    refine VO.c (.ixA 0 (τ' := (.int .i64)) (dy := (((4 : Int) - (p.1 % 4)) * ((4 : Int) - (p.2 % 4)))) (.l .o)) ?_
    refine VO.c (.assign rfl) ?_
    refine VO.c (.assign rfl) ?_
    refine VO.go ?_
    refine VC.keep [(11, .raw ww2), (13, I (0 : Int)), (14, I (0 : Int)), (15, I (((4 : Int) - (p.1 % 4)) * ((4 : Int) - (p.2 % 4)))), (102, .v y255 ((((4 : Int) - (p.1 % 4)) * ((4 : Int) - (p.2 % 4))), (((4 : Int) - (p.1 % 4)) * (p.2 % 4)), ((p.1 % 4) * ((4 : Int) - (p.2 % 4))), ((p.1 % 4) * (p.2 % 4)))), (103, I (0 : Int))] ⟨rfl, rfl, rfl, rfl, rfl, rfl, trivial⟩ ?_
    refine VC.text ?_
    refine VO.c (.move rfl) ?_
    refine VO.c (.move rfl) ?_
    refine VO.c (.move rfl) ?_
    refine VO.c (.ixV 0 (k := 0) (τ' := (.int .i64)) m0) ?_
    refine VO.r (.ldF (k := 0) m0 vt3) ?_
    refine VO.c (.mul rfl rfl (by first | exact pfit p1 | exact pfit p2 | exact pfit p3 | exact pfit p4)) ?_
    refine VO.c (.add rfl rfl (by exact ⟨by omega, by omega⟩)) ?_
    refine VO.c (.assign rfl) ?_
    refine VO.nil ?_
    show VC _ _ _ _ _ _ _ _
    refine VC.text ?_
    refine VO.c (.add rfl rfl (by decide)) ?_
    refine VO.c (.move rfl) ?_
    refine VO.nil ?_
    show VC _ _ _ _ _ _ _ _
    refine VC.unroll ?_
    refine VC.seq ?_
    refine VC.text ?_
    refine VO.c (.lss) ?_
    refine VO.go ?_
    refine VC.seq ?_
    refine VC.condT rfl ?_
    refine VC.skip ?_
    show VC _ _ _ _ _ _ _ _
    refine VC.seq ?_
    refine VC.block ?_
    refine VC.seq ?_
    refine VC.text ?_
    refine VO.c (.move rfl) ?_
    refine VO.c (.ixA 1 (τ' := (.int .i64)) (dy := (((4 : Int) - (p.1 % 4)) * (p.2 % 4))) (.r (.l .o))) ?_
    refine VO.c (.assign rfl) ?_
    refine VO.c (.assign rfl) ?_
    refine VO.go ?_
    refine VC.text ?_
    refine VO.c (.move rfl) ?_
    refine VO.c (.move rfl) ?_
    refine VO.c (.move rfl) ?_
    refine VO.c (.ixV 1 (k := 1) (τ' := (.int .i64)) m0) ?_
    refine VO.r (.ldF (k := 1) m0 vt3) ?_
    refine VO.c (.mul rfl rfl (by first | exact pfit p1 | exact pfit p2 | exact pfit p3 | exact pfit p4)) ?_
    refine VO.c (.add rfl rfl (by exact ⟨by omega, by omega⟩)) ?_
    refine VO.c (.assign rfl) ?_
    refine VO.nil ?_
    show VC _ _ _ _ _ _ _ _
    refine VC.text ?_
    refine VO.c (.add rfl rfl (by decide)) ?_
    refine VO.c (.move rfl) ?_
    refine VO.nil ?_
    show VC _ _ _ _ _ _ _ _
    refine VC.unroll ?_
    refine VC.seq ?_
    refine VC.text ?_
    refine VO.c (.lss) ?_
    refine VO.go ?_
    refine VC.seq ?_
    refine VC.condT rfl ?_
    refine VC.skip ?_
    show VC _ _ _ _ _ _ _ _
    refine VC.seq ?_
    refine VC.block ?_
    refine VC.seq ?_
    refine VC.text ?_
    refine VO.c (.move rfl) ?_
    refine VO.c (.ixA 2 (τ' := (.int .i64)) (dy := ((p.1 % 4) * ((4 : Int) - (p.2 % 4)))) (.r (.r (.l .o)))) ?_
    refine VO.c (.assign rfl) ?_
    refine VO.c (.assign rfl) ?_
    refine VO.go ?_
    refine VC.text ?_
    refine VO.c (.move rfl) ?_
    refine VO.c (.move rfl) ?_
    refine VO.c (.move rfl) ?_
    refine VO.c (.ixV 2 (k := 2) (τ' := (.int .i64)) m0) ?_
    refine VO.r (.ldF (k := 2) m0 vt3) ?_
    refine VO.c (.mul rfl rfl (by first | exact pfit p1 | exact pfit p2 | exact pfit p3 | exact pfit p4)) ?_
    refine VO.c (.add rfl rfl (by exact ⟨by omega, by omega⟩)) ?_
    refine VO.c (.assign rfl) ?_
    refine VO.nil ?_
    show VC _ _ _ _ _ _ _ _
    refine VC.keep [(11, .raw ww2), (13, I ((((0 : Int) + ((((4 : Int) - (p.1 % 4)) * ((4 : Int) - (p.2 % 4))) * sxE ((F[((p.1 / 4).toNat)])[((p.2 / 4).toNat)]))) + ((((4 : Int) - (p.1 % 4)) * (p.2 % 4)) * sxE ((F[((p.1 / 4).toNat)])[(min ((p.2 / 4).toNat + 1) (wid F - 1))]))) + (((p.1 % 4) * ((4 : Int) - (p.2 % 4))) * sxE ((F[(min ((p.1 / 4).toNat + 1) (F.length - 1))])[((p.2 / 4).toNat)])))), (102, .v y255 ((((4 : Int) - (p.1 % 4)) * ((4 : Int) - (p.2 % 4))), (((4 : Int) - (p.1 % 4)) * (p.2 % 4)), ((p.1 % 4) * ((4 : Int) - (p.2 % 4))), ((p.1 % 4) * (p.2 % 4)))), (103, I (2 : Int))] ⟨rfl, rfl, rfl, rfl, trivial⟩ ?_
    refine VC.text ?_
    refine VO.c (.add rfl rfl (by decide)) ?_
    refine VO.c (.move rfl) ?_
    refine VO.nil ?_
    show VC _ _ _ _ _ _ _ _
    refine VC.unroll ?_
    refine VC.seq ?_
    refine VC.text ?_
    refine VO.c (.lss) ?_
    refine VO.go ?_
    refine VC.seq ?_
    refine VC.condT rfl ?_
    refine VC.skip ?_
    show VC _ _ _ _ _ _ _ _
    refine VC.seq ?_
    refine VC.block ?_
    refine VC.seq ?_
    refine VC.text ?_
    refine VO.c (.move rfl) ?_
    refine VO.c (.ixA 3 (τ' := (.int .i64)) (dy := ((p.1 % 4) * (p.2 % 4))) (.r (.r (.r .o)))) ?_
    refine VO.c (.assign rfl) ?_
    refine VO.c (.assign rfl) ?_
    refine VO.go ?_
    refine VC.text ?_
    refine VO.c (.move rfl) ?_
    refine VO.c (.move rfl) ?_
    refine VO.c (.move rfl) ?_
    refine VO.c (.ixV 3 (k := 3) (τ' := (.int .i64)) m0) ?_
    refine VO.r (.ldF (k := 3) m0 vt3) ?_
    refine VO.c (.mul rfl rfl (by first | exact pfit p1 | exact pfit p2 | exact pfit p3 | exact pfit p4)) ?_
    refine VO.c (.add rfl rfl (by exact ⟨by omega, by omega⟩)) ?_
    refine VO.c (.assign rfl) ?_
    refine VO.nil ?_
    show VC _ _ _ _ _ _ _ _
    refine VC.text ?_
    refine VO.c (.add rfl rfl (by decide)) ?_
    refine VO.c (.move rfl) ?_
    refine VO.nil ?_
    show VC _ _ _ _ _ _ _ _
    refine VC.unroll ?_
    refine VC.seq ?_
    refine VC.text ?_
    refine VO.c (.lss) ?_
    refine VO.go ?_
    refine VC.seq ?_
    refine VC.condF rfl ?_
    refine VC.exit ?_
    show VC _ _ _ _ _ _ _ _
    refine VC.seq ?_
    refine VC.text ?_
    refine VO.c (.move rfl) ?_
    refine VO.c (.assign rfl) ?_
    refine VO.go ?_
    refine VC.ret ?_
    exact VEnd.one rfl evT (pvI (by unfold atE; simp only [wid_D, ← g1, ← g2, ← g3, ← g4]; omega))
theorem sAt_ok {F : List (List Nat)} {p : Int × Int} (hF : OkF F) (hp : (0 ≤ p.1 ∧ p.1 ≤ 4 * ((F.length : Int) - 1)) ∧ (0 ≤ p.2 ∧ p.2 ≤ 4 * ((wid F : Int) - 1))) : VF Tryz.prog OA 137 [.v y101 F, .v y121 p] (I (atE F p)) := by
  refine VF.enter Tryz.func137 rfl (fun _ _ => rfl) rfl ?_
  show VC _ _ _ _ _ [(0, .v y101 F), (1, .v y121 p)] [] _
  have hq1 : p.1.tdiv 4 = (((p.1 / 4).toNat : Nat) : Int) := by rw [Int.tdiv_eq_ediv_of_nonneg hp.1.1]; omega
  have hq2 : p.2.tdiv 4 = (((p.2 / 4).toNat : Nat) : Int) := by rw [Int.tdiv_eq_ediv_of_nonneg hp.2.1]; omega
  have hm1 : p.1.tmod 4 = p.1 % 4 := Int.tmod_eq_emod_of_nonneg hp.1.1
  have hm2 : p.2.tmod 4 = p.2 % 4 := Int.tmod_eq_emod_of_nonneg hp.2.1
  have hpos := hF.pos
  have htop := hF.top
  have hwp := hF.wpos
  have hwt := hF.wtop
  have e0 := wid_eq hpos
  have hr1 : (p.1 / 4).toNat < F.length := by omega
  have hr2 : min ((p.1 / 4).toNat + 1) (F.length - 1) < F.length := by omega
  have hw1 := hF.row _ (List.getElem_mem hr1)
  have hw2 := hF.row _ (List.getElem_mem hr2)
  have hc1 : (p.2 / 4).toNat < wid F := by omega
  have hc2 : min ((p.2 / 4).toNat + 1) (wid F - 1) < wid F := by omega
  have hn1 : min ((((p.1 / 4).toNat : Nat) : Int) + (1 : Int)) (((F.length : Nat) : Int) - (1 : Int)) = ((min ((p.1 / 4).toNat + 1) (F.length - 1) : Nat) : Int) := by omega
  have hn2 : min ((((p.2 / 4).toNat : Nat) : Int) + (1 : Int)) ((((F[0]).length : Nat) : Int) - (1 : Int)) = ((min ((p.2 / 4).toNat + 1) (wid F - 1) : Nat) : Int) := by omega
  refine VC.seq ?_
  refine VC.text ?_
  refine VO.new (.box) ?_
  refine VO.c (.assign rfl) ?_
  refine VO.go ?_
  refine VC.seq ?_
  refine VC.drawn ?_
  refine VD.c (.fa (.l .o)) ?_
  refine VD.r [] (.ld vt3) (.inl rfl) ?_
  refine VD.c (.quo rfl rfl (by decide) (by omega)) ?_
  refine VD.c (.fa (.r .o)) ?_
  refine VD.r [] (.ld vt3) (.inl rfl) ?_
  refine VD.c (.quo rfl rfl (by decide) (by omega)) ?_
  refine VD.nw [] ?_
  refine VD.c (.fa (.l .o)) ?_
  refine VD.r [] (.ld vt3) (.inl rfl) ?_
  refine VD.c (.rem rfl rfl (by decide)) ?_
  refine VD.c (.fa (.r .o)) ?_
  refine VD.r [] (.ld vt3) (.inl rfl) ?_
  refine VD.c (.rem rfl rfl (by decide)) ?_
  refine VD.c (.assign rfl) ?_
  refine VD.nw [] ?_
  refine VD.c (.assign rfl) ?_
  refine VD.c (.assign rfl) ?_
  refine VD.c (.assign rfl) ?_
  rw [hq1, hq2, hm1, hm2]
  refine VD.go ?_
  refine VC.seq ?_
  refine VC.drawn ?_
  refine VD.c (.move rfl) ?_
  refine VD.c (.add rfl rfl (by omega)) ?_
  refine VD.c (.move rfl) ?_
  refine VD.r [] (.len el101) (.inl rfl) ?_
  refine VD.c (.sub rfl rfl (by omega)) ?_
  refine VD.r [] (.min) (.inl rfl) ?_
  refine VD.nw [] ?_
  refine VD.c (.move rfl) ?_
  refine VD.c (.add rfl rfl (by omega)) ?_
  refine VD.c (.move rfl) ?_
  refine VD.c (.ix (j := 0) rfl rfl el101 (by omega)) ?_
  refine VD.r [] (.ld vt124) (.inl rfl) ?_
  refine VD.r [] (.len el124) (.inl rfl) ?_
  refine VD.c (.sub rfl rfl (by omega)) ?_
  refine VD.nw [] ?_
  refine VD.r [] (.min) (.inl rfl) ?_
  refine VD.c (.assign rfl) ?_
  refine VD.c (.assign rfl) ?_
  rw [hn1, hn2]
  refine VD.go ?_
  refine VC.seq ?_
  refine VC.keep [(0, .v y101 F), (5, I (((p.1 / 4).toNat : Nat) : Int)), (6, I (((p.2 / 4).toNat : Nat) : Int)), (7, I (p.1 % 4)), (8, I (p.2 % 4)), (9, I (((min ((p.1 / 4).toNat + 1) (F.length - 1)) : Nat) : Int)), (10, I (((min ((p.2 / 4).toNat + 1) (wid F - 1)) : Nat) : Int))] ⟨rfl, rfl, rfl, rfl, rfl, rfl, rfl, trivial⟩ ?_
  refine VC.drawn ?_
  refine VD.c (.move rfl) ?_
  refine VD.c (.move rfl) ?_
  refine VD.c (.ix (j := ((p.1 / 4).toNat)) rfl rfl el101 (by omega)) ?_
  refine VD.r [] (.ld vt124) (.inl rfl) ?_
  refine VD.c (.move rfl) ?_
  refine VD.c (.ix (j := ((p.2 / 4).toNat)) rfl rfl el124 (by omega)) ?_
  refine VD.nw [] ?_
  refine VD.r [] (.ld vt127) (.inl rfl) ?_
  refine VD.call rfl rfl (VF.call (sSix_ok (lv_get hF hr1 (by omega)))) ?_
  refine VD.c (.move rfl) ?_
  refine VD.c (.move rfl) ?_
  refine VD.c (.ix (j := ((p.1 / 4).toNat)) rfl rfl el101 (by omega)) ?_
  refine VD.r [] (.ld vt124) (.inl rfl) ?_
  refine VD.c (.move rfl) ?_
  refine VD.nw [] ?_
  refine VD.c (.ix (j := (min ((p.2 / 4).toNat + 1) (wid F - 1))) rfl rfl el124 (by omega)) ?_
  refine VD.r [] (.ld vt127) (.inl rfl) ?_
  refine VD.call rfl rfl (VF.call (sSix_ok (lv_get hF hr1 (by omega)))) ?_
  refine VD.c (.move rfl) ?_
  refine VD.c (.move rfl) ?_
  refine VD.c (.ix (j := (min ((p.1 / 4).toNat + 1) (F.length - 1))) rfl rfl el101 (by omega)) ?_
  refine VD.r [] (.ld vt124) (.inl rfl) ?_
  refine VD.nw [] ?_
  refine VD.c (.move rfl) ?_
  refine VD.c (.ix (j := ((p.2 / 4).toNat)) rfl rfl el124 (by omega)) ?_
  refine VD.r [] (.ld vt127) (.inl rfl) ?_
  refine VD.call rfl rfl (VF.call (sSix_ok (lv_get hF hr2 (by omega)))) ?_
  refine VD.c (.move rfl) ?_
  refine VD.c (.move rfl) ?_
  refine VD.c (.ix (j := (min ((p.1 / 4).toNat + 1) (F.length - 1))) rfl rfl el101 (by omega)) ?_
  refine VD.nw [] ?_
  refine VD.r [] (.ld vt124) (.inl rfl) ?_
  refine VD.c (.move rfl) ?_
  refine VD.c (.ix (j := (min ((p.2 / 4).toNat + 1) (wid F - 1))) rfl rfl el124 (by omega)) ?_
  refine VD.r [] (.ld vt127) (.inl rfl) ?_
  refine VD.call rfl rfl (VF.call (sSix_ok (lv_get hF hr2 (by omega)))) ?_
  refine VD.c (.build (sxE ((F[((p.1 / 4).toNat)])[((p.2 / 4).toNat)]), sxE ((F[((p.1 / 4).toNat)])[(min ((p.2 / 4).toNat + 1) (wid F - 1))]), sxE ((F[(min ((p.1 / 4).toNat + 1) (F.length - 1))])[((p.2 / 4).toNat)]), sxE ((F[(min ((p.1 / 4).toNat + 1) (F.length - 1))])[(min ((p.2 / 4).toNat + 1) (wid F - 1))])) bt255) ?_
  refine VD.cell (.alloc zt255) ?_
  intro ww2
  refine VD.nw [11] ?_
  refine VD.mk0 (MakeV.setF (k := 0) vt255 .v (by decide) (.inr ⟨rfl, rfl⟩) rfl rfl) ?_
  rintro _ _ tl3 ⟨rfl, rfl⟩
  refine VD.go ?_
  refine VC.keep [(7, I (p.1 % 4)), (8, I (p.2 % 4)), (11, .raw ww2)] ⟨rfl, rfl, rfl, trivial⟩ ?_
  exact sAt_ok_c4 (F := F) (p := p) hF hr1 hr2 hw1 hw2 hc1 hc2
end Go.Proofs
namespace Go.Proofs
open Go.Fs Ieee
set_option linter.unusedVariables false
theorem vt117 : ValT Tryz.prog 117 y117 := valT_of (by kernel_rfl)
theorem vt121 : ValT Tryz.prog 121 y121 := valT_of (by kernel_rfl)
def rowS (F : List (List Nat)) (p : Int × Int) (r c : Nat) : Int := sumR c fun k => wtE p.1 r * wtE p.2 k * sxF F r k
def colS (F : List (List Nat)) (p : Int × Int) (r : Nat) : Int := sumR r fun i => rowS F p i (F.getD i []).length
theorem sumF_col {F : List (List Nat)} {p : Int × Int} : sumF F p = colS F p F.length := rfl
theorem abs_pos (n : Int) : 0 ≤ absI n := by unfold absI; split <;> omega
theorem wt_range (p : Int) (r : Nat) : 0 ≤ wtE p r ∧ wtE p r ≤ 4 := by
  have := abs_pos (p - 4 * (r : Int))
  unfold wtE; split <;> omega
theorem wt_in {p : Int} {r : Nat} (h : absI (p - 4 * (r : Int)) < 4) : wtE p r = 4 - absI (p - 4 * (r : Int)) := by
  unfold wtE; rw [if_pos h]
theorem len_D {F : List (List Nat)} {r : Nat} (hr : r < F.length) : (F.getD r []).length = F[r].length := by
  rw [List.getD_eq_getElem?_getD, List.getElem?_eq_getElem hr, Option.getD_some]
theorem term_b {F : List (List Nat)} (hF : OkF F) {p : Int × Int} {r c : Nat} (hr : r < F.length) (hc : c < F[r].length) : -16384 ≤ wtE p.1 r * wtE p.2 c * sxF F r c ∧ wtE p.1 r * wtE p.2 c * sxF F r c ≤ 16384 := by
  rw [← sxF_get hr hc]
  exact wprod (wt_range _ _) (wt_range _ _) (sx_bound hF hr hc)
theorem rowS_b {F : List (List Nat)} (hF : OkF F) {p : Int × Int} {r : Nat} (hr : r < F.length) : ∀ {c : Nat}, c ≤ F[r].length → -(16384 * (c : Int)) ≤ rowS F p r c ∧ rowS F p r c ≤ 16384 * (c : Int)
  | 0, _ => by simp [rowS, sumR]
  | c + 1, h => by
    have h1 := rowS_b hF (p := p) hr (c := c) (by omega)
    have h2 := term_b hF (p := p) hr (c := c) (by omega)
    have h3 : rowS F p r (c + 1) = rowS F p r c + wtE p.1 r * wtE p.2 c * sxF F r c := rfl
    rw [h3]; omega
theorem colS_b {F : List (List Nat)} (hF : OkF F) {p : Int × Int} : ∀ {r : Nat}, r ≤ F.length → -(131072 * (r : Int)) ≤ colS F p r ∧ colS F p r ≤ 131072 * (r : Int)
  | 0, _ => by simp [colS, sumR]
  | r + 1, h => by
    have h1 := colS_b hF (p := p) (r := r) (by omega)
    have hr : r < F.length := by omega
    have h2 := rowS_b hF (p := p) hr (Nat.le_refl _)
    have h3 : colS F p (r + 1) = colS F p r + rowS F p r (F.getD r []).length := rfl
    have h4 := hF.row _ (List.getElem_mem hr)
    have h5 := hF.wtop
    rw [h3, len_D hr]; omega
theorem wt_out {p : Int × Int} {r c : Nat} {s : Int} (h : ¬ (absI (p.1 - 4 * (r : Int)) < 4 ∧ absI (p.2 - 4 * (c : Int)) < 4)) : wtE p.1 r * wtE p.2 c * s = 0 := by
  by_cases h1 : absI (p.1 - 4 * (r : Int)) < 4
  · rw [wt_far (p := p.2) (r := c) (by omega), Int.mul_zero, Int.zero_mul]
  · rw [wt_far (p := p.1) (r := r) (by omega), Int.zero_mul, Int.zero_mul]
theorem rAt_ok {F : List (List Nat)} {p : Int × Int} (hF : OkF F) (hp : (0 ≤ p.1 ∧ p.1 ≤ 4 * ((F.length : Int) - 1)) ∧ (0 ≤ p.2 ∧ p.2 ≤ 4 * ((wid F : Int) - 1))) : VF Tryz.prog OA 66 [.v y101 F, .v y117 p] (I (atE F p)) := by
  refine VF.enter Tryz.func66 rfl (fun _ _ => rfl) rfl ?_
  show VC _ _ _ _ _ [(0, .v y101 F), (1, .v y117 p)] [] _
  have hpos := hF.pos
  have htop := hF.top
  have hwp := hF.wpos
  have hwt := hF.wtop
  refine VC.seq ?_
  refine VC.text ?_
  refine VO.new (.box) ?_
  refine VO.c (.assign rfl) ?_
  refine VO.go ?_
  refine VC.seq ?_
  refine VC.text ?_
  refine VO.c (.assign rfl) ?_
  refine VO.go ?_
  refine VC.seq ?_
  refine VC.seq ?_
  refine VC.text ?_
  refine VO.c (.assign rfl) ?_
  refine VO.go ?_
  refine VC.block ?_
  refine VC.keep [(0, .v y101 F), (3, .p y117 p), (5, I (colS F p 0)), (6, I ((0 : Nat) : Int))] ⟨rfl, rfl, slI rfl (by rfl), rfl, trivial⟩ ?_
  refine VC.loop (I := fun kk ff ss => ∃ (r : Nat), kk = F.length - r ∧ ff = [(0, .v y101 F), (3, .p y117 p), (5, I (colS F p r)), (6, I ((r : Nat) : Int))] ∧ ss = [] ∧ (r ≤ F.length)) ?_ _ _ _ ⟨0, rfl, rfl, rfl, Nat.zero_le _⟩
  rintro kk ff ss ⟨r, hk0, rfl, rfl, hr⟩
  refine VC.seq ?_
  refine VC.seq ?_
  refine VC.text ?_
  refine VO.c (.move rfl) ?_
  refine VO.c (.move rfl) ?_
  refine VO.r (.len el101) ?_
  refine VO.c (.lss) ?_
  refine VO.go ?_
  refine VC.condD rfl (fun c3 => ?_) (fun c3 => ?_)
  · refine VC.skip ?_
    show VC _ _ _ _ _ _ _ _
    refine VC.seq ?_
    refine VC.block ?_
    refine VC.seq ?_
    refine VC.text ?_
    have hrr : r < F.length := by omega
    have hw := hF.row _ (List.getElem_mem hrr)
    refine VO.c (.assign rfl) ?_
    refine VO.go ?_
    refine VC.block ?_
    refine VC.keep [(0, .v y101 F), (3, .p y117 p), (5, I (colS F p r + rowS F p r 0)), (6, I ((r : Nat) : Int)), (7, I ((0 : Nat) : Int))] ⟨rfl, rfl, slI rfl (by simp [rowS, sumR]), rfl, rfl, trivial⟩ ?_
    refine VC.loop (I := fun kk ff ss => ∃ (c : Nat), kk = F[r].length - c ∧ ff = [(0, .v y101 F), (3, .p y117 p), (5, I (colS F p r + rowS F p r c)), (6, I ((r : Nat) : Int)), (7, I ((c : Nat) : Int))] ∧ ss = [] ∧ (c ≤ F[r].length)) ?_ _ _ _ ⟨0, rfl, rfl, rfl, (by omega)⟩
    rintro kk ff ss ⟨c, hk2, rfl, rfl, hc⟩
    refine VC.seq ?_
    refine VC.seq ?_
    refine VC.text ?_
    refine VO.c (.move rfl) ?_
    refine VO.c (.move rfl) ?_
    refine VO.c (.move rfl) ?_
    refine VO.c (.ix (j := r) rfl rfl el101 (by omega)) ?_
    refine VO.r (.ld vt124) ?_
    refine VO.r (.len el124) ?_
    refine VO.c (.lss) ?_
    refine VO.go ?_
    refine VC.condD rfl (fun c6 => ?_) (fun c6 => ?_)
    · refine VC.skip ?_
      show VC _ _ _ _ _ _ _ _
      refine VC.seq ?_
      refine VC.block ?_
      refine VC.seq ?_
      refine VC.drawn ?_
      have hcc : c < F[r].length := by omega
      refine VD.c (.fa (.l .o)) ?_
      refine VD.r [] (.ld vt3) (.inl rfl) ?_
      refine VD.c (.move rfl) ?_
      refine VD.c (.mul rfl rfl (by omega)) ?_
      refine VD.c (.sub rfl rfl (by omega)) ?_
      refine VD.c (.fa (.r .o)) ?_
      refine VD.nw [] ?_
      refine VD.r [] (.ld vt3) (.inl rfl) ?_
      refine VD.c (.move rfl) ?_
      refine VD.c (.mul rfl rfl (by omega)) ?_
      refine VD.c (.sub rfl rfl (by omega)) ?_
      refine VD.c (.assign rfl) ?_
      refine VD.c (.assign rfl) ?_
      refine VD.go ?_
      refine VC.seq ?_
      refine VC.seq ?_
      refine VC.text ?_
      refine VO.c (.move rfl) ?_
      refine VO.c (.lss) ?_
      refine VO.go ?_
      refine VC.join [(0, .v y101 F), (3, .p y117 p), (5, I (colS F p r + rowS F p r c)), (6, I ((r : Nat) : Int)), (7, I ((c : Nat) : Int)), (8, I (absI (p.1 - 4 * (r : Int)))), (9, I (p.2 - ((4 : Int) * ((c : Nat) : Int))))] [] ?_ ?_
      refine VC.condD rfl (fun c9 => ?_) (fun c9 => ?_)
      · refine VC.text ?_
        refine VO.c (.move rfl) ?_
        refine VO.c (.sub rfl rfl (by omega)) ?_
        refine VO.c (.assign rfl) ?_
        refine VO.nil ?_
        exact ⟨⟨rfl, rfl, rfl, rfl, rfl, slI rfl (by first | (unfold absI; rw [if_pos c9]) | (unfold absI; rw [if_neg c9])), rfl, trivial⟩, rfl⟩
      · refine VC.skip ?_
        exact ⟨⟨rfl, rfl, rfl, rfl, rfl, slI rfl (by first | (unfold absI; rw [if_pos c9]) | (unfold absI; rw [if_neg c9])), rfl, trivial⟩, rfl⟩
      show VC _ _ _ _ _ _ _ _
      refine VC.seq ?_
      refine VC.seq ?_
      refine VC.text ?_
      refine VO.c (.move rfl) ?_
      refine VO.c (.lss) ?_
      refine VO.go ?_
      refine VC.join [(0, .v y101 F), (3, .p y117 p), (5, I (colS F p r + rowS F p r c)), (6, I ((r : Nat) : Int)), (7, I ((c : Nat) : Int)), (8, I (absI (p.1 - 4 * (r : Int)))), (9, I (absI (p.2 - 4 * (c : Int))))] [] ?_ ?_
      refine VC.condD rfl (fun c11 => ?_) (fun c11 => ?_)
      · refine VC.text ?_
        refine VO.c (.move rfl) ?_
        refine VO.c (.sub rfl rfl (by omega)) ?_
        refine VO.c (.assign rfl) ?_
        refine VO.nil ?_
        exact ⟨⟨rfl, rfl, rfl, rfl, rfl, rfl, slI rfl (by first | (unfold absI; rw [if_pos c11]) | (unfold absI; rw [if_neg c11])), trivial⟩, rfl⟩
      · refine VC.skip ?_
        exact ⟨⟨rfl, rfl, rfl, rfl, rfl, rfl, slI rfl (by first | (unfold absI; rw [if_pos c11]) | (unfold absI; rw [if_neg c11])), trivial⟩, rfl⟩
      show VC _ _ _ _ _ _ _ _
      refine VC.seq ?_
      refine VC.text ?_
      refine VO.c (.move rfl) ?_
      refine VO.c (.lss) ?_
      refine VO.c (.move rfl) ?_
      refine VO.cg (r := decide (absI (p.1 - 4 * (r : Int)) < (4 : Int))) (w := true) [] trivial (fun hgd => have g13_2 : absI (p.1 - 4 * (r : Int)) < (4 : Int) := (by simpa using hgd); (.move rfl)) ?_
      refine VO.cg (r := decide (absI (p.1 - 4 * (r : Int)) < (4 : Int))) (w := true) [(46, I (absI (p.2 - 4 * (c : Int))))] ⟨rfl, trivial⟩ (fun hgd => have g13_2 : absI (p.1 - 4 * (r : Int)) < (4 : Int) := (by simpa using hgd); (.lss)) ?_
      refine VO.c (.and) ?_
      refine VO.go ?_
      refine VC.condB rfl (fun c13 => ?_) (fun c13 => ?_)
      · try simp only [Bool.and_eq_true, Bool.or_eq_true, Bool.and_eq_false_iff, Bool.or_eq_false_iff, Bool.not_eq_true', Bool.not_eq_false', decide_eq_true_eq, decide_eq_false_iff_not] at c13
        refine VC.text ?_
        have ha1 := abs_pos (p.1 - 4 * (r : Int))
        have ha2 := abs_pos (p.2 - 4 * (c : Int))
        have hb1 := rowS_b hF (p := p) hrr (c := c) (by omega)
        have hb2 := colS_b hF (p := p) (r := r) (by omega)
        have k1 := sx_bound hF hrr hcc
        have q1 := wprod (show 0 ≤ 4 - absI (p.1 - 4 * (r : Int)) ∧ 4 - absI (p.1 - 4 * (r : Int)) ≤ 4 by omega) (show 0 ≤ 4 - absI (p.2 - 4 * (c : Int)) ∧ 4 - absI (p.2 - 4 * (c : Int)) ≤ 4 by omega) k1
        refine VO.c (.move rfl) ?_
        refine VO.c (.move rfl) ?_
        refine VO.c (.sub rfl rfl (by omega)) ?_
        refine VO.c (.move rfl) ?_
        refine VO.c (.sub rfl rfl (by omega)) ?_
        refine VO.c (.mul rfl rfl (by exact wfit (by omega) (by omega))) ?_
        refine VO.c (.move rfl) ?_
        refine VO.c (.move rfl) ?_
        refine VO.c (.ix (j := r) rfl rfl el101 (by omega)) ?_
        refine VO.r (.ld vt124) ?_
        refine VO.c (.move rfl) ?_
        refine VO.c (.ix (j := c) rfl rfl el124 (by omega)) ?_
        refine VO.r (.ld vt127) ?_
        refine VO.call rfl rfl (VF.call (rSix_ok (lv_get hF hrr hcc))) ?_
        refine VO.c (.mul rfl rfl (by exact pfit q1)) ?_
        refine VO.c (.add rfl rfl (by exact ⟨by omega, by omega⟩)) ?_
        refine VO.c (.assign rfl) ?_
        refine VO.nil ?_
        show VC _ _ _ _ _ _ _ _
        refine VC.keep [(0, .v y101 F), (3, .p y117 p), (5, I ((colS F p r + rowS F p r c) + ((((4 : Int) - absI (p.1 - 4 * (r : Int))) * ((4 : Int) - absI (p.2 - 4 * (c : Int)))) * sxE ((F[r])[c])))), (6, I ((r : Nat) : Int)), (7, I ((c : Nat) : Int))] ⟨rfl, rfl, rfl, rfl, rfl, trivial⟩ ?_
        refine VC.text ?_
        refine VO.c (.move rfl) ?_
        refine VO.c (.add rfl rfl (by omega)) ?_
        refine VO.c (.assign rfl) ?_
        refine VO.nil ?_
        refine ⟨_, [(0, .v y101 F), (3, .p y117 p), (5, I (colS F p r + rowS F p r (c + 1))), (6, I ((r : Nat) : Int)), (7, I (((c + 1) : Nat) : Int))], ?_, ⟨rfl, rfl, slI rfl (by first | (rw [Int.add_assoc]; congr 1; show rowS F p r c + _ = rowS F p r c + wtE p.1 r * wtE p.2 c * sxF F r c; congr 1; rw [wt_in c13.1, wt_in c13.2, sxF_get hrr hcc]) | (congr 1; show rowS F p r c = rowS F p r c + wtE p.1 r * wtE p.2 c * sxF F r c; rw [wt_out (by omega), Int.add_zero])), rfl, rfl, trivial⟩, (c + 1), rfl, rfl, rfl, (by omega)⟩
        omega
      · try simp only [Bool.and_eq_true, Bool.or_eq_true, Bool.and_eq_false_iff, Bool.or_eq_false_iff, Bool.not_eq_true', Bool.not_eq_false', decide_eq_true_eq, decide_eq_false_iff_not] at c13
        refine VC.skip ?_
        show VC _ _ _ _ _ _ _ _
        refine VC.text ?_
        refine VO.c (.move rfl) ?_
        refine VO.c (.add rfl rfl (by omega)) ?_
        refine VO.c (.assign rfl) ?_
        refine VO.nil ?_
        refine ⟨_, [(0, .v y101 F), (3, .p y117 p), (5, I (colS F p r + rowS F p r (c + 1))), (6, I ((r : Nat) : Int)), (7, I (((c + 1) : Nat) : Int))], ?_, ⟨rfl, rfl, slI rfl (by first | (rw [Int.add_assoc]; congr 1; show rowS F p r c + _ = rowS F p r c + wtE p.1 r * wtE p.2 c * sxF F r c; congr 1; rw [wt_in c13.1, wt_in c13.2, sxF_get hrr hcc]) | (congr 1; show rowS F p r c = rowS F p r c + wtE p.1 r * wtE p.2 c * sxF F r c; rw [wt_out (by omega), Int.add_zero])), rfl, rfl, trivial⟩, (c + 1), rfl, rfl, rfl, (by omega)⟩
        omega
    · refine VC.exit ?_
      show VC _ _ _ _ _ _ _ _
      refine VC.text ?_
      refine VO.c (.move rfl) ?_
      refine VO.c (.add rfl rfl (by omega)) ?_
      refine VO.c (.assign rfl) ?_
      refine VO.nil ?_
      refine ⟨_, [(0, .v y101 F), (3, .p y117 p), (5, I (colS F p (r + 1))), (6, I (((r + 1) : Nat) : Int))], ?_, ⟨rfl, rfl, slI rfl (by show colS F p r + rowS F p r c = colS F p r + rowS F p r (F.getD r []).length; rw [len_D (by omega), show c = F[r].length by omega]), rfl, trivial⟩, (r + 1), rfl, rfl, rfl, (by omega)⟩
      omega
  · refine VC.exit ?_
    show VC _ _ _ _ _ _ _ _
    refine VC.seq ?_
    refine VC.text ?_
    refine VO.c (.move rfl) ?_
    refine VO.c (.assign rfl) ?_
    refine VO.go ?_
    refine VC.ret ?_
    exact VEnd.one rfl evT (pvI (by rw [← sum_at (F := F) (p := p) (fun l m => by rw [wid_D]; exact hF.row l m) hp.1 (by rw [wid_D]; exact hp.2), sumF_col, show F.length = r by omega]))
def shortFE (F : List (List Nat)) : Bool := decide (F.length ≤ 9 ∧ ∀ r ∈ F, r.length ≤ 9)
theorem lShort_ok {l : List (List Nat)} (hl : l.length ≤ 9223372036854775807) : VF Tryz.prog OA 61 [.v y101 l] (B (shortFE l)) := by
  refine VF.enter Tryz.func61 rfl (fun _ _ => rfl) rfl ?_
  show VC _ _ _ _ _ [(0, .v y101 l)] [] _
  refine VC.seq ?_
  refine VC.text ?_
  refine VO.c (.assign rfl) ?_
  refine VO.go ?_
  refine VC.seq ?_
  refine VC.seq ?_
  refine VC.text ?_
  refine VO.c (.move rfl) ?_
  refine VO.r (.len el101) ?_
  refine VO.c (.move rfl) ?_
  refine VO.go ?_
  refine VC.block ?_
  refine VC.keep [(0, .v y101 l), (5, .v y101 l), (6, I ((l.length : Nat) : Int)), (7, I ((0 : Nat) : Int))] ⟨rfl, rfl, rfl, rfl, trivial⟩ ?_
  refine VC.loop (I := fun kk ff ss => ∃ (j : Nat), kk = l.length - j ∧ ff = [(0, .v y101 l), (5, .v y101 l), (6, I ((l.length : Nat) : Int)), (7, I ((j : Nat) : Int))] ∧ ss = [] ∧ (j ≤ l.length) ∧ (∀ r ∈ l.take j, r.length ≤ 9)) ?_ _ _ _ ⟨0, rfl, rfl, rfl, Nat.zero_le _, (by simp)⟩
  rintro kk ff ss ⟨j, hk0, rfl, rfl, hj, hf⟩
  refine VC.seq ?_
  refine VC.text ?_
  refine VO.c (.lss) ?_
  refine VO.go ?_
  refine VC.seq ?_
  refine VC.condD rfl (fun c2 => ?_) (fun c2 => ?_)
  · refine VC.skip ?_
    show VC _ _ _ _ _ _ _ _
    refine VC.seq ?_
    refine VC.block ?_
    refine VC.seq ?_
    refine VC.text ?_
    refine VO.c (.ix (j := j) rfl rfl el101 (by omega)) ?_
    refine VO.r (.ld vt124) ?_
    refine VO.c (.assign rfl) ?_
    refine VO.go ?_
    refine VC.seq ?_
    refine VC.text ?_
    refine VO.c (.move rfl) ?_
    refine VO.r (.len el124) ?_
    refine VO.c (.gtr) ?_
    refine VO.go ?_
    refine VC.condD rfl (fun c4 => ?_) (fun c4 => ?_)
    · refine VC.seq ?_
      refine VC.text ?_
      refine VO.c (.assign rfl) ?_
      refine VO.go ?_
      refine VC.ret ?_
      exact VEnd.one rfl evT (pvE (by refine (decide_eq_false fun h => ?_).symm; have h1 := h.2 _ (List.getElem_mem (show j < l.length by omega)); omega))
    · refine VC.skip ?_
      show VC _ _ _ _ _ _ _ _
      refine VC.text ?_
      refine VO.c (.add rfl rfl (by omega)) ?_
      refine VO.c (.move rfl) ?_
      refine VO.nil ?_
      refine ⟨_, [(0, .v y101 l), (5, .v y101 l), (6, I ((l.length : Nat) : Int)), (7, I (((j + 1) : Nat) : Int))], ?_, ⟨rfl, rfl, rfl, rfl, trivial⟩, (j + 1), rfl, rfl, rfl, (by omega), (by exact all_take (by omega) hf (by omega))⟩
      omega
  · refine VC.exit ?_
    show VC _ _ _ _ _ _ _ _
    refine VC.seq ?_
    refine VC.text ?_
    refine VO.c (.move rfl) ?_
    refine VO.r (.len el101) ?_
    refine VO.c (.leq) ?_
    refine VO.c (.assign rfl) ?_
    refine VO.go ?_
    refine VC.ret ?_
    exact VEnd.one rfl evT (pvE (by rw [List.take_of_length_le (by omega)] at hf; unfold shortFE; refine decide_eq_decide.2 ⟨fun h => ⟨by omega, hf⟩, fun h => by omega⟩))
theorem lRows_ok {l : List (List Nat)} (hl : l.length < 100000) (hr : ∀ r ∈ l, r.length < 100000) : VF Tryz.prog OA 63 [.v y101 l] (.v y101 l) := by
  refine VF.enter Tryz.func63 rfl (fun _ _ => rfl) rfl ?_
  show VC _ _ _ _ _ [(0, .v y101 l)] [] _
  refine VC.seq ?_
  refine VC.text ?_
  refine VO.c (.assign rfl) ?_
  refine VO.go ?_
  refine VC.seq ?_
  refine VC.text ?_
  refine VO.c (.assign rfl) ?_
  refine VO.go ?_
  refine VC.seq ?_
  refine VC.seq ?_
  refine VC.text ?_
  refine VO.c (.move rfl) ?_
  refine VO.r (.len el101) ?_
  refine VO.c (.move rfl) ?_
  refine VO.go ?_
  refine VC.block ?_
  refine VC.cell0 124 y124 ?_
  refine VC.keep [(3, .raw (.slice none 0 0)), (6, .v y101 l), (7, I ((l.length : Nat) : Int)), (8, I ((0 : Nat) : Int))] ⟨rfl, rfl, rfl, rfl, trivial⟩ ?_
  refine VC.loop (I := fun kk ff ss => ∃ (j : Nat) (out : Value), kk = l.length - j ∧ ff = [(3, .raw out), (6, .v y101 l), (7, I ((l.length : Nat) : Int)), (8, I ((j : Nat) : Int))] ∧ ss = [(out, .row 124 y124 (l.take j))] ∧ (j ≤ l.length)) ?_ _ _ _ ⟨0, (.slice none 0 0), rfl, rfl, rfl, Nat.zero_le _⟩
  rintro kk ff ss ⟨j, out, hk0, rfl, rfl, hj⟩
  refine VC.seq ?_
  refine VC.text ?_
  refine VO.c (.lss) ?_
  refine VO.go ?_
  refine VC.seq ?_
  refine VC.condD rfl (fun c3 => ?_) (fun c3 => ?_)
  · refine VC.skip ?_
    show VC _ _ _ _ _ _ _ _
    refine VC.seq ?_
    refine VC.block ?_
    refine VC.seq ?_
    refine VC.text ?_
    have hlj := hr _ (List.getElem_mem (show j < l.length by omega))
    refine VO.c (.ix (j := j) rfl rfl el101 (by omega)) ?_
    refine VO.r (.ld vt124) ?_
    refine VO.c (.assign rfl) ?_
    refine VO.go ?_
    refine VC.text ?_
    refine VO.c (.move rfl) ?_
    refine VO.cell (.lit0 el124) ?_
    intro ww1
    refine VO.c (.move rfl) ?_
    refine VO.app rfl rfl el124 el124 (by simp; omega) ?_
    intro ww2
    refine VO.shut [(15, .v y124 (l[j]))] (.cons rfl (.row m0) .nil) ?_
    refine VO.new (.lit [l[j]] el101) ?_
    refine VO.app rfl rfl el101 el101 (by simp; omega) ?_
    intro ww3
    refine VO.c (.assign rfl) ?_
    refine VO.nil ?_
    show VC _ _ _ _ _ _ _ _
    refine VC.text ?_
    refine VO.c (.add rfl rfl (by omega)) ?_
    refine VO.c (.move rfl) ?_
    refine VO.nil ?_
    refine ⟨_, [(3, .raw ww3), (6, .v y101 l), (7, I ((l.length : Nat) : Int)), (8, I (((j + 1) : Nat) : Int))], ?_, ⟨rfl, rfl, rfl, rfl, trivial⟩, (j + 1), ww3, rfl, rfl, (by rw [List.take_succ_eq_append_getElem (by omega)] <;> rfl), (by omega)⟩
    omega
  · refine VC.exit ?_
    show VC _ _ _ _ _ _ _ _
    refine VC.seq ?_
    refine VC.text ?_
    refine VO.c (.move rfl) ?_
    refine VO.c (.assign rfl) ?_
    refine VO.go ?_
    refine VC.ret ?_
    exact VEnd.one rfl (evC (.row m0)) (pvE (by rw [List.take_of_length_le (by omega)]))
def atB (F : List (List Nat)) (p : Int × Int) : Int := if fieldE F ≠ 0 then fieldE F else placeE p F.length (wid F)
def atR (F : List (List Nat)) (p : Int × Int) : Int := if atB F p = 0 then atE F p else 0
theorem atB_t {F : List (List Nat)} {p : Int × Int} (h : fieldE F ≠ 0) : atB F p = fieldE F := if_pos h
theorem atB_f {F : List (List Nat)} {p : Int × Int} (h : fieldE F = 0) : atB F p = placeE p F.length (wid F) := if_neg (by simpa using h)
theorem sAtP_ok {F : List (List Nat)} {p : Int × Int} (hl : F.length < 100000) (hr : ∀ r ∈ F, r.length < 100000) : VF Tryz.prog OA 62 [.v y101 F, .v y121 p] (.tup [I (atR F p), I (atB F p)]) := by
  refine VF.enter Tryz.func62 rfl (fun _ _ => rfl) rfl ?_
  show VC _ _ _ _ _ [(0, .v y101 F), (1, .v y121 p)] [] _
  refine VC.seq ?_
  refine VC.text ?_
  refine VO.new (.box) ?_
  refine VO.c (.assign rfl) ?_
  refine VO.c (.assign rfl) ?_
  refine VO.go ?_
  refine VC.seq ?_
  refine VC.seq ?_
  refine VC.text ?_
  refine VO.c (.move rfl) ?_
  refine VO.call rfl rfl (VF.call (sField_ok hl hr)) ?_
  refine VO.c (.assign rfl) ?_
  refine VO.go ?_
  refine VC.seq ?_
  refine VC.text ?_
  refine VO.c (.move rfl) ?_
  refine VO.c (.neq) ?_
  refine VO.go ?_
  refine VC.condD rfl (fun c2 => ?_) (fun c2 => ?_)
  · refine VC.seq ?_
    refine VC.text ?_
    refine VO.c (.move rfl) ?_
    refine VO.c (.assign rfl) ?_
    refine VO.c (.assign rfl) ?_
    refine VO.go ?_
    refine VC.ret ?_
    exact VEnd.two rfl evT evT (pvI (by unfold atR; rw [atB_t c2, if_neg c2])) (pvI (by exact (atB_t c2).symm))
  · have h0 : fieldE F = 0 := Decidable.not_not.1 c2
    have hF := fieldE_ok h0
    have hpos := hF.pos
    have htop := hF.top
    have hwp := hF.wpos
    have hwt := hF.wtop
    have e0 := wid_eq hpos
    refine VC.skip ?_
    show VC _ _ _ _ _ _ _ _
    refine VC.seq ?_
    refine VC.seq ?_
    refine VC.drawn ?_
    refine VD.r [] (.ld vt121) (.inl rfl) ?_
    refine VD.c (.move rfl) ?_
    refine VD.r [] (.len el101) (.inl rfl) ?_
    refine VD.c (.move rfl) ?_
    refine VD.c (.ix (j := 0) rfl rfl el101 (by omega)) ?_
    refine VD.r [] (.ld vt124) (.inl rfl) ?_
    refine VD.nw [] ?_
    refine VD.r [] (.len el124) (.inl rfl) ?_
    refine VD.call rfl rfl (VF.call (sPlace_ok (by omega) (by omega))) ?_
    refine VD.c (.assign rfl) ?_
    refine VD.go ?_
    refine VC.seq ?_
    refine VC.text ?_
    refine VO.c (.move rfl) ?_
    refine VO.c (.neq) ?_
    refine VO.go ?_
    refine VC.condD rfl (fun c5 => ?_) (fun c5 => ?_)
    · refine VC.seq ?_
      refine VC.text ?_
      refine VO.c (.move rfl) ?_
      refine VO.c (.assign rfl) ?_
      refine VO.c (.assign rfl) ?_
      refine VO.go ?_
      refine VC.ret ?_
      exact VEnd.two rfl evT evT (pvI (by unfold atR; rw [atB_f h0, if_neg (by rw [← e0]; exact c5)])) (pvI (by rw [atB_f h0, ← e0]))
    · refine VC.skip ?_
      show VC _ _ _ _ _ _ _ _
      refine VC.seq ?_
      refine VC.text ?_
      refine VO.c (.move rfl) ?_
      refine VO.r (.ld vt121) ?_
      refine VO.call rfl rfl (VF.call (sAt_ok hF (by have := placeE_ok (Decidable.not_not.1 c5); rw [e0] at this; exact this))) ?_
      refine VO.c (.assign rfl) ?_
      refine VO.c (.assign rfl) ?_
      refine VO.go ?_
      refine VC.ret ?_
      exact VEnd.two rfl evT evT (pvI (by unfold atR; rw [atB_f h0, if_pos (by rw [← e0]; exact Decidable.not_not.1 c5)])) (pvI (by rw [atB_f h0, ← e0]; exact (Decidable.not_not.1 c5).symm))
theorem place_fin {F : List (List Nat)} {p : Int × Int} {bad want : Int} (hb : atB F p = bad) (hw : bad = 0 → want = atE F p) : numberL (atR F p) (atB F p) bad want = true := by
  subst hb
  refine decide_eq_true ⟨rfl, ?_⟩
  unfold atR
  by_cases h : atB F p = 0
  · rw [if_pos h, if_pos h, hw h]
  · rw [if_neg h, if_neg h]
theorem law10_ok {F : List (List Nat)} {p : Int × Int} (hlen : F.length ≤ 9223372036854775807) : VF Tryz.prog OA 10 [.v y101 F, .v y117 p] (B true) := by
  refine VF.enter Tryz.func10 rfl (fun _ _ => rfl) rfl ?_
  show VC _ _ _ _ _ [(0, .v y101 F), (1, .v y117 p)] [] _
  refine VC.seq ?_
  refine VC.text ?_
  refine VO.new (.box) ?_
  refine VO.c (.assign rfl) ?_
  refine VO.go ?_
  refine VC.seq ?_
  refine VC.seq ?_
  refine VC.text ?_
  refine VO.c (.move rfl) ?_
  refine VO.call rfl rfl (VF.call (lShort_ok hlen)) ?_
  refine VO.c (.not) ?_
  refine VO.go ?_
  refine VC.condB rfl (fun c1 => ?_) (fun c1 => ?_)
  · try simp only [Bool.and_eq_true, Bool.or_eq_true, Bool.and_eq_false_iff, Bool.or_eq_false_iff, Bool.not_eq_true', Bool.not_eq_false', decide_eq_true_eq, decide_eq_false_iff_not] at c1
    refine VC.seq ?_
    refine VC.text ?_
    refine VO.call rfl rfl (VF.call (awake_ok )) ?_
    refine VO.c (.assign rfl) ?_
    refine VO.go ?_
    refine VC.ret ?_
    exact VEnd.one rfl evT (pvE (by first | rfl | exact absurd ((place_fin ((atB_f c5).trans (by rw [e0])) (fun _ => rfl)).symm.trans g9_5) (by decide) | exact absurd ((place_fin ((atB_f c5).trans (by rw [e0])) (fun h => absurd h c7)).symm.trans g9_5) (by decide) | exact absurd ((place_fin (atB_t c5) (fun h => absurd h c5)).symm.trans g9_5) (by decide)))
  · try simp only [Bool.and_eq_true, Bool.or_eq_true, Bool.and_eq_false_iff, Bool.or_eq_false_iff, Bool.not_eq_true', Bool.not_eq_false', decide_eq_true_eq, decide_eq_false_iff_not] at c1
    have hs : shortFE F = true := by simpa using c1
    have hs1 := of_decide_eq_true hs
    have hl := hs1.1
    have hr : ∀ r ∈ F, r.length < 100000 := fun r m => by have := hs1.2 r m; omega
    refine VC.skip ?_
    show VC _ _ _ _ _ _ _ _
    refine VC.seq ?_
    refine VC.drawn ?_
    refine VD.c (.move rfl) ?_
    refine VD.call rfl rfl (VF.call (lRows_ok (by omega) hr)) ?_
    refine VD.r [] (.ld vt117) (.inl rfl) ?_
    refine VD.callO rfl rfl (VF.call (sAtP_ok (by omega) hr)) ?_
    refine VD.c (.move rfl) ?_
    refine VD.c (.extract) ?_
    refine VD.nw [15] ?_
    refine VD.c (.extract) ?_
    refine VD.c (.assign rfl) ?_
    refine VD.c (.assign rfl) ?_
    refine VD.go ?_
    refine VC.seq ?_
    refine VC.text ?_
    refine VO.c (.move rfl) ?_
    refine VO.call rfl rfl (VF.call (rRows_ok (by omega) hr)) ?_
    refine VO.c (.assign rfl) ?_
    refine VO.c (.assign rfl) ?_
    refine VO.go ?_
    refine VC.seq ?_
    refine VC.seq ?_
    refine VC.text ?_
    refine VO.c (.move rfl) ?_
    refine VO.c (.eql) ?_
    refine VO.go ?_
    refine VC.condD rfl (fun c5 => ?_) (fun c5 => ?_)
    · have hF := fieldE_ok c5
      have hpos := hF.pos
      have htop := hF.top
      have hwp := hF.wpos
      have hwt := hF.wtop
      have e0 := wid_eq hpos
      refine VC.drawn ?_
      refine VD.r [] (.ld vt117) (.inl rfl) ?_
      refine VD.c (.move rfl) ?_
      refine VD.r [] (.len el101) (.inl rfl) ?_
      refine VD.c (.move rfl) ?_
      refine VD.c (.ix (j := 0) rfl rfl el101 (by omega)) ?_
      refine VD.r [] (.ld vt124) (.inl rfl) ?_
      refine VD.nw [] ?_
      refine VD.r [] (.len el124) (.inl rfl) ?_
      refine VD.call rfl rfl (VF.call (rPlace_ok (by omega) (by omega))) ?_
      refine VD.c (.assign rfl) ?_
      refine VD.go ?_
      refine VC.seq ?_
      refine VC.seq ?_
      refine VC.text ?_
      refine VO.c (.move rfl) ?_
      refine VO.c (.eql) ?_
      refine VO.go ?_
      refine VC.condD rfl (fun c7 => ?_) (fun c7 => ?_)
      · have hF := (by first | exact absurd c7 c5 | exact fieldE_ok c5 : OkF F)
        have hP := (by first | exact absurd c7 c5 | (rw [← e0]; exact placeE_ok c7) : (0 ≤ p.1 ∧ p.1 ≤ 4 * (((F.length : Nat) : Int) - 1)) ∧ (0 ≤ p.2 ∧ p.2 ≤ 4 * ((wid F : Int) - 1)))
        refine VC.keep [(0, .v y101 F), (3, .p y117 p), (5, I (atR F p)), (6, I (atB F p)), (7, I (placeE p ((F.length : Nat) : Int) (((F[0]).length : Nat) : Int)))] ⟨rfl, rfl, rfl, rfl, rfl, trivial⟩ ?_
        refine VC.text ?_
        refine VO.c (.move rfl) ?_
        refine VO.r (.ld vt117) ?_
        refine VO.call rfl rfl (VF.call (rAt_ok hF hP)) ?_
        refine VO.c (.assign rfl) ?_
        refine VO.go ?_
        refine VC.seq ?_
        refine VC.text ?_
        refine VO.c (.move rfl) ?_
        refine VO.c (.move rfl) ?_
        refine VO.c (.move rfl) ?_
        refine VO.c (.move rfl) ?_
        refine VO.call rfl rfl (VF.call (lNumber_ok )) ?_
        refine VO.c (.move rfl) ?_
        refine VO.splitB (x := 42) rfl (fun g9_5 => ?_) (fun g9_5 => ?_)
        · refine VO.call rfl rfl (VF.call (awake_ok )) ?_
          refine VO.c (.pickT rfl rfl) ?_
          refine VO.c (.assign rfl) ?_
          refine VO.go ?_
          refine VC.ret ?_
          exact VEnd.one rfl evT (pvE (by first | rfl | exact absurd ((place_fin ((atB_f c5).trans (by rw [e0])) (fun _ => rfl)).symm.trans g9_5) (by decide) | exact absurd ((place_fin ((atB_f c5).trans (by rw [e0])) (fun h => absurd h c7)).symm.trans g9_5) (by decide) | exact absurd ((place_fin (atB_t c5) (fun h => absurd h c5)).symm.trans g9_5) (by decide)))
        · refine VO.skip ?_
          refine VO.c (.pickF rfl rfl) ?_
          refine VO.c (.assign rfl) ?_
          refine VO.go ?_
          refine VC.ret ?_
          exact VEnd.one rfl evT (pvE (by first | rfl | exact absurd ((place_fin ((atB_f c5).trans (by rw [e0])) (fun _ => rfl)).symm.trans g9_5) (by decide) | exact absurd ((place_fin ((atB_f c5).trans (by rw [e0])) (fun h => absurd h c7)).symm.trans g9_5) (by decide) | exact absurd ((place_fin (atB_t c5) (fun h => absurd h c5)).symm.trans g9_5) (by decide)))
      · refine VC.skip ?_
        show VC _ _ _ _ _ _ _ _
        refine VC.seq ?_
        refine VC.keep [(5, I (atR F p)), (6, I (atB F p)), (7, I (placeE p ((F.length : Nat) : Int) (((F[0]).length : Nat) : Int))), (8, I (0 : Int))] ⟨rfl, rfl, rfl, rfl, trivial⟩ ?_
        refine VC.text ?_
        refine VO.c (.move rfl) ?_
        refine VO.c (.move rfl) ?_
        refine VO.c (.move rfl) ?_
        refine VO.c (.move rfl) ?_
        refine VO.call rfl rfl (VF.call (lNumber_ok )) ?_
        refine VO.c (.move rfl) ?_
        refine VO.splitB (x := 42) rfl (fun g9_5 => ?_) (fun g9_5 => ?_)
        · refine VO.call rfl rfl (VF.call (awake_ok )) ?_
          refine VO.c (.pickT rfl rfl) ?_
          refine VO.c (.assign rfl) ?_
          refine VO.go ?_
          refine VC.ret ?_
          exact VEnd.one rfl evT (pvE (by first | rfl | exact absurd ((place_fin ((atB_f c5).trans (by rw [e0])) (fun _ => rfl)).symm.trans g9_5) (by decide) | exact absurd ((place_fin ((atB_f c5).trans (by rw [e0])) (fun h => absurd h c7)).symm.trans g9_5) (by decide) | exact absurd ((place_fin (atB_t c5) (fun h => absurd h c5)).symm.trans g9_5) (by decide)))
        · refine VO.skip ?_
          refine VO.c (.pickF rfl rfl) ?_
          refine VO.c (.assign rfl) ?_
          refine VO.go ?_
          refine VC.ret ?_
          exact VEnd.one rfl evT (pvE (by first | rfl | exact absurd ((place_fin ((atB_f c5).trans (by rw [e0])) (fun _ => rfl)).symm.trans g9_5) (by decide) | exact absurd ((place_fin ((atB_f c5).trans (by rw [e0])) (fun h => absurd h c7)).symm.trans g9_5) (by decide) | exact absurd ((place_fin (atB_t c5) (fun h => absurd h c5)).symm.trans g9_5) (by decide)))
    · refine VC.skip ?_
      show VC _ _ _ _ _ _ _ _
      refine VC.seq ?_
      refine VC.seq ?_
      refine VC.text ?_
      refine VO.c (.move rfl) ?_
      refine VO.c (.eql) ?_
      refine VO.go ?_
      refine VC.condD rfl (fun c7 => ?_) (fun c7 => ?_)
      · have hF := (by first | exact absurd c7 c5 | exact fieldE_ok c5 : OkF F)
        have hP := (by first | exact absurd c7 c5 | (rw [← e0]; exact placeE_ok c7) : (0 ≤ p.1 ∧ p.1 ≤ 4 * (((F.length : Nat) : Int) - 1)) ∧ (0 ≤ p.2 ∧ p.2 ≤ 4 * ((wid F : Int) - 1)))
        refine VC.text ?_
        refine VO.c (.move rfl) ?_
        refine VO.r (.ld vt117) ?_
        refine VO.call rfl rfl (VF.call (rAt_ok hF hP)) ?_
        refine VO.c (.assign rfl) ?_
        refine VO.go ?_
        refine VC.seq ?_
        refine VC.text ?_
        refine VO.c (.move rfl) ?_
        refine VO.c (.move rfl) ?_
        refine VO.c (.move rfl) ?_
        refine VO.c (.move rfl) ?_
        refine VO.call rfl rfl (VF.call (lNumber_ok )) ?_
        refine VO.c (.move rfl) ?_
        refine VO.splitB (x := 42) rfl (fun g9_5 => ?_) (fun g9_5 => ?_)
        · refine VO.call rfl rfl (VF.call (awake_ok )) ?_
          refine VO.c (.pickT rfl rfl) ?_
          refine VO.c (.assign rfl) ?_
          refine VO.go ?_
          refine VC.ret ?_
          exact VEnd.one rfl evT (pvE (by first | rfl | exact absurd ((place_fin ((atB_f c5).trans (by rw [e0])) (fun _ => rfl)).symm.trans g9_5) (by decide) | exact absurd ((place_fin ((atB_f c5).trans (by rw [e0])) (fun h => absurd h c7)).symm.trans g9_5) (by decide) | exact absurd ((place_fin (atB_t c5) (fun h => absurd h c5)).symm.trans g9_5) (by decide)))
        · refine VO.skip ?_
          refine VO.c (.pickF rfl rfl) ?_
          refine VO.c (.assign rfl) ?_
          refine VO.go ?_
          refine VC.ret ?_
          exact VEnd.one rfl evT (pvE (by first | rfl | exact absurd ((place_fin ((atB_f c5).trans (by rw [e0])) (fun _ => rfl)).symm.trans g9_5) (by decide) | exact absurd ((place_fin ((atB_f c5).trans (by rw [e0])) (fun h => absurd h c7)).symm.trans g9_5) (by decide) | exact absurd ((place_fin (atB_t c5) (fun h => absurd h c5)).symm.trans g9_5) (by decide)))
      · refine VC.skip ?_
        show VC _ _ _ _ _ _ _ _
        refine VC.seq ?_
        refine VC.text ?_
        refine VO.c (.move rfl) ?_
        refine VO.c (.move rfl) ?_
        refine VO.c (.move rfl) ?_
        refine VO.c (.move rfl) ?_
        refine VO.call rfl rfl (VF.call (lNumber_ok )) ?_
        refine VO.c (.move rfl) ?_
        refine VO.splitB (x := 42) rfl (fun g9_5 => ?_) (fun g9_5 => ?_)
        · refine VO.call rfl rfl (VF.call (awake_ok )) ?_
          refine VO.c (.pickT rfl rfl) ?_
          refine VO.c (.assign rfl) ?_
          refine VO.go ?_
          refine VC.ret ?_
          exact VEnd.one rfl evT (pvE (by first | rfl | exact absurd ((place_fin ((atB_f c5).trans (by rw [e0])) (fun _ => rfl)).symm.trans g9_5) (by decide) | exact absurd ((place_fin ((atB_f c5).trans (by rw [e0])) (fun h => absurd h c7)).symm.trans g9_5) (by decide) | exact absurd ((place_fin (atB_t c5) (fun h => absurd h c5)).symm.trans g9_5) (by decide)))
        · refine VO.skip ?_
          refine VO.c (.pickF rfl rfl) ?_
          refine VO.c (.assign rfl) ?_
          refine VO.go ?_
          refine VC.ret ?_
          exact VEnd.one rfl evT (pvE (by first | rfl | exact absurd ((place_fin ((atB_f c5).trans (by rw [e0])) (fun _ => rfl)).symm.trans g9_5) (by decide) | exact absurd ((place_fin ((atB_f c5).trans (by rw [e0])) (fun h => absurd h c7)).symm.trans g9_5) (by decide) | exact absurd ((place_fin (atB_t c5) (fun h => absurd h c5)).symm.trans g9_5) (by decide)))
end Go.Proofs
