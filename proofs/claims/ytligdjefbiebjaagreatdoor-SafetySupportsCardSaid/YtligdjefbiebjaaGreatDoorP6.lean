/- Parts of the proof: an evaluator of the model, what it is sound for, and contracts of functions. No condition. -/
import Derived.Test.YtligdjefbiebjaaGreatDoorP5
import Derived.Test.YtligdjefbiebjaaGreatDoorP4
set_option linter.all false
namespace Go.Proofs
open Go.Fs
set_option linter.unusedVariables false
theorem eq153 : EqT Tryz.prog 153 y153 := eqT_of (by kernel_rfl)
theorem zIndexV_ok {l : List (ByteArray × Int)} {v : ByteArray × Int} (hl : l.length < 1000000) : VF Tryz.prog OA 196 [.v y68 l, .v y153 v] (I (idxG (fun x => decide (v = x)) l 0)) := by
  refine VF.enter Tryz.func196 rfl (fun _ _ => rfl) rfl ?_
  show VC _ _ _ _ _ [(0, .v y68 l), (1, .v y153 v)] [] _
  refine VC.seq ?_
  refine VC.text ?_
  refine VO.new (.box) ?_
  refine VO.c (.assign rfl) ?_
  refine VO.go ?_
  refine VC.seq ?_
  refine VC.seq ?_
  refine VC.text ?_
  refine VO.c (.move rfl) ?_
  refine VO.r (.len el68) ?_
  refine VO.c (.move rfl) ?_
  refine VO.go ?_
  refine VC.block ?_
  refine VC.keep [(0, .v y68 l), (3, .p y153 v), (7, I ((l.length : Nat) : Int)), (8, I ((0 : Nat) : Int))] ⟨rfl, rfl, rfl, rfl, trivial⟩ ?_
  refine VC.loop (I := fun kk ff ss => ∃ (j : Nat), kk = l.length - j ∧ ff = [(0, .v y68 l), (3, .p y153 v), (7, I ((l.length : Nat) : Int)), (8, I ((j : Nat) : Int))] ∧ ss = [] ∧ (j ≤ l.length) ∧ (idxG (fun x => decide (v = x)) l 0 = idxG (fun x => decide (v = x)) (l.drop j) (j : Nat))) ?_ _ _ _ ⟨0, rfl, rfl, rfl, Nat.zero_le _, (by rfl)⟩
  rintro kk ff ss ⟨j, hk0, rfl, rfl, hj, hi⟩
  refine VC.seq ?_
  refine VC.text ?_
  refine VO.c (.lss) ?_
  refine VO.go ?_
  refine VC.seq ?_
  refine VC.condD rfl (fun c2 => ?_) (fun c2 => ?_)
  · refine VC.skip ?_
    show VC _ _ _ _ _ _ _ _
    refine VC.seq ?_
    refine VC.block ?_
    refine VC.seq ?_
    refine VC.text ?_
    refine VO.c (.move rfl) ?_
    refine VO.c (.assign rfl) ?_
    refine VO.go ?_
    refine VC.seq ?_
    refine VC.drawn ?_
    refine VD.r [] (.ld vt153) (.inl rfl) ?_
    refine VD.c (.move rfl) ?_
    refine VD.c (.move rfl) ?_
    refine VD.c (.ix (j := j) rfl rfl el68 (by omega)) ?_
    refine VD.r [] (.ld vt153) (.inl rfl) ?_
    refine VD.c (.eeql eq153) ?_
    refine VD.go ?_
    refine VC.condD rfl (fun c4 => ?_) (fun c4 => ?_)
    · refine VC.seq ?_
      refine VC.text ?_
      refine VO.c (.move rfl) ?_
      refine VO.c (.assign rfl) ?_
      refine VO.go ?_
      refine VC.ret ?_
      exact VEnd.one rfl evT (pvI (by rw [hi, idxG_drop (by omega), if_pos (by simpa using c4)]))
    · refine VC.skip ?_
      show VC _ _ _ _ _ _ _ _
      refine VC.text ?_
      refine VO.c (.add rfl rfl (by omega)) ?_
      refine VO.c (.move rfl) ?_
      refine VO.nil ?_
      refine ⟨_, [(0, .v y68 l), (3, .p y153 v), (7, I ((l.length : Nat) : Int)), (8, I (((j + 1) : Nat) : Int))], ?_, ⟨rfl, rfl, rfl, rfl, trivial⟩, (j + 1), rfl, rfl, rfl, (by omega), (by rw [hi, idxG_drop (by omega), if_neg (by simpa using c4)])⟩
      omega
  · refine VC.exit ?_
    show VC _ _ _ _ _ _ _ _
    refine VC.seq ?_
    refine VC.text ?_
    refine VO.c (.assign rfl) ?_
    refine VO.go ?_
    refine VC.ret ?_
    exact VEnd.one rfl evT (pvI (by rw [hi, idxG_end (by omega)]))
def hasV (l : List Vers) (v : Vers) : Bool := l.any fun x => decide (v = x)
theorem zContainsV_ok {l : List (ByteArray × Int)} {v : ByteArray × Int} (hl : l.length < 1000000) : VF Tryz.prog OA 166 [.v y68 l, .v y153 v] (B (hasV l v)) := by
  refine VF.enter Tryz.func166 rfl (fun _ _ => rfl) rfl ?_
  show VC _ _ _ _ _ [(0, .v y68 l), (1, .v y153 v)] [] _
  refine VC.seq ?_
  refine VC.text ?_
  refine VO.new (.box) ?_
  refine VO.c (.assign rfl) ?_
  refine VO.go ?_
  refine VC.seq ?_
  refine VC.text ?_
  refine VO.c (.move rfl) ?_
  refine VO.r (.ld vt153) ?_
  refine VO.call rfl rfl (VF.call (zIndexV_ok hl)) ?_
  refine VO.c (.geq) ?_
  refine VO.c (.assign rfl) ?_
  refine VO.go ?_
  refine VC.ret ?_
  exact VEnd.one rfl evT (pvE (by have h9 := idxG_any (F := fun x => decide (v = x)) (l := l) (k := 0) (by omega); change _ ↔ hasV l v = true at h9; cases h8 : hasV l v <;> simp_all))
theorem zContainsFV_ok {F : Vers → Bool} {l : List (ByteArray × Int)} {f : PV} (hl : l.length < 1000000) (hf : ∀ x ∈ l, VCall Tryz.prog OA f [.v y153 x] (B (F x))) : VF Tryz.prog OA 167 [.v y68 l, f] (B (l.any F)) := by
  refine VF.enter Tryz.func167 rfl (fun _ _ => rfl) rfl ?_
  show VC _ _ _ _ _ [(0, .v y68 l), (1, f)] [] _
  refine VC.seq ?_
  refine VC.text ?_
  refine VO.c (.assign rfl) ?_
  refine VO.go ?_
  refine VC.seq ?_
  refine VC.text ?_
  refine VO.c (.move rfl) ?_
  refine VO.c (.move rfl) ?_
  refine VO.call rfl rfl (VF.call (zIndexFV_ok (F := F) hl hf)) ?_
  refine VO.c (.geq) ?_
  refine VO.c (.assign rfl) ?_
  refine VO.go ?_
  refine VC.ret ?_
  exact VEnd.one rfl evT (pvE (by have h9 := idxG_any (F := F) (l := l) (k := 0) (by omega); cases h8 : l.any F <;> simp_all))
theorem sFresh1_ok {v : ByteArray × Int} {c : (List (ByteArray × Int)) × (List (ByteArray × (List (ByteArray × Int)))) × (List (ByteArray × Bool × (List ByteArray)))} (hl : c.1.length < 1000000) : VF Tryz.prog OA 165 [.v y153 v, .p y72 c] (B (!hasV c.1 v)) := by
  refine VF.enter Tryz.func165 rfl (fun _ _ => rfl) rfl ?_
  show VC _ _ _ _ _ [(0, .v y153 v), (1, .p y72 c)] [] _
  refine VC.seq ?_
  refine VC.text ?_
  refine VO.new (.box) ?_
  refine VO.c (.assign rfl) ?_
  refine VO.go ?_
  refine VC.seq ?_
  refine VC.text ?_
  refine VO.c (.fa (.l .o)) ?_
  refine VO.r (.ld vt68) ?_
  refine VO.r (.ld vt153) ?_
  refine VO.call rfl rfl (VF.call (zContainsV_ok hl)) ?_
  refine VO.c (.not) ?_
  refine VO.c (.assign rfl) ?_
  refine VO.go ?_
  refine VC.ret ?_
  exact VEnd.one rfl evT (pvE (by rfl))
def freshB (c : Cse) (x : Evid) : Bool := !(x.2.any fun v => !hasV c.1 v)
theorem sFresh0_ok {c : (List (ByteArray × Int)) × (List (ByteArray × (List (ByteArray × Int)))) × (List (ByteArray × Bool × (List ByteArray)))} {x : ByteArray × (List (ByteArray × Int))} (hl : c.1.length < 1000000) (hx : x.2.length < 1000000) : VF Tryz.prog OA 127 [.v y72 c, .v y155 x] (B (freshB c x)) := by
  refine VF.enter Tryz.func127 rfl (fun _ _ => rfl) rfl ?_
  show VC _ _ _ _ _ [(0, .v y72 c), (1, .v y155 x)] [] _
  refine VC.seq ?_
  refine VC.text ?_
  refine VO.new (.box) ?_
  refine VO.new (.box) ?_
  refine VO.c (.assign rfl) ?_
  refine VO.go ?_
  refine VC.seq ?_
  refine VC.text ?_
  refine VO.c (.func) ?_
  refine VO.c (.assign rfl) ?_
  refine VO.go ?_
  refine VC.seq ?_
  refine VC.text ?_
  refine VO.c (.fa (.r .o)) ?_
  refine VO.r (.ld vt68) ?_
  refine VO.c (.move rfl) ?_
  refine VO.call rfl rfl (VF.call (zContainsFV_ok (F := fun v => !hasV c.1 v) hx (fun _ _ => VF.clo (sFresh1_ok hl)))) ?_
  refine VO.c (.not) ?_
  refine VO.c (.assign rfl) ?_
  refine VO.go ?_
  refine VC.ret ?_
  exact VEnd.one rfl evT (pvE (by rfl))
theorem sKeptE_ok {F : Evid → Bool} {l : List (ByteArray × (List (ByteArray × Int)))} {f : PV} (hl : l.length < 100000) (hf : ∀ x ∈ l, VCall Tryz.prog OA f [.v y155 x] (B (F x))) : VF Tryz.prog OA 164 [.v y69 l, f] (.v y69 (l.filter F)) := by
  refine VF.enter Tryz.func164 rfl (fun _ _ => rfl) rfl ?_
  show VC _ _ _ _ _ [(0, .v y69 l), (1, f)] [] _
  refine VC.seq ?_
  refine VC.text ?_
  refine VO.c (.assign rfl) ?_
  refine VO.go ?_
  refine VC.seq ?_
  refine VC.text ?_
  refine VO.c (.assign rfl) ?_
  refine VO.go ?_
  refine VC.seq ?_
  refine VC.seq ?_
  refine VC.text ?_
  refine VO.c (.move rfl) ?_
  refine VO.r (.len el69) ?_
  refine VO.c (.move rfl) ?_
  refine VO.go ?_
  refine VC.block ?_
  refine VC.cell0 155 y155 ?_
  refine VC.keep [(1, f), (5, .raw (.slice none 0 0)), (8, .v y69 l), (9, I ((l.length : Nat) : Int)), (10, I ((0 : Nat) : Int))] ⟨rfl, rfl, rfl, rfl, rfl, trivial⟩ ?_
  refine VC.loop (I := fun kk ff ss => ∃ (j : Nat) (out : Value), kk = l.length - j ∧ ff = [(1, f), (5, .raw out), (8, .v y69 l), (9, I ((l.length : Nat) : Int)), (10, I ((j : Nat) : Int))] ∧ ss = [(out, .row 155 y155 ((l.take j).filter F))] ∧ (j ≤ l.length)) ?_ _ _ _ ⟨0, (.slice none 0 0), rfl, rfl, rfl, Nat.zero_le _⟩
  rintro kk ff ss ⟨j, out, hk0, rfl, rfl, hj⟩
  have hlen : ((l.take j).filter F).length ≤ j := Nat.le_trans (List.length_filter_le F (l.take j)) (List.length_take_le j l)
  refine VC.seq ?_
  refine VC.text ?_
  refine VO.c (.lss) ?_
  refine VO.go ?_
  refine VC.seq ?_
  refine VC.condD rfl (fun c3 => ?_) (fun c3 => ?_)
  · refine VC.skip ?_
    show VC _ _ _ _ _ _ _ _
    refine VC.seq ?_
    refine VC.block ?_
    refine VC.seq ?_
    refine VC.text ?_
    refine VO.c (.ix (j := j) rfl rfl el69 (by omega)) ?_
    refine VO.r (.ld vt155) ?_
    refine VO.cell (.alloc zt155) ?_
    intro ww1
    refine VO.setV (cs' := [St ((l[j]).1), .v y68 ((l[j]).2)]) vt155 .v ?_
    refine VO.shut [(7, .p y155 (l[j]))] (.cons rfl (.var m0 .refl) .nil) ?_
    refine VO.go ?_
    refine VC.seq ?_
    refine VC.text ?_
    refine VO.c (.move rfl) ?_
    refine VO.r (.ld vt155) ?_
    refine VO.call rfl rfl ((hf _ (List.getElem_mem _)) ) ?_
    refine VO.go ?_
    refine VC.condB rfl (fun c5 => ?_) (fun c5 => ?_)
    · have hg : (l.take (j + 1)).filter F = (l.take j).filter F ++ [l[j]] := by rw [List.take_succ_eq_append_getElem (by omega), List.filter_append]; simp [c5]
      refine VC.text ?_
      refine VO.c (.move rfl) ?_
      refine VO.r (.ld vt155) ?_
      refine VO.new (.lit [l[j]] el69) ?_
      refine VO.app rfl rfl el69 el69 (by simp; omega) ?_
      intro ww2
      refine VO.c (.assign rfl) ?_
      refine VO.nil ?_
      show VC _ _ _ _ _ _ _ _
      refine VC.text ?_
      refine VO.c (.add rfl rfl (by omega)) ?_
      refine VO.c (.move rfl) ?_
      refine VO.nil ?_
      refine ⟨_, [(1, f), (5, .raw ww2), (8, .v y69 l), (9, I ((l.length : Nat) : Int)), (10, I (((j + 1) : Nat) : Int))], ?_, ⟨rfl, rfl, rfl, rfl, rfl, trivial⟩, (j + 1), ww2, rfl, rfl, (by rw [hg]), (by omega)⟩
      omega
    · have hg : (l.take (j + 1)).filter F = (l.take j).filter F := by rw [List.take_succ_eq_append_getElem (by omega), List.filter_append]; simp [c5]
      refine VC.skip ?_
      show VC _ _ _ _ _ _ _ _
      refine VC.text ?_
      refine VO.c (.add rfl rfl (by omega)) ?_
      refine VO.c (.move rfl) ?_
      refine VO.nil ?_
      refine ⟨_, [(1, f), (5, .raw out), (8, .v y69 l), (9, I ((l.length : Nat) : Int)), (10, I (((j + 1) : Nat) : Int))], ?_, ⟨rfl, rfl, rfl, rfl, rfl, trivial⟩, (j + 1), out, rfl, rfl, (by rw [hg]), (by omega)⟩
      omega
  · refine VC.exit ?_
    show VC _ _ _ _ _ _ _ _
    refine VC.seq ?_
    refine VC.text ?_
    refine VO.c (.move rfl) ?_
    refine VO.c (.assign rfl) ?_
    refine VO.go ?_
    refine VC.ret ?_
    exact VEnd.one rfl (evC (.row m0)) (pvE (by rw [List.take_of_length_le (by omega)]))
theorem sNames_ok {F : Evid → Bool} {c : (List (ByteArray × Int)) × (List (ByteArray × (List (ByteArray × Int)))) × (List (ByteArray × Bool × (List ByteArray)))} {f : PV} (hl : c.2.1.length < 100000) (hf : ∀ x ∈ c.2.1, VCall Tryz.prog OA f [.v y155 x] (B (F x))) : VF Tryz.prog OA 125 [.v y72 c, f] (.v (.sl .str) ((c.2.1.filter F).map (·.1))) := by
  refine VF.enter Tryz.func125 rfl (fun _ _ => rfl) rfl ?_
  show VC _ _ _ _ _ [(0, .v y72 c), (1, f)] [] _
  refine VC.seq ?_
  refine VC.text ?_
  refine VO.new (.box) ?_
  refine VO.c (.assign rfl) ?_
  refine VO.go ?_
  refine VC.seq ?_
  refine VC.text ?_
  refine VO.c (.assign rfl) ?_
  refine VO.go ?_
  refine VC.seq ?_
  refine VC.seq ?_
  refine VC.text ?_
  refine VO.c (.fa (.r (.l .o))) ?_
  refine VO.r (.ld vt69) ?_
  refine VO.c (.move rfl) ?_
  refine VO.call rfl rfl (VF.call (sKeptE_ok (F := F) hl hf)) ?_
  have hlen := List.length_filter_le F c.2.1
  refine VO.r (.len el69) ?_
  refine VO.c (.move rfl) ?_
  refine VO.go ?_
  refine VC.block ?_
  refine VC.cell0 9 .str ?_
  refine VC.keep [(5, .raw (.slice none 0 0)), (11, .v y69 (c.2.1.filter F)), (12, I (((c.2.1.filter F).length : Nat) : Int)), (13, I ((0 : Nat) : Int))] ⟨rfl, rfl, rfl, rfl, trivial⟩ ?_
  refine VC.loop (I := fun kk ff ss => ∃ (j : Nat) (out : Value), kk = (c.2.1.filter F).length - j ∧ ff = [(5, .raw out), (11, .v y69 (c.2.1.filter F)), (12, I (((c.2.1.filter F).length : Nat) : Int)), (13, I ((j : Nat) : Int))] ∧ ss = [(out, .row 9 .str (((c.2.1.filter F).take j).map (·.1)))] ∧ (j ≤ (c.2.1.filter F).length)) ?_ _ _ _ ⟨0, (.slice none 0 0), rfl, rfl, rfl, (by omega)⟩
  rintro kk ff ss ⟨j, out, hk0, rfl, rfl, hj⟩
  refine VC.seq ?_
  refine VC.text ?_
  refine VO.c (.lss) ?_
  refine VO.go ?_
  refine VC.seq ?_
  refine VC.condD rfl (fun c3 => ?_) (fun c3 => ?_)
  · refine VC.skip ?_
    show VC _ _ _ _ _ _ _ _
    refine VC.seq ?_
    refine VC.block ?_
    refine VC.seq ?_
    refine VC.text ?_
    refine VO.c (.ix (j := j) rfl rfl el69 (by omega)) ?_
    refine VO.r (.ld vt155) ?_
    refine VO.cell (.alloc zt155) ?_
    intro ww3
    refine VO.setV (cs' := [St (((c.2.1.filter F)[j]).1), .v y68 (((c.2.1.filter F)[j]).2)]) vt155 .v ?_
    refine VO.shut [(7, .p y155 ((c.2.1.filter F)[j]))] (.cons rfl (.var m0 .refl) .nil) ?_
    refine VO.go ?_
    refine VC.text ?_
    refine VO.c (.move rfl) ?_
    refine VO.c (.fa (.l .o)) ?_
    refine VO.r (.ld vt9) ?_
    refine VO.new (.lit [((c.2.1.filter F)[j]).1] el27) ?_
    refine VO.app rfl rfl el27 el27 (by simp; omega) ?_
    intro ww4
    refine VO.c (.assign rfl) ?_
    refine VO.nil ?_
    show VC _ _ _ _ _ _ _ _
    refine VC.text ?_
    refine VO.c (.add rfl rfl (by omega)) ?_
    refine VO.c (.move rfl) ?_
    refine VO.nil ?_
    refine ⟨_, [(5, .raw ww4), (11, .v y69 (c.2.1.filter F)), (12, I (((c.2.1.filter F).length : Nat) : Int)), (13, I (((j + 1) : Nat) : Int))], ?_, ⟨rfl, rfl, rfl, rfl, trivial⟩, (j + 1), ww4, rfl, rfl, (by rw [List.take_succ_eq_append_getElem (by omega), List.map_append] <;> rfl), (by omega)⟩
    omega
  · refine VC.exit ?_
    show VC _ _ _ _ _ _ _ _
    refine VC.seq ?_
    refine VC.text ?_
    refine VO.c (.move rfl) ?_
    refine VO.c (.assign rfl) ?_
    refine VO.go ?_
    refine VC.ret ?_
    exact VEnd.one rfl (evC (.row m0)) (pvE (by rw [List.take_of_length_le (by omega)]))
def validE (c : Cse) : List ByteArray := (c.2.1.filter (freshB c)).map (·.1)
theorem sValid0_ok {c : (List (ByteArray × Int)) × (List (ByteArray × (List (ByteArray × Int)))) × (List (ByteArray × Bool × (List ByteArray)))} (hc : CseOk c) : VF Tryz.prog OA 104 [.v y72 c] (.v (.sl .str) (validE c)) := by
  refine VF.enter Tryz.func104 rfl (fun _ _ => rfl) rfl ?_
  show VC _ _ _ _ _ [(0, .v y72 c)] [] _
  refine VC.seq ?_
  refine VC.text ?_
  refine VO.new (.box) ?_
  refine VO.c (.assign rfl) ?_
  refine VO.go ?_
  refine VC.seq ?_
  refine VC.text ?_
  refine VO.r (.ld vt72) ?_
  refine VO.r (.ld vt72) ?_
  refine VO.c (.func) ?_
  refine VO.call rfl rfl (VF.call (sNames_ok (F := freshB c) hc.e (fun x m => VF.clo (sFresh0_ok (by have := hc.v; omega) (by have := hc.w x m; omega))))) ?_
  refine VO.c (.assign rfl) ?_
  refine VO.go ?_
  refine VC.ret ?_
  exact VEnd.one rfl evT (pvE (by rfl))
end Go.Proofs
namespace Go.Proofs
open Go.Fs
set_option linter.unusedVariables false

theorem idxG_get {α : Type} {F : α → Bool} {l : List α} (h : 0 ≤ idxG F l 0) : ∃ (hlt : (idxG F l 0).toNat < l.length), F l[(idxG F l 0).toNat] = true := by
  have key : ∀ (l : List α) (k : Nat), 0 ≤ idxG F l (k : Int) → (k : Int) ≤ idxG F l (k : Int) ∧ ∃ (hlt : (idxG F l (k : Int)).toNat - k < l.length), F (l[(idxG F l (k : Int)).toNat - k]'hlt) = true := by
    intro l
    induction l with
    | nil => intro k h; simp [idxG] at h
    | cons x l ih =>
      intro k h
      by_cases hx : F x = true
      · have e : idxG F (x :: l) (k : Int) = k := by rw [idxG, if_pos hx]
        rw [e]
        refine ⟨Int.le_refl _, by simp, ?_⟩
        simpa using hx
      · have e : idxG F (x :: l) (k : Int) = idxG F l ((k + 1 : Nat) : Int) := by rw [idxG, if_neg hx] <;> rfl
        rw [e] at h ⊢
        obtain ⟨h1, h2, h3⟩ := ih (k + 1) h
        refine ⟨by omega, by simp only [List.length_cons]; omega, ?_⟩
        have e2 : (idxG F l ((k + 1 : Nat) : Int)).toNat - k = ((idxG F l ((k + 1 : Nat) : Int)).toNat - (k + 1)) + 1 := by omega
        simp only [e2, List.getElem_cons_succ]
        exact h3
  obtain ⟨_, h2, h3⟩ := key l 0 h
  exact ⟨by simpa using h2, by simpa using h3⟩
theorem thing_get {l : List Vers} {s : ByteArray} (h : 0 ≤ thingE l s) : ∃ (hlt : (thingE l s).toNat < l.length), l[(thingE l s).toNat].1 = s := by
  obtain ⟨h1, h2⟩ := idxG_get h
  exact ⟨h1, of_decide_eq_true h2⟩
def nowE (l : List Vers) (s : ByteArray) : Int := (vAt l (thingE l s).toNat).2
def validB (c : Cse) (x : Evid) : Bool := x.2.all fun v => decide (nowE c.1 v.1 = v.2)
def KnownW (c : Cse) (x : Evid) : Prop := ∀ v ∈ x.2, 0 ≤ thingE c.1 v.1
theorem rValidV_ok {c : (List (ByteArray × Int)) × (List (ByteArray × (List (ByteArray × Int)))) × (List (ByteArray × Bool × (List ByteArray)))} {x : ByteArray × (List (ByteArray × Int))} (hl : c.1.length < 1000000) (hx : x.2.length < 1000000) (hk : KnownW c x) : VF Tryz.prog OA 112 [.v y64 c, .v y96 x] (B (validB c x)) := by
  refine VF.enter Tryz.func112 rfl (fun _ _ => rfl) rfl ?_
  show VC _ _ _ _ _ [(0, .v y64 c), (1, .v y96 x)] [] _
  refine VC.seq ?_
  refine VC.text ?_
  refine VO.new (.box) ?_
  refine VO.new (.box) ?_
  refine VO.c (.assign rfl) ?_
  refine VO.go ?_
  refine VC.seq ?_
  refine VC.seq ?_
  refine VC.text ?_
  refine VO.c (.assign rfl) ?_
  refine VO.go ?_
  refine VC.block ?_
  refine VC.keep [(2, .p y64 c), (3, .p y96 x), (5, I ((0 : Nat) : Int))] ⟨rfl, rfl, rfl, trivial⟩ ?_
  refine VC.loop (I := fun kk ff ss => ∃ (j : Nat), kk = x.2.length - j ∧ ff = [(2, .p y64 c), (3, .p y96 x), (5, I ((j : Nat) : Int))] ∧ ss = [] ∧ (j ≤ x.2.length) ∧ (validB c x = (x.2.drop j).all (fun v => decide (nowE c.1 v.1 = v.2)))) ?_ _ _ _ ⟨0, rfl, rfl, rfl, Nat.zero_le _, (by rfl)⟩
  rintro kk ff ss ⟨j, hk0, rfl, rfl, hj, hw⟩
  refine VC.seq ?_
  refine VC.seq ?_
  refine VC.text ?_
  refine VO.c (.move rfl) ?_
  refine VO.c (.fa (.r .o)) ?_
  refine VO.r (.ld vt60) ?_
  refine VO.r (.len el60) ?_
  refine VO.c (.lss) ?_
  refine VO.go ?_
  refine VC.condD rfl (fun c2 => ?_) (fun c2 => ?_)
  · have hlt : j < x.2.length := by omega
    have hi0 := hk _ (List.getElem_mem hlt)
    obtain ⟨hi1, hi2⟩ := thing_get hi0
    have hi3 : thingE c.1 x.2[j].1 < (c.1.length : Int) := by omega
    have hn : nowE c.1 x.2[j].1 = c.1[(thingE c.1 x.2[j].1).toNat].2 := by unfold nowE; rw [vAt_eq hi1]
    refine VC.skip ?_
    show VC _ _ _ _ _ _ _ _
    refine VC.seq ?_
    refine VC.block ?_
    refine VC.seq ?_
    refine VC.drawn ?_
    refine VD.c (.fa (.l .o)) ?_
    refine VD.r [] (.ld vt60) (.inl rfl) ?_
    refine VD.c (.fa (.l .o)) ?_
    refine VD.r [] (.ld vt60) (.inl rfl) ?_
    refine VD.c (.fa (.r .o)) ?_
    refine VD.r [] (.ld vt60) (.inl rfl) ?_
    refine VD.nw [] ?_
    refine VD.c (.move rfl) ?_
    refine VD.c (.ix (j := j) rfl rfl el60 (by omega)) ?_
    refine VD.c (.fa (.l .o)) ?_
    refine VD.r [] (.ld vt9) (.inl rfl) ?_
    refine VD.call rfl rfl (VF.call (rThing_ok hl)) ?_
    refine VD.c (.ixZ (k := thingE c.1 ((x.2[j]).1)) rfl rfl el60 (by exact hi0) (by exact hi3)) ?_
    refine VD.c (.fa (.r .o)) ?_
    refine VD.nw [] ?_
    refine VD.r [] (.ld vt3) (.inl rfl) ?_
    refine VD.c (.fa (.r .o)) ?_
    refine VD.r [] (.ld vt60) (.inl rfl) ?_
    refine VD.c (.move rfl) ?_
    refine VD.c (.ix (j := j) rfl rfl el60 (by omega)) ?_
    refine VD.c (.fa (.r .o)) ?_
    refine VD.r [] (.ld vt3) (.inl rfl) ?_
    refine VD.nw [] ?_
    refine VD.c (.neq) ?_
    refine VD.go ?_
    refine VC.condD rfl (fun c4 => ?_) (fun c4 => ?_)
    · refine VC.seq ?_
      refine VC.text ?_
      refine VO.c (.assign rfl) ?_
      refine VO.go ?_
      refine VC.ret ?_
      exact VEnd.one rfl evT (pvE (by rw [hw, any_all hlt, decide_eq_false (by rw [hn]; exact c4)] <;> rfl))
    · have hz : nowE c.1 x.2[j].1 = x.2[j].2 := by rw [hn]; exact Decidable.not_not.1 c4
      refine VC.skip ?_
      show VC _ _ _ _ _ _ _ _
      refine VC.text ?_
      refine VO.c (.move rfl) ?_
      refine VO.c (.add rfl rfl (by omega)) ?_
      refine VO.c (.assign rfl) ?_
      refine VO.nil ?_
      refine ⟨_, [(2, .p y64 c), (3, .p y96 x), (5, I (((j + 1) : Nat) : Int))], ?_, ⟨rfl, rfl, rfl, trivial⟩, (j + 1), rfl, rfl, rfl, (by omega), (by rw [hw, any_all hlt, decide_eq_true hz] <;> rfl)⟩
      omega
  · refine VC.exit ?_
    show VC _ _ _ _ _ _ _ _
    refine VC.seq ?_
    refine VC.text ?_
    refine VO.c (.assign rfl) ?_
    refine VO.go ?_
    refine VC.ret ?_
    exact VEnd.one rfl evT (pvE (by rw [hw, List.drop_eq_nil_of_le (by omega)] <;> rfl))
def CaseK (c : Cse) : Prop := ∀ x ∈ c.2.1, KnownW c x
def validR (c : Cse) : List ByteArray := (c.2.1.filter (validB c)).map (·.1)
theorem rFresh_ok {c : (List (ByteArray × Int)) × (List (ByteArray × (List (ByteArray × Int)))) × (List (ByteArray × Bool × (List ByteArray)))} (hc : CseOk c) (hk : CaseK c) : VF Tryz.prog OA 43 [.v y64 c] (.v (.sl .str) (validR c)) := by
  refine VF.enter Tryz.func43 rfl (fun _ _ => rfl) rfl ?_
  show VC _ _ _ _ _ [(0, .v y64 c)] [] _
  refine VC.seq ?_
  refine VC.text ?_
  have h1 := hc.v
  have h2 := hc.e
  refine VO.new (.box) ?_
  refine VO.c (.assign rfl) ?_
  refine VO.go ?_
  refine VC.seq ?_
  refine VC.text ?_
  refine VO.c (.assign rfl) ?_
  refine VO.go ?_
  refine VC.seq ?_
  refine VC.seq ?_
  refine VC.text ?_
  refine VO.c (.assign rfl) ?_
  refine VO.go ?_
  refine VC.block ?_
  refine VC.cell0 9 .str ?_
  refine VC.keep [(1, .p y64 c), (3, .raw (.slice none 0 0)), (4, I ((0 : Nat) : Int))] ⟨rfl, rfl, rfl, trivial⟩ ?_
  refine VC.loop (I := fun kk ff ss => ∃ (j : Nat) (out : Value), kk = c.2.1.length - j ∧ ff = [(1, .p y64 c), (3, .raw out), (4, I ((j : Nat) : Int))] ∧ ss = [(out, .row 9 .str (((c.2.1.take j).filter (validB c)).map (·.1)))] ∧ (j ≤ c.2.1.length)) ?_ _ _ _ ⟨0, (.slice none 0 0), rfl, rfl, rfl, Nat.zero_le _⟩
  rintro kk ff ss ⟨j, out, hk0, rfl, rfl, hj⟩
  have hlen : ((c.2.1.take j).filter (validB c)).length ≤ j := Nat.le_trans (List.length_filter_le _ _) (List.length_take_le j _)
  refine VC.seq ?_
  refine VC.seq ?_
  refine VC.text ?_
  refine VO.c (.move rfl) ?_
  refine VO.c (.fa (.r (.l .o))) ?_
  refine VO.r (.ld vt61) ?_
  refine VO.r (.len el61) ?_
  refine VO.c (.lss) ?_
  refine VO.go ?_
  refine VC.condD rfl (fun c3 => ?_) (fun c3 => ?_)
  · refine VC.skip ?_
    show VC _ _ _ _ _ _ _ _
    refine VC.seq ?_
    refine VC.block ?_
    refine VC.seq ?_
    refine VC.drawn ?_
    refine VD.r [] (.ld vt64) (.inl rfl) ?_
    refine VD.c (.fa (.r (.l .o))) ?_
    refine VD.r [] (.ld vt61) (.inl rfl) ?_
    refine VD.c (.move rfl) ?_
    refine VD.c (.ix (j := j) rfl rfl el61 (by omega)) ?_
    refine VD.r [] (.ld vt96) (.inl rfl) ?_
    refine VD.nw [] ?_
    refine VD.call rfl rfl (VF.call (rValidV_ok (by omega) (by have := hc.w _ (List.getElem_mem (show j < c.2.1.length by omega)); omega) (hk _ (List.getElem_mem _)))) ?_
    refine VD.go ?_
    refine VC.condB rfl (fun c5 => ?_) (fun c5 => ?_)
    · have hg : ((c.2.1.take (j + 1)).filter (validB c)).map (·.1) = ((c.2.1.take j).filter (validB c)).map (·.1) ++ [c.2.1[j].1] := by rw [List.take_succ_eq_append_getElem (by omega), List.filter_append]; simp [c5]
      refine VC.text ?_
      refine VO.c (.move rfl) ?_
      refine VO.c (.fa (.r (.l .o))) ?_
      refine VO.r (.ld vt61) ?_
      refine VO.c (.move rfl) ?_
      refine VO.c (.ix (j := j) rfl rfl el61 (by omega)) ?_
      refine VO.c (.fa (.l .o)) ?_
      refine VO.r (.ld vt9) ?_
      refine VO.new (.lit [(c.2.1[j]).1] el27) ?_
      refine VO.app rfl rfl el27 el27 (by simp only [List.length_append, List.length_singleton, List.length_map]; omega) ?_
      intro ww1
      refine VO.c (.assign rfl) ?_
      refine VO.nil ?_
      show VC _ _ _ _ _ _ _ _
      refine VC.text ?_
      refine VO.c (.move rfl) ?_
      refine VO.c (.add rfl rfl (by omega)) ?_
      refine VO.c (.assign rfl) ?_
      refine VO.nil ?_
      refine ⟨_, [(1, .p y64 c), (3, .raw ww1), (4, I (((j + 1) : Nat) : Int))], ?_, ⟨rfl, rfl, rfl, trivial⟩, (j + 1), ww1, rfl, rfl, (by rw [hg]), (by omega)⟩
      omega
    · have hg : ((c.2.1.take (j + 1)).filter (validB c)).map (·.1) = ((c.2.1.take j).filter (validB c)).map (·.1) := by rw [List.take_succ_eq_append_getElem (by omega), List.filter_append]; simp [c5]
      refine VC.skip ?_
      show VC _ _ _ _ _ _ _ _
      refine VC.text ?_
      refine VO.c (.move rfl) ?_
      refine VO.c (.add rfl rfl (by omega)) ?_
      refine VO.c (.assign rfl) ?_
      refine VO.nil ?_
      refine ⟨_, [(1, .p y64 c), (3, .raw out), (4, I (((j + 1) : Nat) : Int))], ?_, ⟨rfl, rfl, rfl, trivial⟩, (j + 1), out, rfl, rfl, (by rw [hg]), (by omega)⟩
      omega
  · refine VC.exit ?_
    show VC _ _ _ _ _ _ _ _
    refine VC.seq ?_
    refine VC.text ?_
    refine VO.c (.move rfl) ?_
    refine VO.c (.assign rfl) ?_
    refine VO.go ?_
    refine VC.ret ?_
    exact VEnd.one rfl (evC (.row m0)) (pvE (by rw [List.take_of_length_le (by omega)] <;> rfl))
end Go.Proofs
namespace Go.Fs
variable {P : Program} {h : Heap} {S : List Nat} {σ : Sto} {t : Tr} {fl : VL} {x : Operand} {T e : TypeId} {τ : Ty}
def arr2B (P : Program) (T e : TypeId) : Bool := match P.underlying T with
  | some (.array n e') => Nat.beq n 2 && Nat.beq e' e && (match P.info? e with | some i => Nat.beq i.size 1 | none => false)
  | _ => false
end Go.Fs
namespace Go.Fs
variable {P : Program} {σ : Sto} {fl : VL} {x y : Operand} {T T' : TypeId} {p q : Bool}
end Go.Fs
namespace Go.Fs
variable {P : Program} {orc : FuncId → List Value → Heap → Option (Value × Heap)} {σ : Sto} {fl : VL} {ops : Array Oper} {n : Nat} {l : List Oper} {K : VL → Sto → Prop} {d : Tmp} {ty : TypeId} {pos : String} {after : Array Edge} {g : Option (Nat × Bool)} {x : Operand} {T e : TypeId} {τ : Ty}
theorem VO.callW {f : Operand} {args : Array Operand} {ats : Array TypeId} {F F' : PV} {asl as' : List PV} {xs : List τ.den} (hT : ElT P T e τ) (hf : evV fl f = some F) (ha : evVs fl args.toList = some asl) (cF : Co σ F F') (ca : CoL σ asl as') (hc : VCall P orc F' as' (.v (.sl τ) xs))
    (hk : ∀ u : Value, (∀ H, fsLen P #[T] u H = some (.int .i64 ((xs.length : Nat) : Int))) → VO P orc ops n l ((d, .raw u) :: fl) σ K)
    (hw : wantV ops fl g = some true := by rfl) (hn : (Nat.blt d n && Nat.ble n 4000) = true := by rfl) : VO P orc ops n (⟨some d, .call { callee := .value f, args := args, argTypes := ats }, ty, pos, after, g⟩ :: l) fl σ K := fun h0 G S0 t h ms I => by
  obtain ⟨n1, n2⟩ := fits hn
  have L := I.lc
  obtain ⟨fid, a, c, h1, h2⟩ := hc.ev I.ok L.s0 (cF.ok L.cells L.sep (evV_ok I.slots hf)) (ca.ok L.cells L.sep (evVs_ok I.slots ha))
  refine EvO.call (want_ok I.slots hw) rfl rfl h1 (h2.mono fun u h' hq => ?_)
  obtain ⟨q1, q2, _⟩ := hq
  exact ⟨_, put_fits n1 t u, hk u (fun H => (RepV.sl (q2 : RepV h' S0 (.sl τ) u xs)).len hT H) h0 G S0 _ h' ms ((I.calm q1).set (show RepPV _ _ (.raw u) u from rfl) n2)⟩
theorem ReadV.lenW {u : Value} {k : Int} (hu : ∀ H, fsLen P #[T] u H = some (.int .i64 k)) (hx : evV fl x = some (.raw u) := by rfl) : ReadV P fl σ (.call { callee := .builtin .len, args := #[x], argTypes := #[T] }) (.v (.int .i64) k) :=
  ⟨rfl, fun h S t hs _ => by
    have h1 : evalO t x = u := hs x (by simp [Op.operands, Call.operands]) _ hx
    refine ⟨_, RepV.ofInt _ _, fun H _ _ _ _ _ _ => ?_⟩
    show (fsLen P #[T] (evalO t x) H).map _ = _
    rw [h1, hu]; rfl⟩
theorem VO.oneM {w : Value} {κ ν : Ty} {kvs : List (κ.den × ν.den)} (hm : (w, Cell.mp κ ν kvs) ∈ σ) (hk : oneCell w = true → VO P orc ops n l fl σ K) : VO P orc ops n l fl σ K := fun h0 G S0 t h ms I => by
  obtain ⟨b, es, c, h1, _⟩ := I.cells _ hm
  have h1 : w = .map (some b) := h1
  exact hk (by rw [h1]; rfl) h0 G S0 t h ms I
end Go.Fs
namespace Go.Proofs
open Go.Fs
set_option linter.unusedVariables false
set_option maxHeartbeats 1000000
theorem vt4 : ValT Tryz.prog 4 .bool := valT_of (by kernel_rfl)
theorem vt158 : ValT Tryz.prog 158 y158 := valT_of (by kernel_rfl)
theorem zt158 : ZerT Tryz.prog 158 y158 := zerT_of (z := .map none) (by kernel_rfl) rfl rfl
abbrev BMap := List (ByteArray × Bool)
def inM (m : BMap) (s : ByteArray) : Bool := (mget m s).getD false
def evM (l : List ByteArray) (i : Nat) : BMap := (l.take i).foldl (fun m s => mset m s true) []
def usedN (m : BMap) (x : Clm) : Nat := (x.2.2.filter (inM m)).length
def holdsX (m : BMap) (x : Clm) : Bool := decide (((usedN m x : Nat) : Int) = (x.2.2.length : Nat)) || (x.2.1 && decide (0 < ((usedN m x : Nat) : Int)))
def clM (c : Cse) (l : List ByteArray) (i : Nat) : BMap := (c.2.2.take i).foldl (fun m x => mset m x.1 (holdsX m x)) (evM l l.length)
def byM (c : Cse) (l : List ByteArray) : BMap := clM c l c.2.2.length
theorem evM_succ {l : List ByteArray} {i : Nat} (h : i < l.length) : evM l (i + 1) = mset (evM l i) l[i] true := by
  unfold evM
  rw [List.take_succ_eq_append_getElem h, List.foldl_append] <;> rfl
theorem clM_succ {c : Cse} {l : List ByteArray} {i : Nat} (h : i < c.2.2.length) : clM c l (i + 1) = mset (clM c l i) c.2.2[i].1 (holdsX (clM c l i) c.2.2[i]) := by
  unfold clM
  rw [List.take_succ_eq_append_getElem h, List.foldl_append] <;> rfl
theorem holdsX_t {m : BMap} {x : Clm} (h : ((usedN m x : Nat) : Int) = (x.2.2.length : Nat)) : holdsX m x = true := by
  unfold holdsX
  rw [decide_eq_true h, Bool.true_or]
theorem holdsX_f {m : BMap} {x : Clm} (h : ¬ ((usedN m x : Nat) : Int) = (x.2.2.length : Nat)) : holdsX m x = (x.2.1 && decide (0 < ((usedN m x : Nat) : Int))) := by
  unfold holdsX
  rw [decide_eq_false h, Bool.false_or]
theorem sBy1_ok {s : ByteArray} {m : List (ByteArray × Bool)} : VF Tryz.prog OA 158 [St s, .p y158 m] (B (inM m s)) := by
  refine VF.enter Tryz.func158 rfl (fun _ _ => rfl) rfl ?_
  show VC _ _ _ _ _ [(0, St s), (1, .p y158 m)] [] _
  refine VC.seq ?_
  refine VC.text ?_
  refine VO.c (.assign rfl) ?_
  refine VO.go ?_
  refine VC.seq ?_
  refine VC.text ?_
  refine VO.r (.ld vt158) ?_
  refine VO.c (.move rfl) ?_
  refine VO.r (.look mt158) ?_
  refine VO.c (.assign rfl) ?_
  refine VO.go ?_
  refine VC.ret ?_
  exact VEnd.one rfl evT (pvE (by rfl))
theorem sBy_ok {c : (List (ByteArray × Int)) × (List (ByteArray × (List (ByteArray × Int)))) × (List (ByteArray × Bool × (List ByteArray)))} {l : List ByteArray} (hl : l.length < 100000) (hc : CseOk c) : VF Tryz.prog OA 106 [.v y72 c, .v (.sl .str) l] (.v y158 (byM c l)) := by
  refine VF.enter Tryz.func106 rfl (fun _ _ => rfl) rfl ?_
  show VC _ _ _ _ _ [(0, .v y72 c), (1, .v (.sl .str) l)] [] _
  refine VC.seq ?_
  refine VC.text ?_
  have hcl := hc.l
  refine VO.new (.box) ?_
  refine VO.c (.assign rfl) ?_
  refine VO.go ?_
  refine VC.seq ?_
  refine VC.text ?_
  refine VO.cell (.mkMap .str .bool) ?_
  intro ww1
  refine VO.cell (.alloc zt158) ?_
  intro ww2
  refine VO.oneM m1 fun ho3 => ?_
  refine VO.setV (cs' := [.raw ww1]) vt158 (.raw rfl (agg_one ho3) ho3) ?_
  refine VO.go ?_
  refine VC.seq ?_
  refine VC.seq ?_
  refine VC.text ?_
  refine VO.c (.move rfl) ?_
  refine VO.r (.len el27) ?_
  refine VO.c (.move rfl) ?_
  refine VO.go ?_
  refine VC.block ?_
  refine VC.keep [(2, .p y72 c), (5, .raw ww2), (12, .v (.sl .str) l), (13, I ((l.length : Nat) : Int)), (14, I ((0 : Nat) : Int))] ⟨rfl, rfl, rfl, rfl, rfl, trivial⟩ ?_
  refine VC.loop (I := fun kk ff ss => ∃ (i : Nat), kk = l.length - i ∧ ff = [(2, .p y72 c), (5, .raw ww2), (12, .v (.sl .str) l), (13, I ((l.length : Nat) : Int)), (14, I ((i : Nat) : Int))] ∧ ss = [(ww2, .var [.raw ww1]), (ww1, .mp .str .bool (evM l i))] ∧ (i ≤ l.length)) ?_ _ _ _ ⟨0, rfl, rfl, rfl, Nat.zero_le _⟩
  rintro kk ff ss ⟨i, hk0, rfl, rfl, hi⟩
  refine VC.seq ?_
  refine VC.text ?_
  refine VO.c (.lss) ?_
  refine VO.go ?_
  refine VC.seq ?_
  refine VC.condD rfl (fun c3 => ?_) (fun c3 => ?_)
  · refine VC.skip ?_
    show VC _ _ _ _ _ _ _ _
    refine VC.seq ?_
    refine VC.block ?_
    refine VC.seq ?_
    refine VC.text ?_
    refine VO.c (.ix (j := i) rfl rfl el27 (by omega)) ?_
    refine VO.r (.ld vt9) ?_
    refine VO.c (.assign rfl) ?_
    refine VO.go ?_
    refine VC.text ?_
    refine VO.r (.ldV m0 vt158) ?_
    refine VO.c (.move rfl) ?_
    refine VO.perm swap1 ?_
    refine VO.mput mt158 ?_
    refine VO.nil ?_
    show VC _ _ _ _ _ _ _ _
    refine VC.text ?_
    refine VO.c (.add rfl rfl (by omega)) ?_
    refine VO.c (.move rfl) ?_
    refine VO.perm swap1 ?_
    refine VO.nil ?_
    refine ⟨_, [(2, .p y72 c), (5, .raw ww2), (12, .v (.sl .str) l), (13, I ((l.length : Nat) : Int)), (14, I (((i + 1) : Nat) : Int))], ?_, ⟨rfl, rfl, rfl, rfl, rfl, trivial⟩, (i + 1), rfl, rfl, (by rw [evM_succ (by omega)]), (by omega)⟩
    omega
  · refine VC.exit ?_
    show VC _ _ _ _ _ _ _ _
    refine VC.seq ?_
    refine VC.seq ?_
    refine VC.text ?_
    refine VO.c (.fa (.r (.r .o))) ?_
    refine VO.r (.ld vt70) ?_
    refine VO.r (.len el70) ?_
    refine VO.c (.move rfl) ?_
    refine VO.go ?_
    refine VC.block ?_
    refine VC.keep [(5, .raw ww2), (22, .v y70 c.2.2), (23, I ((c.2.2.length : Nat) : Int)), (24, I ((0 : Nat) : Int))] ⟨rfl, rfl, rfl, rfl, trivial⟩ ?_
    refine VC.loop (I := fun kk ff ss => ∃ (j : Nat), kk = c.2.2.length - j ∧ ff = [(5, .raw ww2), (22, .v y70 c.2.2), (23, I ((c.2.2.length : Nat) : Int)), (24, I ((j : Nat) : Int))] ∧ ss = [(ww2, .var [.raw ww1]), (ww1, .mp .str .bool (clM c l j))] ∧ (j ≤ c.2.2.length)) ?_ _ _ _ ⟨0, rfl, rfl, (by rw [show i = l.length by omega] <;> rfl), Nat.zero_le _⟩
    rintro kk ff ss ⟨j, hk2, rfl, rfl, hj⟩
    refine VC.seq ?_
    refine VC.text ?_
    refine VO.c (.lss) ?_
    refine VO.go ?_
    refine VC.seq ?_
    refine VC.condD rfl (fun c8 => ?_) (fun c8 => ?_)
    · refine VC.skip ?_
      show VC _ _ _ _ _ _ _ _
      refine VC.seq ?_
      refine VC.block ?_
      refine VC.seq ?_
      refine VC.text ?_
      refine VO.c (.ix (j := j) rfl rfl el70 (by omega)) ?_
      refine VO.r (.ld vt156) ?_
      refine VO.cell (.alloc zt156) ?_
      intro ww4
      refine VO.setV (cs' := [St ((c.2.2[j]).1), B ((c.2.2[j]).2.1), .v (.sl .str) ((c.2.2[j]).2.2)]) vt156 .v ?_
      refine VO.shut [(9, .p y156 (c.2.2[j]))] (.cons rfl (.var m0 .refl) .nil) ?_
      refine VO.go ?_
      refine VC.seq ?_
      refine VC.text ?_
      refine VO.c (.fa (.r (.r .o))) ?_
      refine VO.r (.ld vt27) ?_
      refine VO.c (.func) ?_
      refine VO.callW el27 rfl rfl .same (.cons .same (.cons (.clo .refl (.cons (.var m0 (.cons (.mp m1) .nil)) .nil)) .nil)) (VF.call (sKeptS_ok (F := inM (clM c l j)) (by have := hc.u _ (List.getElem_mem (show j < c.2.2.length by omega)); omega) (fun _ _ => VF.clo sBy1_ok))) ?_
      intro uu5 hu5
      refine VO.r (.lenW hu5) ?_
      refine VO.c (.assign rfl) ?_
      refine VO.go ?_
      refine VC.text ?_
      refine VO.r (.ldV m0 vt158) ?_
      refine VO.c (.fa (.l .o)) ?_
      refine VO.r (.ld vt9) ?_
      refine VO.c (.move rfl) ?_
      refine VO.c (.fa (.r (.r .o))) ?_
      refine VO.r (.ld vt27) ?_
      refine VO.r (.len el27) ?_
      refine VO.c (.eql) ?_
      refine VO.c (.move rfl) ?_
      refine VO.splitD (x := 41) rfl (fun g11_8 => ?_) (fun g11_8 => ?_)
      · refine VO.skip ?_
        refine VO.skip ?_
        refine VO.skip ?_
        refine VO.skip ?_
        refine VO.skip ?_
        refine VO.skip ?_
        refine VO.c (.pickT rfl rfl) ?_
        refine VO.perm swap1 ?_
        refine VO.mput mt158 ?_
        refine VO.nil ?_
        show VC _ _ _ _ _ _ _ _
        refine VC.text ?_
        refine VO.c (.add rfl rfl (by omega)) ?_
        refine VO.c (.move rfl) ?_
        refine VO.perm swap1 ?_
        refine VO.nil ?_
        refine ⟨_, [(5, .raw ww2), (22, .v y70 c.2.2), (23, I ((c.2.2.length : Nat) : Int)), (24, I (((j + 1) : Nat) : Int))], ?_, ⟨rfl, rfl, rfl, rfl, trivial⟩, (j + 1), rfl, rfl, (by rw [clM_succ (by omega)]; first | rw [holdsX_t g11_8] | (rw [holdsX_f g11_8]; first | rfl | (rw [g11_11]; rfl))), (by omega)⟩
        omega
      · refine VO.c (.fa (.r (.l .o))) ?_
        refine VO.r (.ld vt4) ?_
        refine VO.c (.move rfl) ?_
        refine VO.cg (r := (c.2.2[j]).2.1) (w := true) [] trivial (fun hgd => have g11_11 : (c.2.2[j]).2.1 = true := (by simpa using hgd); (.move rfl)) ?_
        refine VO.cg (r := (c.2.2[j]).2.1) (w := true) [(45, I (((((c.2.2[j]).2.2).filter (inM (clM c l j))).length : Nat) : Int))] ⟨rfl, trivial⟩ (fun hgd => have g11_11 : (c.2.2[j]).2.1 = true := (by simpa using hgd); (.gtr)) ?_
        refine VO.c (.and) ?_
        refine VO.c (.pickF rfl rfl) ?_
        refine VO.perm swap1 ?_
        refine VO.mput mt158 ?_
        refine VO.nil ?_
        show VC _ _ _ _ _ _ _ _
        refine VC.text ?_
        refine VO.c (.add rfl rfl (by omega)) ?_
        refine VO.c (.move rfl) ?_
        refine VO.perm swap1 ?_
        refine VO.nil ?_
        refine ⟨_, [(5, .raw ww2), (22, .v y70 c.2.2), (23, I ((c.2.2.length : Nat) : Int)), (24, I (((j + 1) : Nat) : Int))], ?_, ⟨rfl, rfl, rfl, rfl, trivial⟩, (j + 1), rfl, rfl, (by rw [clM_succ (by omega)]; first | rw [holdsX_t g11_8] | (rw [holdsX_f g11_8]; first | rfl | (rw [g11_11]; rfl))), (by omega)⟩
        omega
    · refine VC.exit ?_
      show VC _ _ _ _ _ _ _ _
      refine VC.seq ?_
      refine VC.text ?_
      refine VO.r (.ldV m0 vt158) ?_
      refine VO.c (.assign rfl) ?_
      refine VO.go ?_
      refine VC.ret ?_
      exact VEnd.one rfl (evC (.mp m1)) (pvE (by rw [byM, show j = c.2.2.length by omega]))
end Go.Proofs
namespace Go.Proofs
open Go.Fs
set_option linter.unusedVariables false
set_option maxHeartbeats 1000000

def hasC (c : Cse) (s : ByteArray) : Bool := c.2.2.any fun x => decide (x.1 = s)
def holdsE (c : Cse) (s : ByteArray) : Bool := inM (byM c (validE c)) s
def twoE (c : Cse) (s : ByteArray) : Int := firstE [caseE c, whenE (!hasC c s) 10]
theorem validE_len {c : Cse} : (validE c).length ≤ c.2.1.length := by
  unfold validE
  rw [List.length_map]
  exact List.length_filter_le _ _
theorem sCheckClaim_ok {c : (List (ByteArray × Int)) × (List (ByteArray × (List (ByteArray × Int)))) × (List (ByteArray × Bool × (List ByteArray)))} {s : ByteArray} (hc : CseOk c) : VF Tryz.prog OA 105 [.v y72 c, St s] (I (twoE c s)) := by
  refine VF.enter Tryz.func105 rfl (fun _ _ => rfl) rfl ?_
  show VC _ _ _ _ _ [(0, .v y72 c), (1, St s)] [] _
  refine VC.seq ?_
  refine VC.text ?_
  have hcl := hc.l
  refine VO.new (.box) ?_
  refine VO.c (.assign rfl) ?_
  refine VO.go ?_
  refine VC.seq ?_
  refine VC.drawn ?_
  refine VD.r [] (.ld vt72) (.inl rfl) ?_
  refine VD.call rfl rfl (VF.call (sCase_ok (by first | assumption | omega | simp))) ?_
  refine VD.r [] (.ld vt72) (.inl rfl) ?_
  refine VD.c (.move rfl) ?_
  refine VD.call rfl rfl (VF.call (sKnows_ok (by first | assumption | omega | simp))) ?_
  refine VD.c (.not) ?_
  refine VD.nw [] ?_
  refine VD.call rfl rfl (VF.call (sWhen_ok )) ?_
  refine VD.new (.lit [caseE c, whenE (!(c.2.2.any fun x => decide (x.1 = s))) (10 : Int)] el204) ?_
  refine VD.callO rfl rfl (VF.call (sFirst_ok (by first | assumption | omega | simp))) ?_
  refine VD.c (.assign rfl) ?_
  refine VD.go ?_
  refine VC.ret ?_
  exact VEnd.one rfl evT (pvI (by rfl))
theorem sHolds_ok {c : (List (ByteArray × Int)) × (List (ByteArray × (List (ByteArray × Int)))) × (List (ByteArray × Bool × (List ByteArray)))} {s : ByteArray} (hc : CseOk c) : VF Tryz.prog OA 39 [.v y72 c, St s] (.tup [B (if twoE c s = 0 then holdsE c s else false), I (twoE c s)]) := by
  refine VF.enter Tryz.func39 rfl (fun _ _ => rfl) rfl ?_
  show VC _ _ _ _ _ [(0, .v y72 c), (1, St s)] [] _
  refine VC.seq ?_
  refine VC.text ?_
  have hcl := hc.l
  have hce := hc.e
  have hvl := validE_len (c := c)
  refine VO.new (.box) ?_
  refine VO.c (.assign rfl) ?_
  refine VO.c (.assign rfl) ?_
  refine VO.go ?_
  refine VC.seq ?_
  refine VC.seq ?_
  refine VC.text ?_
  refine VO.r (.ld vt72) ?_
  refine VO.c (.move rfl) ?_
  refine VO.call rfl rfl (VF.call (sCheckClaim_ok (by first | assumption | omega | simp))) ?_
  refine VO.c (.assign rfl) ?_
  refine VO.go ?_
  refine VC.seq ?_
  refine VC.text ?_
  refine VO.c (.move rfl) ?_
  refine VO.c (.neq) ?_
  refine VO.go ?_
  refine VC.condD rfl (fun c2 => ?_) (fun c2 => ?_)
  · refine VC.seq ?_
    refine VC.text ?_
    refine VO.c (.move rfl) ?_
    refine VO.c (.assign rfl) ?_
    refine VO.c (.assign rfl) ?_
    refine VO.go ?_
    refine VC.ret ?_
    exact VEnd.two rfl evT evT (pvE (by exact (if_neg c2).symm)) (pvI (by rfl))
  · refine VC.skip ?_
    show VC _ _ _ _ _ _ _ _
    refine VC.seq ?_
    refine VC.drawn ?_
    refine VD.r [] (.ld vt72) (.inl rfl) ?_
    refine VD.r [] (.ld vt72) (.inl rfl) ?_
    refine VD.call rfl rfl (VF.call (sValid0_ok (by first | assumption | omega | simp))) ?_
    refine VD.callO rfl rfl (VF.call (sBy_ok (by first | assumption | omega | simp) (by first | assumption | omega | simp))) ?_
    refine VD.c (.move rfl) ?_
    refine VD.ro (.look mt158) ?_
    refine VD.nw [16, 15] ?_
    refine VD.c (.assign rfl) ?_
    refine VD.c (.assign rfl) ?_
    refine VD.go ?_
    refine VC.ret ?_
    exact VEnd.two rfl evT evT (pvE (by exact (if_pos (show twoE c s = 0 by simpa using c2)).symm)) (pvI (by exact (Decidable.not_not.1 c2).symm))
def opnE (c : Cse) (i : Nat) : List ByteArray := ((c.2.2.take i).filter fun x => !holdsE c x.1).map (·.1)
def openE (c : Cse) : List ByteArray := opnE c c.2.2.length
end Go.Proofs
namespace Go.Proofs
open Go.Fs
theorem firstR_zero {f : Nat → Int} {n : Nat} : ∀ (d i : Nat), n - i = d → firstR f i n = 0 → ∀ k, i ≤ k → k < n → f k = 0
  | 0, i, hd, _, k, h1, h2 => by omega
  | d + 1, i, hd, h, k, h1, h2 => by
    have hi : i < n := by omega
    rw [firstR_step hi] at h
    by_cases hf : f i = 0
    · rw [if_pos hf] at h
      by_cases he : k = i
      · subst he; exact hf
      · exact firstR_zero d (i + 1) (by omega) h k (by omega) h2
    · rw [if_neg hf] at h
      exact absurd h hf
theorem firstE_mem0 : ∀ {l : List Int}, firstE l = 0 → ∀ x ∈ l, x = 0
  | [], _, x, hx => by cases hx
  | y :: l, h, x, hx => by
    have e : firstE (y :: l) = if y = 0 then firstE l else y := rfl
    rw [e] at h
    by_cases hy : y = 0
    · rw [if_pos hy] at h
      rcases List.mem_cons.1 hx with e | hx
      · rw [e]; exact hy
      · exact firstE_mem0 h x hx
    · rw [if_neg hy] at h
      exact absurd h hy
theorem idxG_le {α : Type} {F : α → Bool} {l : List α} {i : Nat} (h : i < l.length) (hF : F l[i] = true) : idxG F l 0 ≤ (i : Int) ∧ 0 ≤ idxG F l 0 := by
  have ha : (l.take (i + 1)).any F = true := by
    rw [List.take_succ_eq_append_getElem h, List.any_append]
    simp [hF]
  have e : idxG F l 0 = idxG F (l.take (i + 1) ++ l.drop (i + 1)) 0 := by rw [List.take_append_drop]
  rw [e, idxG_app, if_pos ha]
  have h1 := idxG_bound (k := 0) ha
  rw [List.length_take] at h1
  have h2 := (idxG_any (F := F) (l := l.take (i + 1)) (k := 0) (by omega)).2 ha
  omega
theorem vers_first {l : List Vers} (h : versE l = 0) {i : Nat} (hi : i < l.length) : thingE l l[i].1 = (i : Int) := by
  have hf : firstR (verAt l) 0 l.length = 0 := by
    unfold versE at h
    by_cases hl : 64 < (l.length : Int)
    · rw [if_pos hl] at h; cases h
    · rw [if_neg hl] at h; exact h
  have hv := firstR_zero _ 0 rfl hf i (Nat.zero_le _) hi
  unfold verAt at hv
  rw [vAt_eq hi] at hv
  have h3 := firstE_mem0 hv (whenE (decide (0 ≤ thingE (l.take i) l[i].1)) 9) (by simp)
  have h4 : ¬ 0 ≤ thingE (l.take i) l[i].1 := fun h5 => by rw [decide_eq_true h5] at h3; cases h3
  have h5 : ¬ thingE l l[i].1 < (i : Int) := fun h6 => h4 ((idxG_lt hi (decide_eq_true rfl)).1 h6)
  have h6 := (idxG_le (F := fun v => decide (v.1 = l[i].1)) hi (decide_eq_true rfl)).1
  unfold thingE at h5 ⊢
  omega
theorem hasV_now {l : List Vers} (h : versE l = 0) {v : Vers} (hk : 0 ≤ thingE l v.1) : hasV l v = decide (nowE l v.1 = v.2) := by
  obtain ⟨h1, h2⟩ := thing_get hk
  have hn : nowE l v.1 = l[(thingE l v.1).toNat].2 := by unfold nowE; rw [vAt_eq h1]
  have key : hasV l v = true ↔ nowE l v.1 = v.2 := by
    unfold hasV
    rw [List.any_eq_true]
    constructor
    · rintro ⟨x, hx, he⟩
      have he := of_decide_eq_true he
      subst he
      obtain ⟨i, hi, rfl⟩ := List.getElem_of_mem hx
      have := vers_first h hi
      rw [hn]
      simp only [this, Int.toNat_natCast]
    · intro he
      refine ⟨l[(thingE l v.1).toNat], List.getElem_mem h1, decide_eq_true ?_⟩
      rw [hn] at he
      exact Prod.ext h2.symm he.symm
  cases hb : hasV l v with
  | true => exact (decide_eq_true (key.1 hb)).symm
  | false => exact (decide_eq_false fun h3 => by rw [key.2 h3] at hb; cases hb).symm
theorem fresh_valid {c : Cse} (h : versE c.1 = 0) {x : Evid} (hk : KnownW c x) : freshB c x = validB c x := by
  unfold freshB validB
  rw [List.not_any_eq_all_not]
  rw [Bool.eq_iff_iff, List.all_eq_true, List.all_eq_true]
  constructor
  · intro h1 v hv
    have := h1 v hv
    rw [Bool.not_not, hasV_now h (hk v hv)] at this
    exact this
  · intro h1 v hv
    rw [Bool.not_not, hasV_now h (hk v hv)]
    exact h1 v hv
theorem whenE_known {K : Bool} (h : whenE (!K) 10 = 0) : K = true := by
  cases K with
  | true => rfl
  | false => cases h
theorem case_known {c : Cse} (h : caseE c = 0) : versE c.1 = 0 ∧ CaseK c := by
  have hv : versE c.1 = 0 := by
    unfold caseE at h
    by_cases hv : versE c.1 = 0
    · exact hv
    · rw [if_pos hv] at h; exact h
  refine ⟨hv, fun x hx v hvm => ?_⟩
  have he : firstR (evAt c) 0 c.2.1.length = 0 := by
    unfold caseE at h
    rw [if_neg (fun h2 : versE c.1 ≠ 0 => h2 hv)] at h
    by_cases h4 : 64 < (c.2.1.length : Int)
    · rw [if_pos h4] at h; cases h
    · rw [if_neg h4] at h
      by_cases h5 : firstR (evAt c) 0 c.2.1.length = 0
      · exact h5
      · rw [if_pos h5] at h; exact h
  obtain ⟨i, hi, rfl⟩ := List.getElem_of_mem hx
  have h1 := firstR_zero _ 0 rfl he i (Nat.zero_le _) hi
  unfold evAt at h1
  rw [eAt_eq hi] at h1
  have h2 := firstE_mem0 h1 (withE (knowsV c) c.2.1[i].2) (by simp)
  have h3 : firstR (withAt (knowsV c) c.2.1[i].2) 0 c.2.1[i].2.length = 0 := by
    unfold withE at h2
    by_cases hl : 16 < (c.2.1[i].2.length : Int)
    · rw [if_pos hl] at h2; cases h2
    · rw [if_neg hl] at h2; exact h2
  obtain ⟨k, hk, rfl⟩ := List.getElem_of_mem hvm
  have h4 := firstR_zero _ 0 rfl h3 k (Nat.zero_le _) hk
  unfold withAt at h4
  rw [vAt_eq hk] at h4
  have h5 := whenE_known (firstE_mem0 h4 (whenE (!knowsV c c.2.1[i].2[k].1) 10) (by simp))
  exact of_decide_eq_true h5
theorem validE_R {c : Cse} (h : caseE c = 0) : validE c = validR c := by
  obtain ⟨hv, hk⟩ := case_known h
  unfold validE validR
  congr 1
  exact List.filter_congr fun x hx => fresh_valid hv (hk x hx)
end Go.Proofs
namespace Go.Proofs
open Go.Fs
/-- What a valid case says of its claims. -/
structure ClOk (c : Cse) : Prop where
  new : ∀ i (hi : i < c.2.2.length), knownC c i c.2.2[i].1 = false
  use : ∀ i (hi : i < c.2.2.length), ∀ u ∈ c.2.2[i].2.2, knownC c i u = true
theorem case_claims {c : Cse} (h : caseE c = 0) : ClOk c := by
  have hv : versE c.1 = 0 := (case_known h).1
  have hc : firstR (clAt c) 0 c.2.2.length = 0 := by
    unfold caseE at h
    rw [if_neg (fun h2 : versE c.1 ≠ 0 => h2 hv)] at h
    by_cases h4 : 64 < (c.2.1.length : Int)
    · rw [if_pos h4] at h; cases h
    · rw [if_neg h4] at h
      by_cases h5 : firstR (evAt c) 0 c.2.1.length ≠ 0
      · rw [if_pos h5] at h; exact absurd h h5
      · rw [if_neg h5] at h
        by_cases h6 : 64 < (c.2.2.length : Int)
        · rw [if_pos h6] at h; cases h
        · rw [if_neg h6] at h; exact h
  have key : ∀ i (hi : i < c.2.2.length), whenE (knownC c i c.2.2[i].1) 9 = 0 ∧ usesE (knownC c i) c.2.2[i].2.2 = 0 := fun i hi => by
    have h1 := firstR_zero _ 0 rfl hc i (Nat.zero_le _) hi
    unfold clAt at h1
    rw [cAt_eq hi] at h1
    exact ⟨firstE_mem0 h1 _ (by simp), firstE_mem0 h1 _ (by simp)⟩
  refine ⟨fun i hi => ?_, fun i hi u hu => ?_⟩
  · have := (key i hi).1
    cases hk : knownC c i c.2.2[i].1 with
    | false => rfl
    | true => rw [hk] at this; cases this
  · have h2 := (key i hi).2
    unfold usesE at h2
    by_cases h3 : firstE [whenE (decide (((c.2.2[i].2.2).length : Int) = 0)) 12, whenE (decide (16 < ((c.2.2[i].2.2).length : Int))) 5] = 0
    · rw [if_pos h3] at h2
      obtain ⟨k, hk, rfl⟩ := List.getElem_of_mem hu
      have h4 := firstR_zero _ 0 rfl h2 k (Nat.zero_le _) hk
      unfold usesAt at h4
      have h5 := firstE_mem0 h4 _ List.mem_cons_self
      have h6 := whenE_known h5
      rwa [show (c.2.2[i].2.2).getD k ByteArray.empty = (c.2.2[i].2.2)[k] by simp [hk]] at h6
    · rw [if_neg h3] at h2; exact absurd h2 h3
theorem known_no {c : Cse} {i : Nat} {s : ByteArray} (h : knownC c i s = false) : ¬ 0 ≤ evidE c.2.1 s ∧ ¬ 0 ≤ claimE (c.2.2.take i) s := by
  unfold knownC at h
  rw [Bool.or_eq_false_iff] at h
  exact ⟨of_decide_eq_false h.1, of_decide_eq_false h.2⟩
theorem known_or {c : Cse} {i : Nat} {s : ByteArray} (h : knownC c i s = true) : 0 ≤ evidE c.2.1 s ∨ 0 ≤ claimE (c.2.2.take i) s := by
  unfold knownC at h
  rw [Bool.or_eq_true] at h
  rcases h with h | h
  · exact .inl (of_decide_eq_true h)
  · exact .inr (of_decide_eq_true h)
theorem claim_in {l : List Clm} {s : ByteArray} : 0 ≤ claimE l s ↔ ∃ x ∈ l, x.1 = s := by
  unfold claimE
  rw [idxG_none]
  constructor
  · rintro ⟨x, hx, he⟩; exact ⟨x, hx, of_decide_eq_true he⟩
  · rintro ⟨x, hx, he⟩; exact ⟨x, hx, decide_eq_true he⟩
theorem inM_set {m : BMap} {k s : ByteArray} {b : Bool} : inM (mset m k b) s = if s = k then b else inM m s := by
  unfold inM
  rw [mget_mset]
  by_cases h : s = k
  · rw [if_pos h, if_pos h]; rfl
  · rw [if_neg h, if_neg h]
theorem inM_ev {l : List ByteArray} {s : ByteArray} : ∀ i, i ≤ l.length → inM (evM l i) s = hasB (l.take i) s
  | 0, _ => by simp [evM, inM, mget, hasB]
  | i + 1, h => by
    rw [evM_succ (by omega), inM_set, inM_ev i (by omega), List.take_succ_eq_append_getElem (by omega)]
    unfold hasB
    rw [List.any_append]
    by_cases he : s = l[i]
    · rw [if_pos he]
      simp [he]
    · rw [if_neg he]
      have he2 : ¬ l[i] = s := fun e => he e.symm
      simp [he, he2]
section
variable {c : Cse} {l : List ByteArray}
theorem clM_ev (hc : ClOk c) {s : ByteArray} (hs : 0 ≤ evidE c.2.1 s) : ∀ i, i ≤ c.2.2.length → inM (clM c l i) s = hasB l s
  | 0, _ => by
    show inM (evM l l.length) s = _
    rw [inM_ev _ (Nat.le_refl _), List.take_length]
  | i + 1, h => by
    rw [clM_succ (by omega), inM_set, if_neg, clM_ev hc hs i (by omega)]
    intro e
    rw [e] at hs
    exact (known_no (hc.new i (by omega))).1 hs
theorem names_apart (hc : ClOk c) {i j : Nat} (hj : j < i) (hi : i < c.2.2.length) : ¬ c.2.2[j].1 = c.2.2[i].1 := fun e => by
  have := (known_no (hc.new i hi)).2
  rw [claim_in] at this
  exact this ⟨c.2.2[j], List.mem_take_iff_getElem.2 ⟨j, by omega, rfl⟩, e⟩
theorem clM_at (hc : ClOk c) {j : Nat} (hj : j < c.2.2.length) : ∀ i, j < i → i ≤ c.2.2.length → inM (clM c l i) c.2.2[j].1 = holdsX (clM c l j) c.2.2[j]
  | 0, h, _ => by omega
  | i + 1, h, hi => by
    rw [clM_succ (by omega), inM_set]
    by_cases he : i = j
    · subst he
      rw [if_pos rfl]
    · rw [if_neg (names_apart hc (show j < i by omega) (by omega)), clM_at hc hj i (by omega) (by omega)]
/-- What holds by some evidence. -/
def byR (c : Cse) (l : List ByteArray) (s : ByteArray) : Bool := inM (byM c l) s
theorem byR_at (hc : ClOk c) {j : Nat} (hj : j < c.2.2.length) : byR c l c.2.2[j].1 = holdsX (clM c l j) c.2.2[j] := clM_at hc hj _ hj (Nat.le_refl _)
theorem use_eq (hc : ClOk c) {j : Nat} (hj : j < c.2.2.length) {u : ByteArray} (hu : u ∈ c.2.2[j].2.2) : inM (clM c l j) u = ((decide (0 ≤ evidE c.2.1 u) && hasB l u) || (decide (evidE c.2.1 u < 0) && byR c l u)) := by
  by_cases he : 0 ≤ evidE c.2.1 u
  · rw [clM_ev hc he j (by omega), decide_eq_true he, decide_eq_false (by omega)]
    simp
  · rw [decide_eq_false he, decide_eq_true (by omega)]
    simp only [Bool.false_and, Bool.false_or, Bool.true_and]
    rcases known_or (hc.use j hj u hu) with h1 | h1
    · exact absurd h1 he
    · obtain ⟨x, hx, hxu⟩ := claim_in.1 h1
      obtain ⟨k, hk, rfl⟩ := List.mem_take_iff_getElem.1 hx
      have hk1 : k < j := by omega
      rw [← hxu, clM_at hc (show k < c.2.2.length by omega) j hk1 (by omega), byR_at hc (by omega)]
/-- A use that is no evidence is a claim that stands before. -/
theorem use_before (hc : ClOk c) {j : Nat} (hj : j < c.2.2.length) {u : ByteArray} (hu : u ∈ c.2.2[j].2.2) (he : evidE c.2.1 u < 0) : 0 ≤ claimE c.2.2 u ∧ claimE c.2.2 u < (j : Int) := by
  rcases known_or (hc.use j hj u hu) with h1 | h1
  · omega
  · obtain ⟨x, hx, hxu⟩ := claim_in.1 h1
    obtain ⟨k, hk, rfl⟩ := List.mem_take_iff_getElem.1 hx
    have h2 := idxG_le (F := fun v : Clm => decide (v.1 = u)) (show k < c.2.2.length by omega) (decide_eq_true hxu)
    refine ⟨h2.2, ?_⟩
    have := h2.1
    unfold claimE
    omega
end
end Go.Proofs
namespace Go.Proofs
open Go.Fs
set_option linter.unusedVariables false
set_option maxHeartbeats 1000000

theorem claim_ix {c : Cse} {s : ByteArray} (h : 0 ≤ claimE c.2.2 s) : ∃ (hlt : (claimE c.2.2 s).toNat < c.2.2.length), c.2.2[(claimE c.2.2 s).toNat].1 = s := by
  obtain ⟨h1, h2⟩ := idxG_get h
  exact ⟨h1, of_decide_eq_true h2⟩
def cntU (m : BMap) (x : Clm) (i : Nat) : Nat := ((x.2.2.take i).filter (inM m)).length
theorem cntU_le {m : BMap} {x : Clm} {i : Nat} : cntU m x i ≤ i := by
  unfold cntU
  have h := List.length_filter_le (inM m) (x.2.2.take i)
  rw [List.length_take] at h
  omega
theorem cntU_succ {m : BMap} {x : Clm} {i : Nat} (h : i < x.2.2.length) : cntU m x (i + 1) = cntU m x i + (if inM m x.2.2[i] = true then 1 else 0) := by
  unfold cntU
  rw [List.take_succ_eq_append_getElem h, List.filter_append, List.length_append]
  by_cases hh : inM m x.2.2[i] = true
  · rw [if_pos hh]; simp [hh]
  · rw [if_neg hh]; simp [hh]
theorem cntU_t {m : BMap} {x : Clm} {i : Nat} (h : i < x.2.2.length) (hh : inM m x.2.2[i] = true) : ((cntU m x i : Nat) : Int) + 1 = ((cntU m x (i + 1) : Nat) : Int) := by rw [cntU_succ h, if_pos hh]; omega
theorem cntU_f {m : BMap} {x : Clm} {i : Nat} (h : i < x.2.2.length) (hh : inM m x.2.2[i] = false) : ((cntU m x i : Nat) : Int) = ((cntU m x (i + 1) : Nat) : Int) := by rw [cntU_succ h, if_neg (by rw [hh]; decide)] <;> rfl
theorem use_t1 {c : Cse} {l : List ByteArray} (hc : ClOk c) {j : Nat} (hj : j < c.2.2.length) {u : ByteArray} (hu : u ∈ c.2.2[j].2.2) (h : 0 ≤ evidE c.2.1 u ∧ hasB l u = true) : inM (clM c l j) u = true := by
  rw [use_eq hc hj hu, decide_eq_true h.1, h.2] <;> rfl
theorem use_t2 {c : Cse} {l : List ByteArray} (hc : ClOk c) {j : Nat} (hj : j < c.2.2.length) {u : ByteArray} (hu : u ∈ c.2.2[j].2.2) (h : evidE c.2.1 u < 0 ∧ byR c l u = true) : inM (clM c l j) u = true := by
  rw [use_eq hc hj hu, decide_eq_true h.1, h.2]; simp
theorem use_f {c : Cse} {l : List ByteArray} (hc : ClOk c) {j : Nat} (hj : j < c.2.2.length) {u : ByteArray} (hu : u ∈ c.2.2[j].2.2) (h1 : ¬ 0 ≤ evidE c.2.1 u ∨ hasB l u = false) (h2 : ¬ evidE c.2.1 u < 0 ∨ byR c l u = false) : inM (clM c l j) u = false := by
  rw [use_eq hc hj hu, Bool.or_eq_false_iff, Bool.and_eq_false_iff, Bool.and_eq_false_iff]
  refine ⟨?_, ?_⟩
  · rcases h1 with h1 | h1
    · exact .inl (decide_eq_false h1)
    · exact .inr h1
  · rcases h2 with h2 | h2
    · exact .inl (decide_eq_false h2)
    · exact .inr h2
theorem cntU_end {m : BMap} {x : Clm} {i : Nat} (h : x.2.2.length ≤ i) : cntU m x i = usedN m x := by
  unfold cntU usedN
  rw [List.take_of_length_le h]
theorem byR_end {c : Cse} {l : List ByteArray} {s : ByteArray} (hc : ClOk c) {j i : Nat} (hj : j < c.2.2.length) (hn : c.2.2[j].1 = s) (hi : (c.2.2[j]).2.2.length ≤ i) :
    byR c l s = (decide (((cntU (clM c l j) c.2.2[j] i : Nat) : Int) = ((c.2.2[j]).2.2.length : Nat)) || ((c.2.2[j]).2.1 && decide (0 < ((cntU (clM c l j) c.2.2[j] i : Nat) : Int)))) := by
  rw [← hn, byR_at hc hj, cntU_end hi] <;> rfl
theorem rByS_ok {c : (List (ByteArray × Int)) × (List (ByteArray × (List (ByteArray × Int)))) × (List (ByteArray × Bool × (List ByteArray)))} {s : ByteArray} {l : List ByteArray} (hc : CseOk c) (hk : ClOk c) (hl : l.length < 100000) (hn : 0 ≤ claimE c.2.2 s) (ih : ∀ {u : ByteArray}, 0 ≤ claimE c.2.2 u → claimE c.2.2 u < claimE c.2.2 s → VF Tryz.prog OA 116 [.v y64 c, .v .str u, .v (.sl .str) l] (B (byR c l u))) : VF Tryz.prog OA 116 [.v y64 c, St s, .v (.sl .str) l] (B (byR c l s)) := by
  refine VF.enter Tryz.func116 rfl (fun _ _ => rfl) rfl ?_
  show VC _ _ _ _ _ [(0, .v y64 c), (1, St s), (2, .v (.sl .str) l)] [] _
  refine VC.seq ?_
  refine VC.text ?_
  have hcl := hc.l
  have hce := hc.e
  obtain ⟨hlt, hnm⟩ := claim_ix hn
  have hul := hc.u _ (List.getElem_mem hlt)
  refine VO.new (.box) ?_
  refine VO.c (.assign rfl) ?_
  refine VO.go ?_
  refine VC.seq ?_
  refine VC.drawn ?_
  refine VD.c (.fa (.r (.r .o))) ?_
  refine VD.r [] (.ld vt62) (.inl rfl) ?_
  refine VD.c (.fa (.r (.r .o))) ?_
  refine VD.r [] (.ld vt62) (.inl rfl) ?_
  refine VD.c (.move rfl) ?_
  refine VD.call rfl rfl (VF.call (rClaim_ok (by first | assumption | omega | simp))) ?_
  refine VD.nw [] ?_
  refine VD.c (.ixZ (k := claimE c.2.2 s) rfl rfl el62 (by omega) (by omega)) ?_
  refine VD.r [] (.ld vt109) (.inl rfl) ?_
  refine VD.cell (.alloc zt109) ?_
  intro ww1
  refine VD.mk0 (MakeV.setF (k := 0) vt109 .v (Nat.le_of_ble_eq_true rfl) (.inr ⟨rfl, rfl⟩) rfl rfl) ?_
  rintro _ _ tl2 ⟨rfl, rfl⟩
  refine VD.go ?_
  refine VC.seq ?_
  refine VC.text ?_
  refine VO.c (.assign rfl) ?_
  refine VO.go ?_
  refine VC.seq ?_
  refine VC.seq ?_
  refine VC.text ?_
  refine VO.c (.assign rfl) ?_
  refine VO.go ?_
  refine VC.block ?_
  refine VC.keep [(2, .v (.sl .str) l), (3, .p y64 c), (7, .raw ww1), (8, I ((cntU (clM c l (claimE c.2.2 s).toNat) c.2.2[(claimE c.2.2 s).toNat] 0 : Nat) : Int)), (9, I ((0 : Nat) : Int))] ⟨rfl, rfl, rfl, rfl, rfl, trivial⟩ ?_
  refine VC.loop (I := fun kk ff ss => ∃ (i : Nat), kk = (c.2.2[(claimE c.2.2 s).toNat]).2.2.length - i ∧ ff = [(2, .v (.sl .str) l), (3, .p y64 c), (7, .raw ww1), (8, I ((cntU (clM c l (claimE c.2.2 s).toNat) c.2.2[(claimE c.2.2 s).toNat] i : Nat) : Int)), (9, I ((i : Nat) : Int))] ∧ ss = [(ww1, .var [St ((c.2.2[Int.toNat (claimE c.2.2 s)]).1), B ((c.2.2[Int.toNat (claimE c.2.2 s)]).2.1), .v (.sl .str) ((c.2.2[Int.toNat (claimE c.2.2 s)]).2.2)])] ∧ (i ≤ (c.2.2[(claimE c.2.2 s).toNat]).2.2.length)) ?_ _ _ _ ⟨0, rfl, rfl, rfl, (by omega)⟩
  rintro kk ff ss ⟨i, hk0, rfl, rfl, hi⟩
  have hcu := cntU_le (m := clM c l (claimE c.2.2 s).toNat) (x := c.2.2[(claimE c.2.2 s).toNat]) (i := i)
  refine VC.seq ?_
  refine VC.seq ?_
  refine VC.text ?_
  refine VO.c (.move rfl) ?_
  refine VO.c (.faO (k := 2) m0) ?_
  refine VO.r (.ldF (k := 2) m0 vt27) ?_
  refine VO.r (.len el27) ?_
  refine VO.c (.lss) ?_
  refine VO.go ?_
  refine VC.condD rfl (fun c4 => ?_) (fun c4 => ?_)
  · refine VC.skip ?_
    show VC _ _ _ _ _ _ _ _
    refine VC.seq ?_
    refine VC.block ?_
    refine VC.seq ?_
    refine VC.text ?_
    refine VO.c (.faO (k := 2) m0) ?_
    refine VO.r (.ldF (k := 2) m0 vt27) ?_
    refine VO.c (.move rfl) ?_
    refine VO.c (.ix (j := i) rfl rfl el27 (by omega)) ?_
    refine VO.r (.ld vt9) ?_
    refine VO.c (.assign rfl) ?_
    refine VO.go ?_
    refine VC.seq ?_
    refine VC.text ?_
    refine VO.r (.ld vt64) ?_
    refine VO.c (.move rfl) ?_
    refine VO.call rfl rfl (VF.call (rEvid_ok (by first | assumption | omega | simp))) ?_
    refine VO.c (.geq) ?_
    refine VO.c (.move rfl) ?_
    refine VO.cg (r := decide ((0 : Int) ≤ evidE c.2.1 (((c.2.2[Int.toNat (claimE c.2.2 s)]).2.2)[i]))) (w := true) [] trivial (fun hgd => have g7_4 : (0 : Int) ≤ evidE c.2.1 (((c.2.2[Int.toNat (claimE c.2.2 s)]).2.2)[i]) := (by simpa using hgd); (.move rfl)) ?_
    refine VO.cg (r := decide ((0 : Int) ≤ evidE c.2.1 (((c.2.2[Int.toNat (claimE c.2.2 s)]).2.2)[i]))) (w := true) [] trivial (fun hgd => have g7_4 : (0 : Int) ≤ evidE c.2.1 (((c.2.2[Int.toNat (claimE c.2.2 s)]).2.2)[i]) := (by simpa using hgd); (.move rfl)) ?_
    refine VO.callg (r0 := decide ((0 : Int) ≤ evidE c.2.1 (((c.2.2[Int.toNat (claimE c.2.2 s)]).2.2)[i]))) (w := true) [(36, .v (.sl .str) l), (37, St (((c.2.2[Int.toNat (claimE c.2.2 s)]).2.2)[i]))] ⟨rfl, rfl, trivial⟩ rfl rfl .same .refl rfl (fun hgd => have g7_4 : (0 : Int) ≤ evidE c.2.1 (((c.2.2[Int.toNat (claimE c.2.2 s)]).2.2)[i]) := (by simpa using hgd); VF.call (rHas_ok (by first | assumption | omega | simp))) ?_
    refine VO.c (.and) ?_
    refine VO.c (.move rfl) ?_
    refine VO.splitB (x := 40) rfl (fun g7_9 => ?_) (fun g7_9 => ?_)
    · try simp only [Bool.and_eq_true, Bool.or_eq_true, Bool.and_eq_false_iff, Bool.or_eq_false_iff, Bool.not_eq_true', Bool.not_eq_false', decide_eq_true_eq, decide_eq_false_iff_not] at g7_9
      refine VO.skip ?_
      refine VO.skip ?_
      refine VO.skip ?_
      refine VO.skip ?_
      refine VO.skip ?_
      refine VO.skip ?_
      refine VO.skip ?_
      refine VO.skip ?_
      refine VO.skip ?_
      refine VO.skip ?_
      refine VO.c (.pickT rfl rfl) ?_
      refine VO.go ?_
      refine VC.condT rfl ?_
      refine VC.text ?_
      refine VO.c (.move rfl) ?_
      refine VO.c (.add rfl rfl (by omega)) ?_
      refine VO.c (.assign rfl) ?_
      refine VO.nil ?_
      show VC _ _ _ _ _ _ _ _
      refine VC.keep [(2, .v (.sl .str) l), (3, .p y64 c), (7, .raw ww1), (8, I (((cntU (clM c l (claimE c.2.2 s).toNat) c.2.2[(claimE c.2.2 s).toNat] i : Nat) : Int) + (1 : Int))), (9, I ((i : Nat) : Int))] ⟨rfl, rfl, rfl, rfl, rfl, trivial⟩ ?_
      refine VC.text ?_
      refine VO.c (.move rfl) ?_
      refine VO.c (.add rfl rfl (by omega)) ?_
      refine VO.c (.assign rfl) ?_
      refine VO.nil ?_
      refine ⟨_, [(2, .v (.sl .str) l), (3, .p y64 c), (7, .raw ww1), (8, I ((cntU (clM c l (claimE c.2.2 s).toNat) c.2.2[(claimE c.2.2 s).toNat] (i + 1) : Nat) : Int)), (9, I (((i + 1) : Nat) : Int))], ?_, ⟨rfl, rfl, rfl, slI rfl (by first | exact cntU_t (by omega) (use_t1 hk hlt (List.getElem_mem _) g7_9) | exact cntU_t (by omega) (use_t2 hk hlt (List.getElem_mem _) c7) | exact cntU_f (by omega) (use_f hk hlt (List.getElem_mem _) g7_9 c7)), rfl, trivial⟩, (i + 1), rfl, rfl, rfl, (by omega)⟩
      omega
    · try simp only [Bool.and_eq_true, Bool.or_eq_true, Bool.and_eq_false_iff, Bool.or_eq_false_iff, Bool.not_eq_true', Bool.not_eq_false', decide_eq_true_eq, decide_eq_false_iff_not] at g7_9
      refine VO.r (.ld vt64) ?_
      refine VO.c (.move rfl) ?_
      refine VO.call rfl rfl (VF.call (rEvid_ok (by first | assumption | omega | simp))) ?_
      refine VO.c (.lss) ?_
      refine VO.c (.move rfl) ?_
      refine VO.rg (r := decide (evidE c.2.1 (((c.2.2[Int.toNat (claimE c.2.2 s)]).2.2)[i]) < (0 : Int))) (w := true) [] trivial (fun hgd => have g7_14 : evidE c.2.1 (((c.2.2[Int.toNat (claimE c.2.2 s)]).2.2)[i]) < (0 : Int) := (by simpa using hgd); (.ld vt64)) ?_
      refine VO.cg (r := decide (evidE c.2.1 (((c.2.2[Int.toNat (claimE c.2.2 s)]).2.2)[i]) < (0 : Int))) (w := true) [] trivial (fun hgd => have g7_14 : evidE c.2.1 (((c.2.2[Int.toNat (claimE c.2.2 s)]).2.2)[i]) < (0 : Int) := (by simpa using hgd); (.move rfl)) ?_
      refine VO.cg (r := decide (evidE c.2.1 (((c.2.2[Int.toNat (claimE c.2.2 s)]).2.2)[i]) < (0 : Int))) (w := true) [] trivial (fun hgd => have g7_14 : evidE c.2.1 (((c.2.2[Int.toNat (claimE c.2.2 s)]).2.2)[i]) < (0 : Int) := (by simpa using hgd); (.move rfl)) ?_
      refine VO.callg (r0 := decide (evidE c.2.1 (((c.2.2[Int.toNat (claimE c.2.2 s)]).2.2)[i]) < (0 : Int))) (w := true) [(46, .v y64 c), (47, St (((c.2.2[Int.toNat (claimE c.2.2 s)]).2.2)[i])), (48, .v (.sl .str) l)] ⟨rfl, rfl, rfl, trivial⟩ rfl rfl .same .refl rfl (fun hgd => have g7_14 : evidE c.2.1 (((c.2.2[Int.toNat (claimE c.2.2 s)]).2.2)[i]) < (0 : Int) := (by simpa using hgd); VF.call (ih (use_before hk hlt (List.getElem_mem _) g7_14).1 (by have := (use_before hk hlt (List.getElem_mem _) g7_14).2; omega))) ?_
      refine VO.c (.and) ?_
      refine VO.c (.pickF rfl rfl) ?_
      refine VO.go ?_
      refine VC.condB rfl (fun c7 => ?_) (fun c7 => ?_)
      · try simp only [Bool.and_eq_true, Bool.or_eq_true, Bool.and_eq_false_iff, Bool.or_eq_false_iff, Bool.not_eq_true', Bool.not_eq_false', decide_eq_true_eq, decide_eq_false_iff_not] at c7
        refine VC.text ?_
        refine VO.c (.move rfl) ?_
        refine VO.c (.add rfl rfl (by omega)) ?_
        refine VO.c (.assign rfl) ?_
        refine VO.nil ?_
        show VC _ _ _ _ _ _ _ _
        refine VC.text ?_
        refine VO.c (.move rfl) ?_
        refine VO.c (.add rfl rfl (by omega)) ?_
        refine VO.c (.assign rfl) ?_
        refine VO.nil ?_
        refine ⟨_, [(2, .v (.sl .str) l), (3, .p y64 c), (7, .raw ww1), (8, I ((cntU (clM c l (claimE c.2.2 s).toNat) c.2.2[(claimE c.2.2 s).toNat] (i + 1) : Nat) : Int)), (9, I (((i + 1) : Nat) : Int))], ?_, ⟨rfl, rfl, rfl, slI rfl (by first | exact cntU_t (by omega) (use_t1 hk hlt (List.getElem_mem _) g7_9) | exact cntU_t (by omega) (use_t2 hk hlt (List.getElem_mem _) c7) | exact cntU_f (by omega) (use_f hk hlt (List.getElem_mem _) g7_9 c7)), rfl, trivial⟩, (i + 1), rfl, rfl, rfl, (by omega)⟩
        omega
      · try simp only [Bool.and_eq_true, Bool.or_eq_true, Bool.and_eq_false_iff, Bool.or_eq_false_iff, Bool.not_eq_true', Bool.not_eq_false', decide_eq_true_eq, decide_eq_false_iff_not] at c7
        refine VC.skip ?_
        show VC _ _ _ _ _ _ _ _
        refine VC.text ?_
        refine VO.c (.move rfl) ?_
        refine VO.c (.add rfl rfl (by omega)) ?_
        refine VO.c (.assign rfl) ?_
        refine VO.nil ?_
        refine ⟨_, [(2, .v (.sl .str) l), (3, .p y64 c), (7, .raw ww1), (8, I ((cntU (clM c l (claimE c.2.2 s).toNat) c.2.2[(claimE c.2.2 s).toNat] (i + 1) : Nat) : Int)), (9, I (((i + 1) : Nat) : Int))], ?_, ⟨rfl, rfl, rfl, slI rfl (by first | exact cntU_t (by omega) (use_t1 hk hlt (List.getElem_mem _) g7_9) | exact cntU_t (by omega) (use_t2 hk hlt (List.getElem_mem _) c7) | exact cntU_f (by omega) (use_f hk hlt (List.getElem_mem _) g7_9 c7)), rfl, trivial⟩, (i + 1), rfl, rfl, rfl, (by omega)⟩
        omega
  · refine VC.exit ?_
    show VC _ _ _ _ _ _ _ _
    refine VC.seq ?_
    refine VC.text ?_
    refine VO.c (.move rfl) ?_
    refine VO.c (.faO (k := 2) m0) ?_
    refine VO.r (.ldF (k := 2) m0 vt27) ?_
    refine VO.r (.len el27) ?_
    refine VO.c (.eql) ?_
    refine VO.c (.move rfl) ?_
    refine VO.splitD (x := 59) rfl (fun g9_5 => ?_) (fun g9_5 => ?_)
    · refine VO.skip ?_
      refine VO.skip ?_
      refine VO.skip ?_
      refine VO.skip ?_
      refine VO.skip ?_
      refine VO.skip ?_
      refine VO.c (.pickT rfl rfl) ?_
      refine VO.c (.assign rfl) ?_
      refine VO.go ?_
      refine VC.ret ?_
      exact VEnd.one rfl evT (pvE (by rw [byR_end (i := i) hk hlt hnm (by omega)]; first | (rw [decide_eq_true g9_5]; rfl) | rw [decide_eq_false g9_5, Bool.false_or]))
    · refine VO.c (.faO (k := 1) m0) ?_
      refine VO.r (.ldF (k := 1) m0 vt4) ?_
      refine VO.c (.move rfl) ?_
      refine VO.cg (r := (c.2.2[Int.toNat (claimE c.2.2 s)]).2.1) (w := true) [] trivial (fun hgd => have g9_8 : (c.2.2[Int.toNat (claimE c.2.2 s)]).2.1 = true := (by simpa using hgd); (.move rfl)) ?_
      refine VO.cg (r := (c.2.2[Int.toNat (claimE c.2.2 s)]).2.1) (w := true) [(63, I ((cntU (clM c l (claimE c.2.2 s).toNat) c.2.2[(claimE c.2.2 s).toNat] i : Nat) : Int))] ⟨rfl, trivial⟩ (fun hgd => have g9_8 : (c.2.2[Int.toNat (claimE c.2.2 s)]).2.1 = true := (by simpa using hgd); (.gtr)) ?_
      refine VO.c (.and) ?_
      refine VO.c (.pickF rfl rfl) ?_
      refine VO.c (.assign rfl) ?_
      refine VO.go ?_
      refine VC.ret ?_
      exact VEnd.one rfl evT (pvE (by rw [byR_end (i := i) hk hlt hnm (by omega)]; first | (rw [decide_eq_true g9_5]; rfl) | rw [decide_eq_false g9_5, Bool.false_or]))
theorem rByN {c : Cse} {l : List ByteArray} (hc : CseOk c) (hk : ClOk c) (hl : l.length < 100000) : ∀ (n : Nat) {s : ByteArray}, 0 ≤ claimE c.2.2 s → claimE c.2.2 s < (n : Int) → VF Tryz.prog OA 116 [.v y64 c, .v .str s, .v (.sl .str) l] (B (byR c l s))
  | 0, _, h0, h1 => by omega
  | n + 1, _, h0, h1 => rByS_ok hc hk hl h0 fun hu hlt => rByN hc hk hl n hu (by omega)
theorem rBy_ok {c : Cse} {s : ByteArray} {l : List ByteArray} (hc : CseOk c) (hk : ClOk c) (hl : l.length < 100000) (hn : 0 ≤ claimE c.2.2 s) : VF Tryz.prog OA 116 [.v y64 c, .v .str s, .v (.sl .str) l] (B (byR c l s)) := rByN hc hk hl ((claimE c.2.2 s).toNat + 1) hn (by omega)
theorem validR_len {c : Cse} : (validR c).length ≤ c.2.1.length := by
  unfold validR
  rw [List.length_map]
  exact List.length_filter_le _ _
theorem rHolds_ok {c : (List (ByteArray × Int)) × (List (ByteArray × (List (ByteArray × Int)))) × (List (ByteArray × Bool × (List ByteArray)))} {s : ByteArray} (hc : CseOk c) (hk : ClOk c) (hK : CaseK c) (hn : 0 ≤ claimE c.2.2 s) : VF Tryz.prog OA 47 [.v y64 c, St s] (B (byR c (validR c) s)) := by
  refine VF.enter Tryz.func47 rfl (fun _ _ => rfl) rfl ?_
  show VC _ _ _ _ _ [(0, .v y64 c), (1, St s)] [] _
  refine VC.seq ?_
  refine VC.text ?_
  have hce := hc.e
  have hvl := validR_len (c := c)
  refine VO.new (.box) ?_
  refine VO.c (.assign rfl) ?_
  refine VO.go ?_
  refine VC.seq ?_
  refine VC.drawn ?_
  refine VD.r [] (.ld vt64) (.inl rfl) ?_
  refine VD.c (.move rfl) ?_
  refine VD.r [] (.ld vt64) (.inl rfl) ?_
  refine VD.call rfl rfl (VF.call (rFresh_ok (by first | assumption | omega | simp) (by first | assumption | omega | simp))) ?_
  refine VD.callO rfl rfl (VF.call (rBy_ok (by first | assumption | omega | simp) (by first | assumption | omega | simp) (by first | assumption | omega | simp) (by first | assumption | omega | simp))) ?_
  refine VD.c (.assign rfl) ?_
  refine VD.go ?_
  refine VC.ret ?_
  exact VEnd.one rfl evT (pvE (by first | rfl | simp))
def opnR (c : Cse) (i : Nat) : List ByteArray := ((c.2.2.take i).filter fun x => !byR c (validR c) x.1).map (·.1)
def rTwo (c : Cse) (s : ByteArray) : Int := if caseE c ≠ 0 then caseE c else if claimE c.2.2 s < 0 then 10 else 0
theorem rCheckClaim_ok {c : (List (ByteArray × Int)) × (List (ByteArray × (List (ByteArray × Int)))) × (List (ByteArray × Bool × (List ByteArray)))} {s : ByteArray} (hc : CseOk c) : VF Tryz.prog OA 42 [.v y64 c, St s] (I (rTwo c s)) := by
  refine VF.enter Tryz.func42 rfl (fun _ _ => rfl) rfl ?_
  show VC _ _ _ _ _ [(0, .v y64 c), (1, St s)] [] _
  refine VC.seq ?_
  refine VC.text ?_
  have hcl := hc.l
  refine VO.new (.box) ?_
  refine VO.c (.assign rfl) ?_
  refine VO.go ?_
  refine VC.seq ?_
  refine VC.seq ?_
  refine VC.text ?_
  refine VO.r (.ld vt64) ?_
  refine VO.call rfl rfl (VF.call (rCase_ok (by first | assumption | omega | simp))) ?_
  refine VO.c (.assign rfl) ?_
  refine VO.go ?_
  refine VC.seq ?_
  refine VC.text ?_
  refine VO.c (.move rfl) ?_
  refine VO.c (.neq) ?_
  refine VO.go ?_
  refine VC.condD rfl (fun c2 => ?_) (fun c2 => ?_)
  · refine VC.seq ?_
    refine VC.text ?_
    refine VO.c (.move rfl) ?_
    refine VO.c (.assign rfl) ?_
    refine VO.go ?_
    refine VC.ret ?_
    exact VEnd.one rfl evT (pvI (by first | rw [rTwo, if_pos c2] | rw [rTwo, if_neg c2, if_pos c4] | rw [rTwo, if_neg c2, if_neg c4]))
  · refine VC.skip ?_
    show VC _ _ _ _ _ _ _ _
    refine VC.seq ?_
    refine VC.seq ?_
    refine VC.text ?_
    refine VO.c (.fa (.r (.r .o))) ?_
    refine VO.r (.ld vt62) ?_
    refine VO.c (.move rfl) ?_
    refine VO.call rfl rfl (VF.call (rClaim_ok (by first | assumption | omega | simp))) ?_
    refine VO.c (.lss) ?_
    refine VO.go ?_
    refine VC.condD rfl (fun c4 => ?_) (fun c4 => ?_)
    · refine VC.seq ?_
      refine VC.text ?_
      refine VO.c (.assign rfl) ?_
      refine VO.go ?_
      refine VC.ret ?_
      exact VEnd.one rfl evT (pvI (by first | rw [rTwo, if_pos c2] | rw [rTwo, if_neg c2, if_pos c4] | rw [rTwo, if_neg c2, if_neg c4]))
    · refine VC.skip ?_
      show VC _ _ _ _ _ _ _ _
      refine VC.seq ?_
      refine VC.text ?_
      refine VO.c (.assign rfl) ?_
      refine VO.go ?_
      refine VC.ret ?_
      exact VEnd.one rfl evT (pvI (by first | rw [rTwo, if_pos c2] | rw [rTwo, if_neg c2, if_pos c4] | rw [rTwo, if_neg c2, if_neg c4]))
end Go.Proofs
namespace Go.Fs
variable {P : Program} {fl : VL} {e : TypeId} {τ : Ty}
theorem rep_raws {h : Heap} {S : List Nat} : ∀ vs : List Value, RepL h S (vs.map PV.raw) vs
  | [] => rfl
  | v :: vs => ⟨v, vs, rfl, rfl, rep_raws vs⟩
theorem FreshO.allocR {zs : List PV} (hZ : ZerT P e τ) (hz : (zeroC τ).map PV.raw = zs := by rfl) : FreshO P fl (.alloc e) (.var zs) :=
  ⟨rfl, fun h S t hs hok hS => by
    obtain ⟨z, h1, h2, h3⟩ := hZ.zero
    obtain ⟨z1, z2⟩ := zero_rep h S τ
    obtain ⟨a1, a2⟩ := af_cells (u := z) (by rw [h2]; exact z2)
    subst hz
    refine ⟨fun k => .pointer (some ⟨k, 0, none⟩), .row e z.cells.toList true false, fun _ => rfl, fun S' hN hm => ?_, fun H _ _ _ _ _ => ?_⟩
    · exact ⟨h.next, e, _, rfl, hm, by rw [Heap.get_push, if_pos rfl], by rw [h2]; exact rep_raws _, a2⟩
    · show (match (P.info? e).bind (·.zero) with | some z => if af z then fsBox e z H else none | none => none) = _
      rw [h1]
      simp only [a1, if_true]
      unfold fsBox
      rw [if_pos a2]⟩
theorem swap4 {a b c d e : Value × Cell} {r : Sto} : (a :: b :: c :: d :: e :: r).Perm (e :: a :: b :: c :: d :: r) := (swap3.cons a).trans (List.Perm.swap e a (b :: c :: d :: r))
theorem swap5 {a b c d e f : Value × Cell} {r : Sto} : (a :: b :: c :: d :: e :: f :: r).Perm (f :: a :: b :: c :: d :: e :: r) := (swap4.cons a).trans (List.Perm.swap f a (b :: c :: d :: e :: r))
end Go.Fs
namespace Go.Proofs
open Go.Fs
set_option linter.unusedVariables false
set_option maxHeartbeats 2000000
abbrev y61 : Ty := (.sl (.pair .str (.sl (.pair .str (.int .i64)))))
abbrev y99 : Ty := (.pair .str (.int .i64))
theorem vt99 : ValT Tryz.prog 99 y99 := valT_of (by kernel_rfl)
theorem zt72 : ZerT Tryz.prog 72 y72 := zerT_of (z := .agg #[.slice none 0 0, .slice none 0 0, .slice none 0 0]) (by kernel_rfl) rfl rfl
theorem zt99 : ZerT Tryz.prog 99 y99 := zerT_of (z := .agg #[.string ByteArray.empty, .int .i64 0]) (by kernel_rfl) rfl rfl
theorem bt155 : BldT Tryz.prog 155 y155 [(0, 1), (1, 1)] := bldT_of zt155 rfl (by kernel_rfl)
theorem bt156 : BldT Tryz.prog 156 y156 [(0, 1), (1, 1), (2, 1)] := bldT_of zt156 rfl (by kernel_rfl)
theorem lGiven_ok {c : (List (ByteArray × Int)) × (List (ByteArray × (List (ByteArray × Int)))) × (List (ByteArray × Bool × (List ByteArray)))} (hc : CseOk c) : VF Tryz.prog OA 38 [.v y64 c] (.v y72 c) := by
  refine VF.enter Tryz.func38 rfl (fun _ _ => rfl) rfl ?_
  show VC _ _ _ _ _ [(0, .v y64 c)] [] _
  refine VC.seq ?_
  refine VC.text ?_
  have hcv := hc.v
  have hce := hc.e
  have hcl := hc.l
  refine VO.new (.box) ?_
  refine VO.cell (.allocR (zs := [nilV, nilV, nilV]) zt72) ?_
  intro ww1
  refine VO.go ?_
  refine VC.seq ?_
  refine VC.text ?_
  refine VO.cell (.allocR (zs := [nilV, nilV, nilV]) zt72) ?_
  intro ww2
  refine VO.go ?_
  refine VC.seq ?_
  refine VC.seq ?_
  refine VC.text ?_
  refine VO.c (.fa (.l .o)) ?_
  refine VO.r (.ld vt60) ?_
  refine VO.r (.len el60) ?_
  refine VO.c (.move rfl) ?_
  refine VO.go ?_
  refine VC.block ?_
  refine VC.cell0 153 y153 ?_
  refine VC.keep [(1, .p y64 c), (2, .raw ww1), (3, .raw ww2), (14, .v y60 c.1), (15, I ((c.1.length : Nat) : Int)), (16, I ((0 : Nat) : Int))] ⟨rfl, rfl, rfl, rfl, rfl, rfl, trivial⟩ ?_
  refine VC.loop (I := fun kk ff ss => ∃ (i : Nat) (w0 : Value), kk = c.1.length - i ∧ ff = [(1, .p y64 c), (2, .raw ww1), (3, .raw ww2), (14, .v y60 c.1), (15, I ((c.1.length : Nat) : Int)), (16, I ((i : Nat) : Int))] ∧ ss = [(w0, .row 153 y153 (c.1.take i)), (ww2, .var [.raw w0, nilV, nilV]), (ww1, .var [nilV, nilV, nilV])] ∧ (i ≤ c.1.length)) ?_ _ _ _ ⟨0, (.slice none 0 0), rfl, rfl, rfl, Nat.zero_le _⟩
  rintro kk ff ss ⟨i, w0, hk0, rfl, rfl, hi⟩
  refine VC.seq ?_
  refine VC.text ?_
  refine VO.c (.lss) ?_
  refine VO.go ?_
  refine VC.seq ?_
  refine VC.condD rfl (fun c3 => ?_) (fun c3 => ?_)
  · refine VC.skip ?_
    show VC _ _ _ _ _ _ _ _
    refine VC.seq ?_
    refine VC.block ?_
    refine VC.seq ?_
    refine VC.text ?_
    refine VO.c (.ix (j := i) rfl rfl el60 (by omega)) ?_
    refine VO.r (.ld vt99) ?_
    refine VO.cell (.alloc zt99) ?_
    intro ww3
    refine VO.setV (cs' := [St ((c.1[i]).1), I ((c.1[i]).2)]) vt99 .v ?_
    refine VO.shut [(5, .p y99 (c.1[i]))] (.cons rfl (.var m0 .refl) .nil) ?_
    refine VO.go ?_
    refine VC.text ?_
    refine VO.c (.faO (k := 0) m1) ?_
    refine VO.r (.ldF (k := 0) m1 vt68) ?_
    refine VO.r (.ld vt99) ?_
    refine VO.new (.lit [c.1[i]] el68) ?_
    refine VO.app rfl rfl el68 el68 (by simp; omega) ?_
    intro ww4
    refine VO.c (.faO (k := 0) m1) ?_
    refine VO.perm swap1 ?_
    refine VO.one m1 fun ho5 => ?_
    refine VO.setF (cs' := [.raw ww4, nilV, nilV]) 0 vt68 (.raw rfl (agg_one ho5) ho5) ?_
    refine VO.nil ?_
    show VC _ _ _ _ _ _ _ _
    refine VC.text ?_
    refine VO.c (.add rfl rfl (by omega)) ?_
    refine VO.c (.move rfl) ?_
    refine VO.perm swap2 ?_
    refine VO.perm swap1 ?_
    refine VO.perm swap2 ?_
    refine VO.nil ?_
    refine ⟨_, [(1, .p y64 c), (2, .raw ww1), (3, .raw ww2), (14, .v y60 c.1), (15, I ((c.1.length : Nat) : Int)), (16, I (((i + 1) : Nat) : Int))], ?_, ⟨rfl, rfl, rfl, rfl, rfl, rfl, trivial⟩, (i + 1), ww4, rfl, rfl, (by rw [List.take_succ_eq_append_getElem (by omega)] <;> rfl), (by omega)⟩
    omega
  · refine VC.exit ?_
    show VC _ _ _ _ _ _ _ _
    refine VC.seq ?_
    refine VC.seq ?_
    refine VC.text ?_
    refine VO.c (.fa (.r (.l .o))) ?_
    refine VO.r (.ld vt61) ?_
    refine VO.r (.len el61) ?_
    refine VO.c (.move rfl) ?_
    refine VO.go ?_
    refine VC.block ?_
    refine VC.cell0 155 y155 ?_
    refine VC.keep [(1, .p y64 c), (2, .raw ww1), (3, .raw ww2), (28, .v y61 c.2.1), (29, I ((c.2.1.length : Nat) : Int)), (30, I ((0 : Nat) : Int))] ⟨rfl, rfl, rfl, rfl, rfl, rfl, trivial⟩ ?_
    refine VC.loop (I := fun kk ff ss => ∃ (j : Nat) (w1 : Value), kk = c.2.1.length - j ∧ ff = [(1, .p y64 c), (2, .raw ww1), (3, .raw ww2), (28, .v y61 c.2.1), (29, I ((c.2.1.length : Nat) : Int)), (30, I ((j : Nat) : Int))] ∧ ss = [(w1, .row 155 y155 (c.2.1.take j)), (w0, .row 153 y153 (c.1.take i)), (ww2, .var [.raw w0, .raw w1, nilV]), (ww1, .var [nilV, nilV, nilV])] ∧ (j ≤ c.2.1.length)) ?_ _ _ _ ⟨0, (.slice none 0 0), rfl, rfl, rfl, Nat.zero_le _⟩
    rintro kk ff ss ⟨j, w1, hk2, rfl, rfl, hj⟩
    refine VC.seq ?_
    refine VC.text ?_
    refine VO.c (.lss) ?_
    refine VO.go ?_
    refine VC.seq ?_
    refine VC.condD rfl (fun c8 => ?_) (fun c8 => ?_)
    · have hwl := hc.w _ (List.getElem_mem (show j < c.2.1.length by omega))
      refine VC.skip ?_
      show VC _ _ _ _ _ _ _ _
      refine VC.seq ?_
      refine VC.block ?_
      refine VC.seq ?_
      refine VC.text ?_
      refine VO.c (.ix (j := j) rfl rfl el61 (by omega)) ?_
      refine VO.r (.ld vt96) ?_
      refine VO.cell (.alloc zt96) ?_
      intro ww6
      refine VO.setV (cs' := [St ((c.2.1[j]).1), .v y60 ((c.2.1[j]).2)]) vt96 .v ?_
      refine VO.shut [(7, .p y96 (c.2.1[j]))] (.cons rfl (.var m0 .refl) .nil) ?_
      refine VO.go ?_
      refine VC.seq ?_
      refine VC.text ?_
      refine VO.c (.fa (.l .o)) ?_
      refine VO.r (.ld vt9) ?_
      refine VO.c (.buildA (cs := [St ((c.2.1[j]).1), nilV]) bt155 rfl) ?_
      refine VO.cell (.alloc zt155) ?_
      intro ww7
      refine VO.setV (cs' := [St ((c.2.1[j]).1), nilV]) vt155 (.aggs rfl rfl) ?_
      refine VO.go ?_
      refine VC.seq ?_
      refine VC.seq ?_
      refine VC.text ?_
      refine VO.c (.fa (.r .o)) ?_
      refine VO.r (.ld vt60) ?_
      refine VO.r (.len el60) ?_
      refine VO.c (.move rfl) ?_
      refine VO.go ?_
      refine VC.block ?_
      refine VC.cell0 153 y153 ?_
      refine VC.keep [(1, .p y64 c), (2, .raw ww1), (3, .raw ww2), (8, .raw ww7), (28, .v y61 c.2.1), (29, I ((c.2.1.length : Nat) : Int)), (30, I ((j : Nat) : Int)), (38, .v y60 ((c.2.1[j]).2)), (39, I ((((c.2.1[j]).2).length : Nat) : Int)), (40, I ((0 : Nat) : Int))] ⟨rfl, rfl, rfl, rfl, rfl, rfl, rfl, rfl, rfl, rfl, trivial⟩ ?_
      refine VC.loop (I := fun kk ff ss => ∃ (k : Nat) (w2 : Value), kk = (c.2.1[j]).2.length - k ∧ ff = [(1, .p y64 c), (2, .raw ww1), (3, .raw ww2), (8, .raw ww7), (28, .v y61 c.2.1), (29, I ((c.2.1.length : Nat) : Int)), (30, I ((j : Nat) : Int)), (38, .v y60 ((c.2.1[j]).2)), (39, I ((((c.2.1[j]).2).length : Nat) : Int)), (40, I ((k : Nat) : Int))] ∧ ss = [(w2, .row 153 y153 ((c.2.1[j]).2.take k)), (ww7, .var [St ((c.2.1[j]).1), .raw w2]), (w1, .row 155 y155 (c.2.1.take j)), (w0, .row 153 y153 (c.1.take i)), (ww2, .var [.raw w0, .raw w1, nilV]), (ww1, .var [nilV, nilV, nilV])] ∧ (k ≤ (c.2.1[j]).2.length)) ?_ _ _ _ ⟨0, (.slice none 0 0), rfl, rfl, rfl, (by omega)⟩
      rintro kk ff ss ⟨k, w2, hk4, rfl, rfl, hk⟩
      refine VC.seq ?_
      refine VC.text ?_
      refine VO.c (.lss) ?_
      refine VO.go ?_
      refine VC.seq ?_
      refine VC.condD rfl (fun c12 => ?_) (fun c12 => ?_)
      · refine VC.skip ?_
        show VC _ _ _ _ _ _ _ _
        refine VC.seq ?_
        refine VC.block ?_
        refine VC.seq ?_
        refine VC.text ?_
        refine VO.c (.ix (j := k) rfl rfl el60 (by omega)) ?_
        refine VO.r (.ld vt99) ?_
        refine VO.cell (.alloc zt99) ?_
        intro ww8
        refine VO.setV (cs' := [St ((((c.2.1[j]).2)[k]).1), I ((((c.2.1[j]).2)[k]).2)]) vt99 .v ?_
        refine VO.shut [(10, .p y99 (((c.2.1[j]).2)[k]))] (.cons rfl (.var m0 .refl) .nil) ?_
        refine VO.go ?_
        refine VC.text ?_
        refine VO.c (.faO (k := 1) m1) ?_
        refine VO.r (.ldF (k := 1) m1 vt68) ?_
        refine VO.r (.ld vt99) ?_
        refine VO.new (.lit [((c.2.1[j]).2)[k]] el68) ?_
        refine VO.app rfl rfl el68 el68 (by simp; omega) ?_
        intro ww9
        refine VO.c (.faO (k := 1) m1) ?_
        refine VO.perm swap1 ?_
        refine VO.one m1 fun ho10 => ?_
        refine VO.setF (cs' := [St ((c.2.1[j]).1), .raw ww9]) 1 vt68 (.raw rfl (agg_one ho10) ho10) ?_
        refine VO.nil ?_
        show VC _ _ _ _ _ _ _ _
        refine VC.text ?_
        refine VO.c (.add rfl rfl (by omega)) ?_
        refine VO.c (.move rfl) ?_
        refine VO.perm swap5 ?_
        refine VO.perm swap5 ?_
        refine VO.perm swap5 ?_
        refine VO.perm swap5 ?_
        refine VO.perm swap4 ?_
        refine VO.perm swap5 ?_
        refine VO.nil ?_
        refine ⟨_, [(1, .p y64 c), (2, .raw ww1), (3, .raw ww2), (8, .raw ww7), (28, .v y61 c.2.1), (29, I ((c.2.1.length : Nat) : Int)), (30, I ((j : Nat) : Int)), (38, .v y60 ((c.2.1[j]).2)), (39, I ((((c.2.1[j]).2).length : Nat) : Int)), (40, I (((k + 1) : Nat) : Int))], ?_, ⟨rfl, rfl, rfl, rfl, rfl, rfl, rfl, rfl, rfl, rfl, trivial⟩, (k + 1), ww9, rfl, rfl, (by rw [List.take_succ_eq_append_getElem (by omega)] <;> rfl), (by omega)⟩
        omega
      · refine VC.exit ?_
        show VC _ _ _ _ _ _ _ _
        refine VC.perm swap1 ?_
        refine VC.perm swap1 ?_
        refine VC.shutL [(w2, .row 153 y153 ((c.2.1[j]).2.take k)), (ww7, .var [St ((c.2.1[j]).1), .raw w2])] [(8, .p y155 ((c.2.1[j]).1, ((c.2.1[j]).2.take k)))] rfl (.cons rfl (.var m1 (.cons .same (.cons (.row m0) .nil))) .nil) ?_
        refine VC.text ?_
        refine VO.c (.faO (k := 1) m2) ?_
        refine VO.r (.ldF (k := 1) m2 vt69) ?_
        refine VO.r (.ld vt155) ?_
        refine VO.new (.lit [((c.2.1[j]).1, ((c.2.1[j]).2.take k))] el69) ?_
        refine VO.app rfl rfl el69 el69 (by simp; omega) ?_
        intro ww11
        refine VO.c (.faO (k := 1) m2) ?_
        refine VO.perm swap2 ?_
        refine VO.one m1 fun ho12 => ?_
        refine VO.setF (cs' := [.raw w0, .raw ww11, nilV]) 1 vt69 (.raw rfl (agg_one ho12) ho12) ?_
        refine VO.nil ?_
        show VC _ _ _ _ _ _ _ _
        refine VC.text ?_
        refine VO.c (.add rfl rfl (by omega)) ?_
        refine VO.c (.move rfl) ?_
        refine VO.perm swap3 ?_
        refine VO.perm swap1 ?_
        refine VO.perm swap3 ?_
        refine VO.perm swap3 ?_
        refine VO.nil ?_
        refine ⟨_, [(1, .p y64 c), (2, .raw ww1), (3, .raw ww2), (28, .v y61 c.2.1), (29, I ((c.2.1.length : Nat) : Int)), (30, I (((j + 1) : Nat) : Int))], ?_, ⟨rfl, rfl, rfl, rfl, rfl, rfl, trivial⟩, (j + 1), ww11, rfl, rfl, (by rw [List.take_succ_eq_append_getElem (by omega), List.take_of_length_le (i := k) (by omega)] <;> rfl), (by omega)⟩
        omega
    · refine VC.exit ?_
      show VC _ _ _ _ _ _ _ _
      refine VC.seq ?_
      refine VC.seq ?_
      refine VC.text ?_
      refine VO.c (.fa (.r (.r .o))) ?_
      refine VO.r (.ld vt62) ?_
      refine VO.r (.len el62) ?_
      refine VO.c (.move rfl) ?_
      refine VO.go ?_
      refine VC.block ?_
      refine VC.cell0 156 y156 ?_
      refine VC.keep [(2, .raw ww1), (3, .raw ww2), (59, .v y62 c.2.2), (60, I ((c.2.2.length : Nat) : Int)), (61, I ((0 : Nat) : Int))] ⟨rfl, rfl, rfl, rfl, rfl, trivial⟩ ?_
      refine VC.loop (I := fun kk ff ss => ∃ (m : Nat) (w3 : Value), kk = c.2.2.length - m ∧ ff = [(2, .raw ww1), (3, .raw ww2), (59, .v y62 c.2.2), (60, I ((c.2.2.length : Nat) : Int)), (61, I ((m : Nat) : Int))] ∧ ss = [(w3, .row 156 y156 (c.2.2.take m)), (w1, .row 155 y155 (c.2.1.take j)), (w0, .row 153 y153 (c.1.take i)), (ww2, .var [.raw w0, .raw w1, .raw w3]), (ww1, .var [nilV, nilV, nilV])] ∧ (m ≤ c.2.2.length)) ?_ _ _ _ ⟨0, (.slice none 0 0), rfl, rfl, rfl, Nat.zero_le _⟩
      rintro kk ff ss ⟨m, w3, hk6, rfl, rfl, hm⟩
      refine VC.seq ?_
      refine VC.text ?_
      refine VO.c (.lss) ?_
      refine VO.go ?_
      refine VC.seq ?_
      refine VC.condD rfl (fun c19 => ?_) (fun c19 => ?_)
      · refine VC.skip ?_
        show VC _ _ _ _ _ _ _ _
        refine VC.seq ?_
        refine VC.block ?_
        refine VC.seq ?_
        refine VC.text ?_
        refine VO.c (.ix (j := m) rfl rfl el62 (by omega)) ?_
        refine VO.r (.ld vt109) ?_
        refine VO.cell (.alloc zt109) ?_
        intro ww13
        refine VO.setV (cs' := [St ((c.2.2[m]).1), B ((c.2.2[m]).2.1), .v (.sl .str) ((c.2.2[m]).2.2)]) vt109 .v ?_
        refine VO.shut [(12, .p y109 (c.2.2[m]))] (.cons rfl (.var m0 .refl) .nil) ?_
        refine VO.go ?_
        refine VC.drawn ?_
        refine VD.co (.faO (k := 2) m3) ?_
        refine VD.r [(w3, .row 156 y156 (c.2.2.take m)), (w1, .row 155 y155 (c.2.1.take j)), (w0, .row 153 y153 (c.1.take i)), (ww2, .var [.raw w0, .raw w1, .raw w3]), (ww1, .var [nilV, nilV, nilV])] (.ldF (k := 2) m3 vt70) (.inr ⟨rfl, rfl⟩) ?_
        refine VD.c (.fa (.l .o)) ?_
        refine VD.r [] (.ld vt9) (.inl rfl) ?_
        refine VD.c (.fa (.r (.l .o))) ?_
        refine VD.r [] (.ld vt4) (.inl rfl) ?_
        refine VD.nw [] ?_
        refine VD.c (.fa (.r (.r .o))) ?_
        refine VD.r [] (.ld vt27) (.inl rfl) ?_
        refine VD.call rfl rfl (VF.call (lWords_ok (by have := hc.u _ (List.getElem_mem (show m < c.2.2.length by omega)); omega))) ?_
        refine VD.c (.build ((c.2.2[m]).1, (c.2.2[m]).2.1, ((c.2.2[m]).2.2)) bt156) ?_
        refine VD.new (.lit [((c.2.2[m]).1, (c.2.2[m]).2.1, ((c.2.2[m]).2.2))] el70) ?_
        refine VD.mk (MakeV.app el70 el70 rfl rfl (by simp; omega)) ?_
        rintro _ _ tl14 ⟨ww14, rfl, rfl⟩
        refine VD.co (.faO (k := 2) m3) ?_
        refine VD.perm swap3 ?_
        refine VD.one m1 fun ho15 => ?_
        refine VD.mk0 (MakeV.setF (k := 2) vt70 (.raw rfl (agg_one ho15) ho15) (Nat.le_of_ble_eq_true rfl) (.inl rfl) rfl rfl) ?_
        rintro _ _ tl16 ⟨rfl, rfl⟩
        refine VD.nil ?_
        show VC _ _ _ _ _ _ _ _
        refine VC.text ?_
        refine VO.c (.add rfl rfl (by omega)) ?_
        refine VO.c (.move rfl) ?_
        refine VO.perm swap4 ?_
        refine VO.perm swap1 ?_
        refine VO.perm swap4 ?_
        refine VO.perm swap4 ?_
        refine VO.perm swap4 ?_
        refine VO.nil ?_
        refine ⟨_, [(2, .raw ww1), (3, .raw ww2), (59, .v y62 c.2.2), (60, I ((c.2.2.length : Nat) : Int)), (61, I (((m + 1) : Nat) : Int))], ?_, ⟨rfl, rfl, rfl, rfl, rfl, trivial⟩, (m + 1), ww14, rfl, rfl, (by rw [List.take_succ_eq_append_getElem (by omega)] <;> rfl), (by omega)⟩
        omega
      · refine VC.exit ?_
        show VC _ _ _ _ _ _ _ _
        refine VC.seq ?_
        refine VC.perm swap3 ?_
        refine VC.perm swap1 ?_
        refine VC.perm swap2 ?_
        refine VC.perm swap3 ?_
        refine VC.shutL [(w0, .row 153 y153 (c.1.take i)), (w1, .row 155 y155 (c.2.1.take j)), (w3, .row 156 y156 (c.2.2.take m)), (ww2, .var [.raw w0, .raw w1, .raw w3])] [(3, .p y72 ((c.1.take i), (c.2.1.take j), (c.2.2.take m)))] rfl (.cons rfl (.var m3 (.cons (.row m0) (.cons (.row m1) (.cons (.row m2) .nil)))) .nil) ?_
        refine VC.text ?_
        refine VO.r (.ld vt72) ?_
        refine VO.setV (cs' := [.v y68 (c.1.take i), .v y69 (c.2.1.take j), .v y70 (c.2.2.take m)]) vt72 .v ?_
        refine VO.go ?_
        refine VC.ret ?_
        exact VEnd.one rfl (.cell (x := ((c.1.take i), (c.2.1.take j), (c.2.2.take m))) rfl m0 vt72 .refl) (pvE (by rw [List.take_of_length_le (by omega), List.take_of_length_le (by omega), List.take_of_length_le (by omega)]))
end Go.Proofs
namespace Go.Proofs
open Go.Fs
set_option linter.unusedVariables false
set_option maxHeartbeats 2000000

theorem awakeC_ok : VF Tryz.prog OA 16 [] (B true) := VF.oracle (fun _ => rfl) fun _ _ => ⟨rfl, rfl⟩
theorem wordsE_go : ∀ {a b : List ByteArray}, a.length = b.length → (∀ i (h : i < a.length) (h2 : i < b.length), a[i] = b[i]) → a = b := fun h h2 => List.ext_getElem h h2
theorem same_no {a b : List ByteArray} (h : (a.length : Int) ≠ (b.length : Int)) : ¬ a = b := fun e => h (by rw [e])
theorem same_go {a b : List ByteArray} {j : Nat} {ha : j < a.length} {hb : j < b.length} (hi : ∀ k (h : k < a.length) (h2 : k < b.length), k < j → a[k] = b[k]) (e : ¬ a[j] ≠ b[j]) : ∀ k (h : k < a.length) (h2 : k < b.length), k < j + 1 → a[k] = b[k] := fun k h h2 h3 => by
  by_cases h4 : k < j
  · exact hi k h h2 h4
  · have : k = j := by omega
    subst this
    exact Decidable.not_not.1 e
theorem rSame_ok {a : List ByteArray} {b : List ByteArray} (ha : a.length < 1000000) (hb : b.length < 1000000) : VF Tryz.prog OA 46 [.v (.sl .str) a, .v (.sl .str) b] (B (decide (a = b))) := by
  refine VF.enter Tryz.func46 rfl (fun _ _ => rfl) rfl ?_
  show VC _ _ _ _ _ [(0, .v (.sl .str) a), (1, .v (.sl .str) b)] [] _
  refine VC.seq ?_
  refine VC.text ?_
  refine VO.c (.assign rfl) ?_
  refine VO.go ?_
  refine VC.seq ?_
  refine VC.seq ?_
  refine VC.text ?_
  refine VO.c (.move rfl) ?_
  refine VO.r (.len el27) ?_
  refine VO.c (.move rfl) ?_
  refine VO.r (.len el27) ?_
  refine VO.c (.neq) ?_
  refine VO.go ?_
  refine VC.condD rfl (fun c1 => ?_) (fun c1 => ?_)
  · refine VC.seq ?_
    refine VC.text ?_
    refine VO.c (.assign rfl) ?_
    refine VO.go ?_
    refine VC.ret ?_
    exact VEnd.one rfl evT (pvE (by exact (decide_eq_false (same_no c1)).symm))
  · refine VC.skip ?_
    show VC _ _ _ _ _ _ _ _
    refine VC.seq ?_
    refine VC.seq ?_
    refine VC.text ?_
    refine VO.c (.assign rfl) ?_
    refine VO.go ?_
    refine VC.block ?_
    refine VC.keep [(0, .v (.sl .str) a), (1, .v (.sl .str) b), (5, I ((0 : Nat) : Int))] ⟨rfl, rfl, rfl, trivial⟩ ?_
    refine VC.loop (I := fun kk ff ss => ∃ (j : Nat), kk = a.length - j ∧ ff = [(0, .v (.sl .str) a), (1, .v (.sl .str) b), (5, I ((j : Nat) : Int))] ∧ ss = [] ∧ (j ≤ a.length) ∧ (a.length = b.length) ∧ (∀ k (h : k < a.length) (h2 : k < b.length), k < j → a[k] = b[k])) ?_ _ _ _ ⟨0, rfl, rfl, rfl, Nat.zero_le _, (by omega), (by exact fun k _ _ h => absurd h (by omega))⟩
    rintro kk ff ss ⟨j, hk0, rfl, rfl, hj, hl, hi⟩
    refine VC.seq ?_
    refine VC.seq ?_
    refine VC.text ?_
    refine VO.c (.move rfl) ?_
    refine VO.c (.move rfl) ?_
    refine VO.r (.len el27) ?_
    refine VO.c (.lss) ?_
    refine VO.go ?_
    refine VC.condD rfl (fun c4 => ?_) (fun c4 => ?_)
    · refine VC.skip ?_
      show VC _ _ _ _ _ _ _ _
      refine VC.seq ?_
      refine VC.block ?_
      refine VC.seq ?_
      refine VC.drawn ?_
      refine VD.c (.move rfl) ?_
      refine VD.c (.move rfl) ?_
      refine VD.c (.ix (j := j) rfl rfl el27 (by omega)) ?_
      refine VD.r [] (.ld vt9) (.inl rfl) ?_
      refine VD.c (.move rfl) ?_
      refine VD.c (.move rfl) ?_
      refine VD.nw [] ?_
      refine VD.c (.ix (j := j) rfl rfl el27 (by omega)) ?_
      refine VD.r [] (.ld vt9) (.inl rfl) ?_
      refine VD.c (.sneq) ?_
      refine VD.go ?_
      refine VC.condD rfl (fun c6 => ?_) (fun c6 => ?_)
      · refine VC.seq ?_
        refine VC.text ?_
        refine VO.c (.assign rfl) ?_
        refine VO.go ?_
        refine VC.ret ?_
        exact VEnd.one rfl evT (pvE (by exact (decide_eq_false (fun h => c6 (List.getElem_of_eq h _))).symm))
      · refine VC.skip ?_
        show VC _ _ _ _ _ _ _ _
        refine VC.text ?_
        refine VO.c (.move rfl) ?_
        refine VO.c (.add rfl rfl (by omega)) ?_
        refine VO.c (.assign rfl) ?_
        refine VO.nil ?_
        refine ⟨_, [(0, .v (.sl .str) a), (1, .v (.sl .str) b), (5, I (((j + 1) : Nat) : Int))], ?_, ⟨rfl, rfl, rfl, trivial⟩, (j + 1), rfl, rfl, rfl, (by omega), (by omega), (by exact same_go hi c6)⟩
        omega
    · refine VC.exit ?_
      show VC _ _ _ _ _ _ _ _
      refine VC.seq ?_
      refine VC.text ?_
      refine VO.c (.assign rfl) ?_
      refine VO.go ?_
      refine VC.ret ?_
      exact VEnd.one rfl evT (pvE (by exact (decide_eq_true (wordsE_go hl (fun k h h2 => hi k h h2 (by omega)))).symm))
def vS (v : Vers) : Bool := decide (v.1.size ≤ 60)
def eS (x : Evid) : Bool := (decide (x.1.size ≤ 60) && (decide (x.2.length ≤ 8) || decide (x.2.length = 17))) && x.2.all vS
def cS (x : Clm) : Bool := (decide (x.1.size ≤ 60) && (decide (x.2.2.length ≤ 8) || decide (x.2.2.length = 17))) && shortW x.2.2
def fewB (n : Nat) : Bool := decide (n ≤ 8 ∨ n = 65)
def shortC (c : Cse) : Bool := (fewB c.1.length && (fewB c.2.1.length && fewB c.2.2.length)) && (c.1.all vS && (c.2.1.all eS && c.2.2.all cS))
theorem getD_at {α : Type} {l : List α} {i : Nat} {d : α} (h : i < l.length) : l.getD i d = l[i] := by rw [List.getD_eq_getElem?_getD, List.getElem?_eq_getElem h] <;> rfl
theorem few3 {a b c : Nat} (ha : a ≤ 8 ∨ a = 65) (hb : b ≤ 8 ∨ b = 65) (hc : c ≤ 8 ∨ c = 65) : (fewB a && (fewB b && fewB c)) = true := by
  unfold fewB
  rw [decide_eq_true ha, decide_eq_true hb, decide_eq_true hc]
  rfl
theorem shortC_few {c : Cse} (h : ¬((c.1.length ≤ 8 ∨ c.1.length = 65) ∧ (c.2.1.length ≤ 8 ∨ c.2.1.length = 65) ∧ (c.2.2.length ≤ 8 ∨ c.2.2.length = 65))) : false = shortC c := by
  symm
  unfold shortC
  rw [Bool.and_eq_false_iff]
  left
  refine Bool.eq_false_iff.2 fun hh => h ?_
  rw [Bool.and_eq_true, Bool.and_eq_true] at hh
  exact ⟨of_decide_eq_true hh.1, of_decide_eq_true hh.2.1, of_decide_eq_true hh.2.2⟩
theorem eS_yes {x : Evid} (h : x.1.size ≤ 60) (h2 : x.2.length ≤ 8 ∨ x.2.length = 17) : eS x = x.2.all vS := by
  unfold eS
  rw [decide_eq_true h]
  rcases h2 with h2 | h2
  · rw [decide_eq_true h2] <;> rfl
  · rw [decide_eq_true h2, Bool.or_true] <;> rfl
theorem eS_no {x : Evid} (h : ¬(x.1.size ≤ 60 ∧ (x.2.length ≤ 8 ∨ x.2.length = 17))) : eS x = false := by
  refine Bool.eq_false_iff.2 fun hh => h ?_
  unfold eS at hh
  rw [Bool.and_eq_true, Bool.and_eq_true, Bool.or_eq_true] at hh
  exact ⟨of_decide_eq_true hh.1.1, hh.1.2.imp of_decide_eq_true of_decide_eq_true⟩
theorem cS_yes {x : Clm} (h : x.1.size ≤ 60) (h2 : x.2.2.length ≤ 8 ∨ x.2.2.length = 17) (h3 : shortW x.2.2 = true) : cS x = true := by
  unfold cS
  rw [decide_eq_true h, h3]
  rcases h2 with h2 | h2
  · rw [decide_eq_true h2] <;> rfl
  · rw [decide_eq_true h2, Bool.or_true] <;> rfl
theorem cS_no {x : Clm} (h : (x.1.size ≤ 60 ∧ (x.2.2.length ≤ 8 ∨ x.2.2.length = 17)) → shortW x.2.2 = false) : cS x = false := by
  refine Bool.eq_false_iff.2 fun hh => ?_
  unfold cS at hh
  rw [Bool.and_eq_true, Bool.and_eq_true, Bool.or_eq_true] at hh
  have := h ⟨of_decide_eq_true hh.1.1, hh.1.2.imp of_decide_eq_true of_decide_eq_true⟩
  rw [this] at hh
  exact absurd hh.2 (by decide)
theorem cS_len {a b : Nat} (e : b = a) (h : (decide (8 < (a : Int)) && decide ((b : Int) ≠ 17)) = false) : b < 1000000 := by
  simp only [Bool.and_eq_false_iff, decide_eq_false_iff_not] at h
  omega
theorem cS_c {x : Clm} (h : (8 < (x.2.2.length : Int) ∧ (x.2.2.length : Int) ≠ 17) ∨ shortW x.2.2 = false) : (x.1.size ≤ 60 ∧ (x.2.2.length ≤ 8 ∨ x.2.2.length = 17)) → shortW x.2.2 = false := fun hq => by
  rcases h with h | h
  · omega
  · exact h
theorem cS_g {x : Clm} (h : 60 < (x.1.size : Int)) : (x.1.size ≤ 60 ∧ (x.2.2.length ≤ 8 ∨ x.2.2.length = 17)) → shortW x.2.2 = false := fun hq => by omega
theorem rFewP_ok {n : Int} : VF Tryz.prog OA 103 [I n] (B (decide (n ≤ 8 ∨ n = 65))) := by
  have h := rFew_ok (n := n)
  rwa [← Bool.decide_or] at h
theorem rShortC_ok {c : (List (ByteArray × Int)) × (List (ByteArray × (List (ByteArray × Int)))) × (List (ByteArray × Bool × (List ByteArray)))} : VF Tryz.prog OA 36 [.v y64 c] (B (shortC c)) := by
  refine VF.enter Tryz.func36 rfl (fun _ _ => rfl) rfl ?_
  show VC _ _ _ _ _ [(0, .v y64 c)] [] _
  refine VC.seq ?_
  refine VC.text ?_
  refine VO.new (.box) ?_
  refine VO.c (.assign rfl) ?_
  refine VO.go ?_
  refine VC.seq ?_
  refine VC.seq ?_
  refine VC.text ?_
  refine VO.c (.fa (.l .o)) ?_
  refine VO.r (.ld vt60) ?_
  refine VO.r (.len el60) ?_
  refine VO.call rfl rfl (VF.call (rFewP_ok )) ?_
  refine VO.c (.not) ?_
  refine VO.c (.move rfl) ?_
  refine VO.cg (r := (!(decide (((c.1.length : Nat) : Int) ≤ 8 ∨ ((c.1.length : Nat) : Int) = 65)))) (w := false) [] trivial (fun hgd => have g1_5 : (!(decide (((c.1.length : Nat) : Int) ≤ 8 ∨ ((c.1.length : Nat) : Int) = 65))) = false := (by first | exact eq_of_beq hgd | simpa using hgd); (.fa (.r (.l .o)))) ?_
  refine VO.rg (r := (!(decide (((c.1.length : Nat) : Int) ≤ 8 ∨ ((c.1.length : Nat) : Int) = 65)))) (w := false) [(13, .p y61 c.2.1)] ⟨rfl, trivial⟩ (fun hgd => have g1_5 : (!(decide (((c.1.length : Nat) : Int) ≤ 8 ∨ ((c.1.length : Nat) : Int) = 65))) = false := (by first | exact eq_of_beq hgd | simpa using hgd); (.ld vt61)) ?_
  refine VO.rg (r := (!(decide (((c.1.length : Nat) : Int) ≤ 8 ∨ ((c.1.length : Nat) : Int) = 65)))) (w := false) [(14, .v y61 c.2.1)] ⟨rfl, trivial⟩ (fun hgd => have g1_5 : (!(decide (((c.1.length : Nat) : Int) ≤ 8 ∨ ((c.1.length : Nat) : Int) = 65))) = false := (by first | exact eq_of_beq hgd | simpa using hgd); (.len el61)) ?_
  refine VO.callg (r0 := (!(decide (((c.1.length : Nat) : Int) ≤ 8 ∨ ((c.1.length : Nat) : Int) = 65)))) (w := false) [(15, I ((c.2.1.length : Nat) : Int))] ⟨rfl, trivial⟩ rfl rfl .same .refl rfl (fun hgd => have g1_5 : (!(decide (((c.1.length : Nat) : Int) ≤ 8 ∨ ((c.1.length : Nat) : Int) = 65))) = false := (by first | exact eq_of_beq hgd | simpa using hgd); VF.call (rFewP_ok )) ?_
  refine VO.cg (r := (!(decide (((c.1.length : Nat) : Int) ≤ 8 ∨ ((c.1.length : Nat) : Int) = 65)))) (w := false) [(16, B (decide (((c.2.1.length : Nat) : Int) ≤ 8 ∨ ((c.2.1.length : Nat) : Int) = 65)))] ⟨rfl, trivial⟩ (fun hgd => have g1_5 : (!(decide (((c.1.length : Nat) : Int) ≤ 8 ∨ ((c.1.length : Nat) : Int) = 65))) = false := (by first | exact eq_of_beq hgd | simpa using hgd); (.not)) ?_
  refine VO.c (.or) ?_
  refine VO.c (.move rfl) ?_
  refine VO.cg (r := ((!(decide (((c.1.length : Nat) : Int) ≤ 8 ∨ ((c.1.length : Nat) : Int) = 65))) || (!(decide (((c.2.1.length : Nat) : Int) ≤ 8 ∨ ((c.2.1.length : Nat) : Int) = 65))))) (w := false) [] trivial (fun hgd => have g1_12 : ((!(decide (((c.1.length : Nat) : Int) ≤ 8 ∨ ((c.1.length : Nat) : Int) = 65))) || (!(decide (((c.2.1.length : Nat) : Int) ≤ 8 ∨ ((c.2.1.length : Nat) : Int) = 65)))) = false := (by first | exact eq_of_beq hgd | simpa using hgd); (.fa (.r (.r .o)))) ?_
  refine VO.rg (r := ((!(decide (((c.1.length : Nat) : Int) ≤ 8 ∨ ((c.1.length : Nat) : Int) = 65))) || (!(decide (((c.2.1.length : Nat) : Int) ≤ 8 ∨ ((c.2.1.length : Nat) : Int) = 65))))) (w := false) [(20, .p y62 c.2.2)] ⟨rfl, trivial⟩ (fun hgd => have g1_12 : ((!(decide (((c.1.length : Nat) : Int) ≤ 8 ∨ ((c.1.length : Nat) : Int) = 65))) || (!(decide (((c.2.1.length : Nat) : Int) ≤ 8 ∨ ((c.2.1.length : Nat) : Int) = 65)))) = false := (by first | exact eq_of_beq hgd | simpa using hgd); (.ld vt62)) ?_
  refine VO.rg (r := ((!(decide (((c.1.length : Nat) : Int) ≤ 8 ∨ ((c.1.length : Nat) : Int) = 65))) || (!(decide (((c.2.1.length : Nat) : Int) ≤ 8 ∨ ((c.2.1.length : Nat) : Int) = 65))))) (w := false) [(21, .v y62 c.2.2)] ⟨rfl, trivial⟩ (fun hgd => have g1_12 : ((!(decide (((c.1.length : Nat) : Int) ≤ 8 ∨ ((c.1.length : Nat) : Int) = 65))) || (!(decide (((c.2.1.length : Nat) : Int) ≤ 8 ∨ ((c.2.1.length : Nat) : Int) = 65)))) = false := (by first | exact eq_of_beq hgd | simpa using hgd); (.len el62)) ?_
  refine VO.callg (r0 := ((!(decide (((c.1.length : Nat) : Int) ≤ 8 ∨ ((c.1.length : Nat) : Int) = 65))) || (!(decide (((c.2.1.length : Nat) : Int) ≤ 8 ∨ ((c.2.1.length : Nat) : Int) = 65))))) (w := false) [(22, I ((c.2.2.length : Nat) : Int))] ⟨rfl, trivial⟩ rfl rfl .same .refl rfl (fun hgd => have g1_12 : ((!(decide (((c.1.length : Nat) : Int) ≤ 8 ∨ ((c.1.length : Nat) : Int) = 65))) || (!(decide (((c.2.1.length : Nat) : Int) ≤ 8 ∨ ((c.2.1.length : Nat) : Int) = 65)))) = false := (by first | exact eq_of_beq hgd | simpa using hgd); VF.call (rFewP_ok )) ?_
  refine VO.cg (r := ((!(decide (((c.1.length : Nat) : Int) ≤ 8 ∨ ((c.1.length : Nat) : Int) = 65))) || (!(decide (((c.2.1.length : Nat) : Int) ≤ 8 ∨ ((c.2.1.length : Nat) : Int) = 65))))) (w := false) [(23, B (decide (((c.2.2.length : Nat) : Int) ≤ 8 ∨ ((c.2.2.length : Nat) : Int) = 65)))] ⟨rfl, trivial⟩ (fun hgd => have g1_12 : ((!(decide (((c.1.length : Nat) : Int) ≤ 8 ∨ ((c.1.length : Nat) : Int) = 65))) || (!(decide (((c.2.1.length : Nat) : Int) ≤ 8 ∨ ((c.2.1.length : Nat) : Int) = 65)))) = false := (by first | exact eq_of_beq hgd | simpa using hgd); (.not)) ?_
  refine VO.c (.or) ?_
  refine VO.go ?_
  refine VC.condB rfl (fun c1 => ?_) (fun c1 => ?_)
  · try simp only [Bool.and_eq_true, Bool.or_eq_true, Bool.and_eq_false_iff, Bool.or_eq_false_iff, Bool.not_eq_true', Bool.not_eq_false', decide_eq_true_eq, decide_eq_false_iff_not] at c1
    refine VC.seq ?_
    refine VC.text ?_
    refine VO.c (.assign rfl) ?_
    refine VO.go ?_
    refine VC.ret ?_
    exact VEnd.one rfl evT (pvE (by exact shortC_few (by omega)))
  · try simp only [Bool.and_eq_true, Bool.or_eq_true, Bool.and_eq_false_iff, Bool.or_eq_false_iff, Bool.not_eq_true', Bool.not_eq_false', decide_eq_true_eq, decide_eq_false_iff_not] at c1
    refine VC.skip ?_
    show VC _ _ _ _ _ _ _ _
    refine VC.seq ?_
    refine VC.seq ?_
    refine VC.text ?_
    have h3 := few3 (a := c.1.length) (b := c.2.1.length) (c := c.2.2.length) (by omega) (by omega) (by omega)
    refine VO.c (.assign rfl) ?_
    refine VO.go ?_
    refine VC.block ?_
    refine VC.keep [(1, .p y64 c), (3, I ((0 : Nat) : Int))] ⟨rfl, rfl, trivial⟩ ?_
    refine VC.loop (I := fun kk ff ss => ∃ (i : Nat), kk = c.1.length - i ∧ ff = [(1, .p y64 c), (3, I ((i : Nat) : Int))] ∧ ss = [] ∧ (i ≤ c.1.length) ∧ (shortC c = ((c.1.drop i).all vS && (c.2.1.all eS && c.2.2.all cS)))) ?_ _ _ _ ⟨0, rfl, rfl, rfl, Nat.zero_le _, (by rw [shortC, h3]; rfl)⟩
    rintro kk ff ss ⟨i, hk0, rfl, rfl, hi, hf⟩
    refine VC.seq ?_
    refine VC.seq ?_
    refine VC.text ?_
    refine VO.c (.move rfl) ?_
    refine VO.c (.fa (.l .o)) ?_
    refine VO.r (.ld vt60) ?_
    refine VO.r (.len el60) ?_
    refine VO.c (.lss) ?_
    refine VO.go ?_
    refine VC.condD rfl (fun c4 => ?_) (fun c4 => ?_)
    · refine VC.skip ?_
      show VC _ _ _ _ _ _ _ _
      refine VC.seq ?_
      refine VC.block ?_
      refine VC.seq ?_
      refine VC.text ?_
      refine VO.c (.fa (.l .o)) ?_
      refine VO.r (.ld vt60) ?_
      refine VO.c (.move rfl) ?_
      refine VO.c (.ix (j := i) rfl rfl el60 (by omega)) ?_
      refine VO.c (.fa (.l .o)) ?_
      refine VO.r (.ld vt9) ?_
      refine VO.r (.lenS) ?_
      refine VO.c (.gtr) ?_
      refine VO.go ?_
      refine VC.condD rfl (fun c6 => ?_) (fun c6 => ?_)
      · refine VC.seq ?_
        refine VC.text ?_
        refine VO.c (.assign rfl) ?_
        refine VO.go ?_
        refine VC.ret ?_
        exact VEnd.one rfl evT (pvE (by rw [hf, any_all (by omega), vS, decide_eq_false (by omega)] <;> rfl))
      · refine VC.skip ?_
        show VC _ _ _ _ _ _ _ _
        refine VC.text ?_
        refine VO.c (.move rfl) ?_
        refine VO.c (.add rfl rfl (by omega)) ?_
        refine VO.c (.assign rfl) ?_
        refine VO.nil ?_
        refine ⟨_, [(1, .p y64 c), (3, I (((i + 1) : Nat) : Int))], ?_, ⟨rfl, rfl, trivial⟩, (i + 1), rfl, rfl, rfl, (by omega), (by rw [hf, any_all (by omega), vS, decide_eq_true (by omega), Bool.true_and])⟩
        omega
    · refine VC.exit ?_
      show VC _ _ _ _ _ _ _ _
      refine VC.seq ?_
      refine VC.seq ?_
      refine VC.text ?_
      refine VO.c (.assign rfl) ?_
      refine VO.go ?_
      refine VC.block ?_
      refine VC.keep [(1, .p y64 c), (4, I ((0 : Nat) : Int))] ⟨rfl, rfl, trivial⟩ ?_
      refine VC.loop (I := fun kk ff ss => ∃ (j : Nat), kk = c.2.1.length - j ∧ ff = [(1, .p y64 c), (4, I ((j : Nat) : Int))] ∧ ss = [] ∧ (j ≤ c.2.1.length) ∧ (shortC c = ((c.2.1.drop j).all eS && c.2.2.all cS))) ?_ _ _ _ ⟨0, rfl, rfl, rfl, Nat.zero_le _, (by rw [hf, List.drop_eq_nil_of_le (by omega)]; rfl)⟩
      rintro kk ff ss ⟨j, hk2, rfl, rfl, hj, hg⟩
      refine VC.seq ?_
      refine VC.seq ?_
      refine VC.text ?_
      refine VO.c (.move rfl) ?_
      refine VO.c (.fa (.r (.l .o))) ?_
      refine VO.r (.ld vt61) ?_
      refine VO.r (.len el61) ?_
      refine VO.c (.lss) ?_
      refine VO.go ?_
      refine VC.condD rfl (fun c9 => ?_) (fun c9 => ?_)
      · refine VC.skip ?_
        show VC _ _ _ _ _ _ _ _
        refine VC.seq ?_
        refine VC.block ?_
        refine VC.seq ?_
        refine VC.seq ?_
        refine VC.text ?_
        refine VO.c (.fa (.r (.l .o))) ?_
        refine VO.r (.ld vt61) ?_
        refine VO.c (.move rfl) ?_
        refine VO.c (.ix (j := j) rfl rfl el61 (by omega)) ?_
        refine VO.c (.fa (.l .o)) ?_
        refine VO.r (.ld vt9) ?_
        refine VO.r (.lenS) ?_
        refine VO.c (.gtr) ?_
        refine VO.c (.move rfl) ?_
        refine VO.splitD (x := 56) rfl (fun g11_8 => ?_) (fun g11_8 => ?_)
        · refine VO.skip ?_
          refine VO.skip ?_
          refine VO.skip ?_
          refine VO.skip ?_
          refine VO.skip ?_
          refine VO.skip ?_
          refine VO.skip ?_
          refine VO.skip ?_
          refine VO.skip ?_
          refine VO.skip ?_
          refine VO.skip ?_
          refine VO.skip ?_
          refine VO.skip ?_
          refine VO.skip ?_
          refine VO.skip ?_
          refine VO.skip ?_
          refine VO.skip ?_
          refine VO.skip ?_
          refine VO.c (.pickT rfl rfl) ?_
          refine VO.go ?_
          refine VC.condT rfl ?_
          refine VC.seq ?_
          refine VC.keep [(1, .p y64 c), (4, I ((j : Nat) : Int))] ⟨rfl, rfl, trivial⟩ ?_
          refine VC.text ?_
          refine VO.c (.assign rfl) ?_
          refine VO.go ?_
          refine VC.ret ?_
          exact VEnd.one rfl evT (pvE (by rw [hg, any_all (by omega), eS_no (by omega)] <;> rfl))
        · refine VO.c (.fa (.r (.l .o))) ?_
          refine VO.r (.ld vt61) ?_
          refine VO.c (.move rfl) ?_
          refine VO.c (.ix (j := j) rfl rfl el61 (by omega)) ?_
          refine VO.c (.fa (.r .o)) ?_
          refine VO.r (.ld vt60) ?_
          refine VO.r (.len el60) ?_
          refine VO.c (.gtr) ?_
          refine VO.c (.move rfl) ?_
          refine VO.cg (r := decide ((8 : Int) < ((((c.2.1[j]).2).length : Nat) : Int))) (w := true) [] trivial (fun hgd => have g11_17 : (8 : Int) < ((((c.2.1[j]).2).length : Nat) : Int) := (by simpa using hgd); (.fa (.r (.l .o)))) ?_
          refine VO.rg (r := decide ((8 : Int) < ((((c.2.1[j]).2).length : Nat) : Int))) (w := true) [(66, .p y61 c.2.1)] ⟨rfl, trivial⟩ (fun hgd => have g11_17 : (8 : Int) < ((((c.2.1[j]).2).length : Nat) : Int) := (by simpa using hgd); (.ld vt61)) ?_
          refine VO.cg (r := decide ((8 : Int) < ((((c.2.1[j]).2).length : Nat) : Int))) (w := true) [] trivial (fun hgd => have g11_17 : (8 : Int) < ((((c.2.1[j]).2).length : Nat) : Int) := (by simpa using hgd); (.move rfl)) ?_
          refine VO.cg (r := decide ((8 : Int) < ((((c.2.1[j]).2).length : Nat) : Int))) (w := true) [(67, .v y61 c.2.1), (68, I ((j : Nat) : Int))] ⟨rfl, rfl, trivial⟩ (fun hgd => have g11_17 : (8 : Int) < ((((c.2.1[j]).2).length : Nat) : Int) := (by simpa using hgd); (.ixD rfl rfl (ByteArray.empty, []) el61 (by omega))) ?_
          refine VO.cg (r := decide ((8 : Int) < ((((c.2.1[j]).2).length : Nat) : Int))) (w := true) [(69, .p y96 (c.2.1.getD j (ByteArray.empty, [])))] ⟨rfl, trivial⟩ (fun hgd => have g11_17 : (8 : Int) < ((((c.2.1[j]).2).length : Nat) : Int) := (by simpa using hgd); (.fa (.r .o))) ?_
          refine VO.rg (r := decide ((8 : Int) < ((((c.2.1[j]).2).length : Nat) : Int))) (w := true) [(70, .p y60 ((c.2.1.getD j (ByteArray.empty, [])).2))] ⟨rfl, trivial⟩ (fun hgd => have g11_17 : (8 : Int) < ((((c.2.1[j]).2).length : Nat) : Int) := (by simpa using hgd); (.ld vt60)) ?_
          refine VO.rg (r := decide ((8 : Int) < ((((c.2.1[j]).2).length : Nat) : Int))) (w := true) [(71, .v y60 ((c.2.1.getD j (ByteArray.empty, [])).2))] ⟨rfl, trivial⟩ (fun hgd => have g11_17 : (8 : Int) < ((((c.2.1[j]).2).length : Nat) : Int) := (by simpa using hgd); (.len el60)) ?_
          refine VO.cg (r := decide ((8 : Int) < ((((c.2.1[j]).2).length : Nat) : Int))) (w := true) [(72, I ((((c.2.1.getD j (ByteArray.empty, [])).2).length : Nat) : Int))] ⟨rfl, trivial⟩ (fun hgd => have g11_17 : (8 : Int) < ((((c.2.1[j]).2).length : Nat) : Int) := (by simpa using hgd); (.neq)) ?_
          refine VO.c (.and) ?_
          refine VO.c (.pickF rfl rfl) ?_
          refine VO.go ?_
          refine VC.condB rfl (fun c11 => ?_) (fun c11 => ?_)
          · try simp only [Bool.and_eq_true, Bool.or_eq_true, Bool.and_eq_false_iff, Bool.or_eq_false_iff, Bool.not_eq_true', Bool.not_eq_false', decide_eq_true_eq, decide_eq_false_iff_not] at c11
            try rw [getD_at (by omega)] at c11
            refine VC.seq ?_
            refine VC.text ?_
            refine VO.c (.assign rfl) ?_
            refine VO.go ?_
            refine VC.ret ?_
            exact VEnd.one rfl evT (pvE (by rw [hg, any_all (by omega), eS_no (by omega)] <;> rfl))
          · try simp only [Bool.and_eq_true, Bool.or_eq_true, Bool.and_eq_false_iff, Bool.or_eq_false_iff, Bool.not_eq_true', Bool.not_eq_false', decide_eq_true_eq, decide_eq_false_iff_not] at c11
            try rw [getD_at (by omega)] at c11
            refine VC.skip ?_
            show VC _ _ _ _ _ _ _ _
            refine VC.seq ?_
            refine VC.text ?_
            refine VO.c (.assign rfl) ?_
            refine VO.go ?_
            refine VC.block ?_
            refine VC.keep [(1, .p y64 c), (4, I ((j : Nat) : Int)), (5, I ((0 : Nat) : Int))] ⟨rfl, rfl, rfl, trivial⟩ ?_
            refine VC.loop (I := fun kk ff ss => ∃ (k : Nat), kk = (c.2.1[j]).2.length - k ∧ ff = [(1, .p y64 c), (4, I ((j : Nat) : Int)), (5, I ((k : Nat) : Int))] ∧ ss = [] ∧ (k ≤ (c.2.1[j]).2.length) ∧ (shortC c = (((c.2.1[j]).2.drop k).all vS && ((c.2.1.drop (j + 1)).all eS && c.2.2.all cS)))) ?_ _ _ _ ⟨0, rfl, rfl, rfl, (by omega), (by rw [hg, any_all (by omega), eS_yes (by omega) (by omega)]; exact Bool.and_assoc _ _ _)⟩
            rintro kk ff ss ⟨k, hk4, rfl, rfl, hk, hh⟩
            refine VC.seq ?_
            refine VC.seq ?_
            refine VC.text ?_
            refine VO.c (.move rfl) ?_
            refine VO.c (.fa (.r (.l .o))) ?_
            refine VO.r (.ld vt61) ?_
            refine VO.c (.move rfl) ?_
            refine VO.c (.ix (j := j) rfl rfl el61 (by omega)) ?_
            refine VO.c (.fa (.r .o)) ?_
            refine VO.r (.ld vt60) ?_
            refine VO.r (.len el60) ?_
            refine VO.c (.lss) ?_
            refine VO.go ?_
            refine VC.condD rfl (fun c14 => ?_) (fun c14 => ?_)
            · refine VC.skip ?_
              show VC _ _ _ _ _ _ _ _
              refine VC.seq ?_
              refine VC.block ?_
              refine VC.seq ?_
              refine VC.text ?_
              refine VO.c (.fa (.r (.l .o))) ?_
              refine VO.r (.ld vt61) ?_
              refine VO.c (.move rfl) ?_
              refine VO.c (.ix (j := j) rfl rfl el61 (by omega)) ?_
              refine VO.c (.fa (.r .o)) ?_
              refine VO.r (.ld vt60) ?_
              refine VO.c (.move rfl) ?_
              refine VO.c (.ix (j := k) rfl rfl el60 (by omega)) ?_
              refine VO.c (.fa (.l .o)) ?_
              refine VO.r (.ld vt9) ?_
              refine VO.r (.lenS) ?_
              refine VO.c (.gtr) ?_
              refine VO.go ?_
              refine VC.condD rfl (fun c16 => ?_) (fun c16 => ?_)
              · refine VC.seq ?_
                refine VC.text ?_
                refine VO.c (.assign rfl) ?_
                refine VO.go ?_
                refine VC.ret ?_
                exact VEnd.one rfl evT (pvE (by rw [hh, any_all (by omega), vS, decide_eq_false (by omega)] <;> rfl))
              · refine VC.skip ?_
                show VC _ _ _ _ _ _ _ _
                refine VC.text ?_
                refine VO.c (.move rfl) ?_
                refine VO.c (.add rfl rfl (by omega)) ?_
                refine VO.c (.assign rfl) ?_
                refine VO.nil ?_
                refine ⟨_, [(1, .p y64 c), (4, I ((j : Nat) : Int)), (5, I (((k + 1) : Nat) : Int))], ?_, ⟨rfl, rfl, rfl, trivial⟩, (k + 1), rfl, rfl, rfl, (by omega), (by rw [hh, any_all (by omega), vS, decide_eq_true (by omega), Bool.true_and])⟩
                omega
            · refine VC.exit ?_
              show VC _ _ _ _ _ _ _ _
              refine VC.text ?_
              refine VO.c (.move rfl) ?_
              refine VO.c (.add rfl rfl (by omega)) ?_
              refine VO.c (.assign rfl) ?_
              refine VO.nil ?_
              refine ⟨_, [(1, .p y64 c), (4, I (((j + 1) : Nat) : Int))], ?_, ⟨rfl, rfl, trivial⟩, (j + 1), rfl, rfl, rfl, (by omega), (by rw [hh, List.drop_eq_nil_of_le (by omega)] <;> rfl)⟩
              omega
      · refine VC.exit ?_
        show VC _ _ _ _ _ _ _ _
        refine VC.seq ?_
        refine VC.seq ?_
        refine VC.text ?_
        refine VO.c (.assign rfl) ?_
        refine VO.go ?_
        refine VC.block ?_
        refine VC.keep [(1, .p y64 c), (6, I ((0 : Nat) : Int))] ⟨rfl, rfl, trivial⟩ ?_
        refine VC.loop (I := fun kk ff ss => ∃ (m : Nat), kk = c.2.2.length - m ∧ ff = [(1, .p y64 c), (6, I ((m : Nat) : Int))] ∧ ss = [] ∧ (m ≤ c.2.2.length) ∧ (shortC c = (c.2.2.drop m).all cS)) ?_ _ _ _ ⟨0, rfl, rfl, rfl, Nat.zero_le _, (by rw [hg, List.drop_eq_nil_of_le (by omega)]; rfl)⟩
        rintro kk ff ss ⟨m, hk6, rfl, rfl, hm, hz⟩
        refine VC.seq ?_
        refine VC.seq ?_
        refine VC.text ?_
        refine VO.c (.move rfl) ?_
        refine VO.c (.fa (.r (.r .o))) ?_
        refine VO.r (.ld vt62) ?_
        refine VO.r (.len el62) ?_
        refine VO.c (.lss) ?_
        refine VO.go ?_
        refine VC.condD rfl (fun c19 => ?_) (fun c19 => ?_)
        · refine VC.skip ?_
          show VC _ _ _ _ _ _ _ _
          refine VC.seq ?_
          refine VC.block ?_
          refine VC.seq ?_
          refine VC.text ?_
          refine VO.c (.fa (.r (.r .o))) ?_
          refine VO.r (.ld vt62) ?_
          refine VO.c (.move rfl) ?_
          refine VO.c (.ix (j := m) rfl rfl el62 (by omega)) ?_
          refine VO.c (.fa (.l .o)) ?_
          refine VO.r (.ld vt9) ?_
          refine VO.r (.lenS) ?_
          refine VO.c (.gtr) ?_
          refine VO.c (.move rfl) ?_
          refine VO.splitD (x := 114) rfl (fun g21_8 => ?_) (fun g21_8 => ?_)
          · refine VO.skip ?_
            refine VO.skip ?_
            refine VO.skip ?_
            refine VO.skip ?_
            refine VO.skip ?_
            refine VO.skip ?_
            refine VO.skip ?_
            refine VO.skip ?_
            refine VO.skip ?_
            refine VO.skip ?_
            refine VO.skip ?_
            refine VO.skip ?_
            refine VO.skip ?_
            refine VO.skip ?_
            refine VO.skip ?_
            refine VO.skip ?_
            refine VO.skip ?_
            refine VO.skip ?_
            refine VO.c (.pickT rfl rfl) ?_
            refine VO.c (.move rfl) ?_
            refine VO.skip ?_
            refine VO.skip ?_
            refine VO.skip ?_
            refine VO.skip ?_
            refine VO.skip ?_
            refine VO.skip ?_
            refine VO.skip ?_
            refine VO.skip ?_
            refine VO.c (.pickT rfl rfl) ?_
            refine VO.go ?_
            refine VC.condT rfl ?_
            refine VC.seq ?_
            refine VC.keep [(1, .p y64 c), (6, I ((m : Nat) : Int))] ⟨rfl, rfl, trivial⟩ ?_
            refine VC.text ?_
            refine VO.c (.assign rfl) ?_
            refine VO.go ?_
            refine VC.ret ?_
            exact VEnd.one rfl evT (pvE (by first | (rw [hz, any_all (by omega), cS_no (cS_c c21)]; rfl) | (rw [hz, any_all (by omega), cS_no (cS_g g21_8)]; rfl)))
          · refine VO.c (.fa (.r (.r .o))) ?_
            refine VO.r (.ld vt62) ?_
            refine VO.c (.move rfl) ?_
            refine VO.c (.ix (j := m) rfl rfl el62 (by omega)) ?_
            refine VO.c (.fa (.r (.r .o))) ?_
            refine VO.r (.ld vt27) ?_
            refine VO.r (.len el27) ?_
            refine VO.c (.gtr) ?_
            refine VO.c (.move rfl) ?_
            refine VO.cg (r := decide ((8 : Int) < ((((c.2.2[m]).2.2).length : Nat) : Int))) (w := true) [] trivial (fun hgd => have g21_17 : (8 : Int) < ((((c.2.2[m]).2.2).length : Nat) : Int) := (by first | exact eq_of_beq hgd | simpa using hgd); (.fa (.r (.r .o)))) ?_
            refine VO.rg (r := decide ((8 : Int) < ((((c.2.2[m]).2.2).length : Nat) : Int))) (w := true) [(124, .p y62 c.2.2)] ⟨rfl, trivial⟩ (fun hgd => have g21_17 : (8 : Int) < ((((c.2.2[m]).2.2).length : Nat) : Int) := (by first | exact eq_of_beq hgd | simpa using hgd); (.ld vt62)) ?_
            refine VO.cg (r := decide ((8 : Int) < ((((c.2.2[m]).2.2).length : Nat) : Int))) (w := true) [] trivial (fun hgd => have g21_17 : (8 : Int) < ((((c.2.2[m]).2.2).length : Nat) : Int) := (by first | exact eq_of_beq hgd | simpa using hgd); (.move rfl)) ?_
            refine VO.cg (r := decide ((8 : Int) < ((((c.2.2[m]).2.2).length : Nat) : Int))) (w := true) [(125, .v y62 c.2.2), (126, I ((m : Nat) : Int))] ⟨rfl, rfl, trivial⟩ (fun hgd => have g21_17 : (8 : Int) < ((((c.2.2[m]).2.2).length : Nat) : Int) := (by first | exact eq_of_beq hgd | simpa using hgd); (.ixD rfl rfl (ByteArray.empty, false, []) el62 (by omega))) ?_
            refine VO.cg (r := decide ((8 : Int) < ((((c.2.2[m]).2.2).length : Nat) : Int))) (w := true) [(127, .p y109 (c.2.2.getD m (ByteArray.empty, false, [])))] ⟨rfl, trivial⟩ (fun hgd => have g21_17 : (8 : Int) < ((((c.2.2[m]).2.2).length : Nat) : Int) := (by first | exact eq_of_beq hgd | simpa using hgd); (.fa (.r (.r .o)))) ?_
            refine VO.rg (r := decide ((8 : Int) < ((((c.2.2[m]).2.2).length : Nat) : Int))) (w := true) [(128, .p (.sl .str) ((c.2.2.getD m (ByteArray.empty, false, [])).2.2))] ⟨rfl, trivial⟩ (fun hgd => have g21_17 : (8 : Int) < ((((c.2.2[m]).2.2).length : Nat) : Int) := (by first | exact eq_of_beq hgd | simpa using hgd); (.ld vt27)) ?_
            refine VO.rg (r := decide ((8 : Int) < ((((c.2.2[m]).2.2).length : Nat) : Int))) (w := true) [(129, .v (.sl .str) ((c.2.2.getD m (ByteArray.empty, false, [])).2.2))] ⟨rfl, trivial⟩ (fun hgd => have g21_17 : (8 : Int) < ((((c.2.2[m]).2.2).length : Nat) : Int) := (by first | exact eq_of_beq hgd | simpa using hgd); (.len el27)) ?_
            refine VO.cg (r := decide ((8 : Int) < ((((c.2.2[m]).2.2).length : Nat) : Int))) (w := true) [(130, I ((((c.2.2.getD m (ByteArray.empty, false, [])).2.2).length : Nat) : Int))] ⟨rfl, trivial⟩ (fun hgd => have g21_17 : (8 : Int) < ((((c.2.2[m]).2.2).length : Nat) : Int) := (by first | exact eq_of_beq hgd | simpa using hgd); (.neq)) ?_
            refine VO.c (.and) ?_
            refine VO.c (.pickF rfl rfl) ?_
            refine VO.c (.move rfl) ?_
            refine VO.cg (r := ((decide ((8 : Int) < ((((c.2.2[m]).2.2).length : Nat) : Int))) && (decide (((((c.2.2.getD m (ByteArray.empty, false, [])).2.2).length : Nat) : Int) ≠ (17 : Int))))) (w := false) [] trivial (fun hgd => have g21_28 : ((decide ((8 : Int) < ((((c.2.2[m]).2.2).length : Nat) : Int))) && (decide (((((c.2.2.getD m (ByteArray.empty, false, [])).2.2).length : Nat) : Int) ≠ (17 : Int)))) = false := (by first | exact eq_of_beq hgd | simpa using hgd); (.fa (.r (.r .o)))) ?_
            refine VO.rg (r := ((decide ((8 : Int) < ((((c.2.2[m]).2.2).length : Nat) : Int))) && (decide (((((c.2.2.getD m (ByteArray.empty, false, [])).2.2).length : Nat) : Int) ≠ (17 : Int))))) (w := false) [(135, .p y62 c.2.2)] ⟨rfl, trivial⟩ (fun hgd => have g21_28 : ((decide ((8 : Int) < ((((c.2.2[m]).2.2).length : Nat) : Int))) && (decide (((((c.2.2.getD m (ByteArray.empty, false, [])).2.2).length : Nat) : Int) ≠ (17 : Int)))) = false := (by first | exact eq_of_beq hgd | simpa using hgd); (.ld vt62)) ?_
            refine VO.cg (r := ((decide ((8 : Int) < ((((c.2.2[m]).2.2).length : Nat) : Int))) && (decide (((((c.2.2.getD m (ByteArray.empty, false, [])).2.2).length : Nat) : Int) ≠ (17 : Int))))) (w := false) [] trivial (fun hgd => have g21_28 : ((decide ((8 : Int) < ((((c.2.2[m]).2.2).length : Nat) : Int))) && (decide (((((c.2.2.getD m (ByteArray.empty, false, [])).2.2).length : Nat) : Int) ≠ (17 : Int)))) = false := (by first | exact eq_of_beq hgd | simpa using hgd); (.move rfl)) ?_
            refine VO.cg (r := ((decide ((8 : Int) < ((((c.2.2[m]).2.2).length : Nat) : Int))) && (decide (((((c.2.2.getD m (ByteArray.empty, false, [])).2.2).length : Nat) : Int) ≠ (17 : Int))))) (w := false) [(136, .v y62 c.2.2), (137, I ((m : Nat) : Int))] ⟨rfl, rfl, trivial⟩ (fun hgd => have g21_28 : ((decide ((8 : Int) < ((((c.2.2[m]).2.2).length : Nat) : Int))) && (decide (((((c.2.2.getD m (ByteArray.empty, false, [])).2.2).length : Nat) : Int) ≠ (17 : Int)))) = false := (by first | exact eq_of_beq hgd | simpa using hgd); (.ixD rfl rfl (ByteArray.empty, false, []) el62 (by omega))) ?_
            refine VO.cg (r := ((decide ((8 : Int) < ((((c.2.2[m]).2.2).length : Nat) : Int))) && (decide (((((c.2.2.getD m (ByteArray.empty, false, [])).2.2).length : Nat) : Int) ≠ (17 : Int))))) (w := false) [(138, .p y109 (c.2.2.getD m (ByteArray.empty, false, [])))] ⟨rfl, trivial⟩ (fun hgd => have g21_28 : ((decide ((8 : Int) < ((((c.2.2[m]).2.2).length : Nat) : Int))) && (decide (((((c.2.2.getD m (ByteArray.empty, false, [])).2.2).length : Nat) : Int) ≠ (17 : Int)))) = false := (by first | exact eq_of_beq hgd | simpa using hgd); (.fa (.r (.r .o)))) ?_
            refine VO.rg (r := ((decide ((8 : Int) < ((((c.2.2[m]).2.2).length : Nat) : Int))) && (decide (((((c.2.2.getD m (ByteArray.empty, false, [])).2.2).length : Nat) : Int) ≠ (17 : Int))))) (w := false) [(139, .p (.sl .str) ((c.2.2.getD m (ByteArray.empty, false, [])).2.2))] ⟨rfl, trivial⟩ (fun hgd => have g21_28 : ((decide ((8 : Int) < ((((c.2.2[m]).2.2).length : Nat) : Int))) && (decide (((((c.2.2.getD m (ByteArray.empty, false, [])).2.2).length : Nat) : Int) ≠ (17 : Int)))) = false := (by first | exact eq_of_beq hgd | simpa using hgd); (.ld vt27)) ?_
            refine VO.callg (r0 := ((decide ((8 : Int) < ((((c.2.2[m]).2.2).length : Nat) : Int))) && (decide (((((c.2.2.getD m (ByteArray.empty, false, [])).2.2).length : Nat) : Int) ≠ (17 : Int))))) (w := false) [(140, .v (.sl .str) ((c.2.2.getD m (ByteArray.empty, false, [])).2.2))] ⟨rfl, trivial⟩ rfl rfl .same .refl rfl (fun hgd => have g21_28 : ((decide ((8 : Int) < ((((c.2.2[m]).2.2).length : Nat) : Int))) && (decide (((((c.2.2.getD m (ByteArray.empty, false, [])).2.2).length : Nat) : Int) ≠ (17 : Int)))) = false := (by first | exact eq_of_beq hgd | simpa using hgd); VF.call (rShort_ok (cS_len (by rw [getD_at (by omega)]) g21_28))) ?_
            refine VO.cg (r := ((decide ((8 : Int) < ((((c.2.2[m]).2.2).length : Nat) : Int))) && (decide (((((c.2.2.getD m (ByteArray.empty, false, [])).2.2).length : Nat) : Int) ≠ (17 : Int))))) (w := false) [(141, B (shortW ((c.2.2.getD m (ByteArray.empty, false, [])).2.2)))] ⟨rfl, trivial⟩ (fun hgd => have g21_28 : ((decide ((8 : Int) < ((((c.2.2[m]).2.2).length : Nat) : Int))) && (decide (((((c.2.2.getD m (ByteArray.empty, false, [])).2.2).length : Nat) : Int) ≠ (17 : Int)))) = false := (by first | exact eq_of_beq hgd | simpa using hgd); (.not)) ?_
            refine VO.c (.or) ?_
            refine VO.go ?_
            refine VC.condB rfl (fun c21 => ?_) (fun c21 => ?_)
            · try simp only [Bool.and_eq_true, Bool.or_eq_true, Bool.and_eq_false_iff, Bool.or_eq_false_iff, Bool.not_eq_true', Bool.not_eq_false', decide_eq_true_eq, decide_eq_false_iff_not] at c21
              try simp only [getD_at (show m < c.2.2.length by omega)] at c21
              refine VC.seq ?_
              refine VC.text ?_
              refine VO.c (.assign rfl) ?_
              refine VO.go ?_
              refine VC.ret ?_
              exact VEnd.one rfl evT (pvE (by first | (rw [hz, any_all (by omega), cS_no (cS_c c21)]; rfl) | (rw [hz, any_all (by omega), cS_no (cS_g g21_8)]; rfl)))
            · try simp only [Bool.and_eq_true, Bool.or_eq_true, Bool.and_eq_false_iff, Bool.or_eq_false_iff, Bool.not_eq_true', Bool.not_eq_false', decide_eq_true_eq, decide_eq_false_iff_not] at c21
              try simp only [getD_at (show m < c.2.2.length by omega)] at c21
              refine VC.skip ?_
              show VC _ _ _ _ _ _ _ _
              refine VC.text ?_
              refine VO.c (.move rfl) ?_
              refine VO.c (.add rfl rfl (by omega)) ?_
              refine VO.c (.assign rfl) ?_
              refine VO.nil ?_
              refine ⟨_, [(1, .p y64 c), (6, I (((m + 1) : Nat) : Int))], ?_, ⟨rfl, rfl, trivial⟩, (m + 1), rfl, rfl, rfl, (by omega), (by rw [hz, any_all (by omega), cS_yes (by omega) (by omega) c21.2, Bool.true_and])⟩
              omega
        · refine VC.exit ?_
          show VC _ _ _ _ _ _ _ _
          refine VC.seq ?_
          refine VC.text ?_
          refine VO.c (.assign rfl) ?_
          refine VO.go ?_
          refine VC.ret ?_
          exact VEnd.one rfl evT (pvE (by rw [hz, List.drop_eq_nil_of_le (by omega)] <;> rfl))
end Go.Proofs
namespace Go.Fs
variable {P : Program} {orc : FuncId → List Value → Heap → Option (Value × Heap)} {rnd : Option Nat} {h h' h0 h1 h2 hs : Heap} {S S' S0 B G : List Nat} {σ σ' : Sto} {t t' : Tr} {ms : List Nat} {fl : VL} {ops : Array Oper} {n i mem : Nat} {l : List Oper} {K : VL → Sto → Prop} {Q : Ex → VL → Sto → Prop}
  {d d1 d2 : Tmp} {ty ty1 ty2 : TypeId} {pos pos1 pos2 : String} {after after1 after2 : Array Edge} {op : Op} {v v1 : PV} {g g1 g2 : Option (Nat × Bool)} {bs nw : List Nat} {segs : List (Nat × Nat × Nat)} {tail so : Bool}

section
variable (P orc)
def VDu (ops : Array Oper) (n : Nat) (l : List Oper) (i : Nat) (fl : VL) (nw : List Nat) (σ : Sto) (so : Bool) (bs : List Nat) (mem : Nat) (K : VL → Sto → Prop) : Prop :=
  ∀ (h0 : Heap) (G S0 : List Nat) (t : Tr) (h : Heap) (ms : List Nat) (segs : List (Nat × Nat × Nat)), Iv h0 G S0 h σ t ms fl → Old S0 h σ t fl nw so segs → (∀ s ∈ segs, s.2.2 ≤ h.next) →
    EvD P orc ops n l i ⟨t, h, bs, segs, mem, false⟩ fun s => ∃ fl' σ', Iv h0 G S0 s.h σ' s.t ms fl' ∧ K fl' σ'
end
theorem VC.drawnU {id : Nat} {ops : Array Oper} (hx : VDu P orc ops n ops.toList 0 fl [] σ true [] 0 fun fl' σ' => Q .normal fl' σ') (hl : lateB ops = false := by kernel_rfl) : VC P orc rnd (.region id ops true) n fl σ Q := fun h0 G S0 t h ms I => by
  refine EvC.draw hl ?_
  obtain ⟨m, s', h1, fl', σ', h2, h3⟩ := hx h0 G S0 t h ms [] I ⟨h, I.ok, After.refl h, SegsOk.nil, I.lc.s0, fun k pv hk _ => I.slots k pv hk, fun _ => I.cells⟩ (fun _ hs => by cases hs)
  exact ⟨m, s', h1, rfl, fl', σ', h2, h3⟩
theorem VDu.c {b : Nat} (hc : CalmV P fl [] op v) (hk : VDu P orc ops n l (i + 1) ((d, v) :: fl) (nwSet (oldOp nw op || v.flat0) d nw) σ so (bs ++ [b]) mem K)
    (hb : beforeOf bs ⟨some d, op, ty, pos, after, g⟩ = b := by rfl) (hw : wantV ops fl g = some true := by rfl) (hn : (Nat.blt d n && Nat.ble n 4000) = true := by rfl) :
    VDu P orc ops n (⟨some d, op, ty, pos, after, g⟩ :: l) i fl nw σ so bs mem K := fun h0 G S0 t h ms segs I ho hup => by
  obtain ⟨n1, n2⟩ := fits hn
  obtain ⟨u, e1, e2⟩ := hc.2 h (own σ ++ S0) t I.slots.sees (fun _ hc => by cases hc)
  refine EvD.op (s' := ⟨t.set depth d u, h, bs ++ [b], segs, mem, false⟩) ?_ (hk h0 G S0 _ h ms segs (I.set e1 n2) (ho.set n2 fun hold hs a1 a2 a3 a4 a5 => ?_) hup)
  · unfold fsDraw
    have hwt : fsWanted ops t ⟨some d, op, ty, pos, after, g⟩ = some true := want_ok I.slots hw
    simp only [hwt, hc.1, if_true, e2, Nat.beq_refl, cond_true, put_fits n1, Option.map_some, hb]
  · rcases Bool.or_eq_true_iff.1 hold with hold | hold
    · obtain ⟨u', f1, f2⟩ := hc.2 hs (own σ ++ S0) t (old_op a4 hold) (fun _ hc => by cases hc)
      have : u' = u := by
        have g1 := e2 none 0 "" #[] none h
        rw [f2 none 0 "" #[] none h] at g1
        simpa using g1
      rw [← this]; exact f1
    · exact (RepPV.flat0 hold e1).2 _ _
theorem VDu.r {b : Nat} (cs : Sto) (hc : ReadV P fl cs op v) (hcs : cs = [] ∨ (so = true ∧ cs = σ)) (hk : VDu P orc ops n l (i + 1) ((d, v) :: fl) (nwSet true d nw) σ so (bs ++ [b]) (mem ||| 2 ^ i) K)
    (hb : beforeOf bs ⟨some d, op, ty, pos, after, g⟩ = b := by rfl) (hold : oldOp nw op = true := by rfl) (hw : wantV ops fl g = some true := by rfl) (hn : (Nat.blt d n && Nat.ble n 4000) = true := by rfl) :
    VDu P orc ops n (⟨some d, op, ty, pos, after, g⟩ :: l) i fl nw σ so bs mem K := fun h0 G S0 t h ms segs I ho hup => by
  obtain ⟨n1, n2⟩ := fits hn
  obtain ⟨M, m1, m2, m3, m4, m5, m6, m7⟩ := seen_ok (tail := false) (mem := mem) I hb (fun _ => ho)
  obtain ⟨hs, a1, a2, a3, a4, a5, a6, a7⟩ := m7 rfl
  have hcell : ∀ c ∈ cs, CellR hs (own σ ++ S0) c.1 c.2 := by
    rcases hcs with rfl | ⟨hso, hcs⟩
    · intro c hc; cases hc
    · rw [hcs]; exact a7 hso
  obtain ⟨u, e1, e2⟩ := hc.2 hs (own σ ++ S0) t (old_op a6 hold) hcell
  have hst := e2 M (fun b o hg => by rw [a3.get b (a1 b o hg)]; exact hg) (some d) ty pos after g
  have hrep : RepPV h (own σ ++ S0) v u := e1.nx (a2.nx a1)
  refine EvD.op (draw_read m1 m3 m4 hb rfl hc.1 (want_ok I.slots hw) rfl hst n1) (hk h0 G S0 _ h ms _ (I.set hrep n2) ?_ fun s hs => ?_)
  · refine Old.seg ?_ (Nat.le_refl _)
    refine Old.set (old := true) ⟨hs, a1, a2, a4, a5, a6, a7⟩ n2 fun _ hs' b1 b2 b3 b4 b5 => ?_
    have hcell' : ∀ c ∈ cs, CellR hs' (own σ ++ S0) c.1 c.2 := by
      rcases hcs with rfl | ⟨hso, hcs⟩
      · intro c hc; cases hc
      · rw [hcs]; exact b5 hso
    obtain ⟨u', f1, f2⟩ := hc.2 hs' (own σ ++ S0) t (old_op b4 hold) hcell'
    have g1 := e2 h (fun b o hg => by rw [a2.get b (a1 b o hg)]; exact hg) (some d) ty pos after g
    rw [f2 h (fun b o hg => by rw [b2.get b (b1 b o hg)]; exact hg) (some d) ty pos after g] at g1
    have : u' = u := by simpa using g1
    rw [← this]; exact f1
  · rcases List.mem_cons.1 hs with rfl | hs
    · exact Nat.le_refl _
    · exact hup s hs
theorem mask_keep {m b : Nat} : ∀ (segs : List (Nat × Nat × Nat)) (objs : List (Nat × AObj)), (∀ s ∈ segs, m.testBit s.1 = false → ¬(s.2.1 ≤ b ∧ b < s.2.2)) → look (mask m segs objs) b = look objs b
  | [], _, _ => rfl
  | (k, lo, hi) :: segs, objs, h => by
    simp only [mask]
    rw [mask_keep segs _ fun s hs => h s (List.mem_cons_of_mem _ hs)]
    cases hk : m.testBit k with
    | true => rfl
    | false =>
      have := h (k, lo, hi) List.mem_cons_self hk
      simp only [Bool.false_eq_true, if_false]
      refine look_filter_all (fun o => ?_) objs
      unfold outside
      simp only [Bool.not_eq_true', Bool.and_eq_false_iff, decide_eq_false_iff_not]
      exact Decidable.not_and_iff_not_or_not.1 this
def oldOr (nw : List Nat) (k : Nat) : Operand → Bool
  | .tmp i => Nat.beq k i || !nwHas nw i
  | _ => true
theorem VDu.newcall {b1 b2 : Nat} {f : Operand} {args : Array Operand} {ats : Array TypeId} {F r : PV} {asl : List PV} (hs : FreshV P fl op v1) (hf : evV ((d1, v1) :: fl) f = some F) (ha : evVs ((d1, v1) :: fl) args.toList = some asl) (hc : VCall P orc F asl r)
    (hk : VD P orc ops n l (i + 1 + 1) ((d2, r) :: (d1, v1) :: fl) (nwSet r.flat d2 (nwSet false d1 nw)) σ so (bs ++ [b1] ++ [b2]) ((mem ||| 2 ^ i) ||| 2 ^ (i + 1)) false K)
    (hb1 : beforeOf bs ⟨some d1, op, ty1, pos1, after1, g1⟩ = b1 := by rfl) (hb2 : beforeOf (bs ++ [b1]) ⟨some d2, .call { callee := .value f, args := args, argTypes := ats }, ty2, pos2, after2, g2⟩ = b2 := by rfl) (hbit : b2.testBit i = true := by rfl)
    (hold : oldOp nw op = true := by rfl) (hcall : (oldOr nw d1 f && args.toList.all (oldOr nw d1)) = true := by rfl) (hw1 : wantV ops fl g1 = some true := by rfl) (hw2 : wantV ops ((d1, v1) :: fl) g2 = some true := by rfl) (hn1 : (Nat.blt d1 n && Nat.ble n 4000) = true := by rfl) (hn2 : (Nat.blt d2 n && Nat.ble n 4000) = true := by rfl) :
    VDu P orc ops n (⟨some d1, op, ty1, pos1, after1, g1⟩ :: ⟨some d2, .call { callee := .value f, args := args, argTypes := ats }, ty2, pos2, after2, g2⟩ :: l) i fl nw σ so bs mem K := fun h0 G S0 t h ms segs I ho hup => by
  obtain ⟨n1, n2⟩ := fits hn1
  obtain ⟨n3, n4⟩ := fits hn2
  obtain ⟨M, m1, m2, m3, m4, m5, m6, m7⟩ := seen_ok (tail := false) (mem := mem) I hb1 (fun _ => ho)
  obtain ⟨mk, o, e1, e2⟩ := hs.2 h _ t I.slots.sees I.ok I.lc.lt
  have I1 : Iv h0 G S0 (h.push o) σ (t.set depth d1 (mk h.next)) ms ((d1, v1) :: fl) := (I.calm (Aft.push h o [])).set e1 n2
  have O1 : Old S0 (h.push o) σ (t.set depth d1 (mk h.next)) ((d1, v1) :: fl) (nwSet false d1 nw) so ((i, h.next, h.next + 1) :: segs) := (ho.set (old := false) n2 fun e => by cases e).next (After.push h o) (Nat.le_refl _)
  refine EvD.op (draw_fresh m1 m2 m3 m4 hb1 rfl hs.1 (want_ok I.slots hw1) rfl (e2 M _ _ _ _ _) n1) ?_
  obtain ⟨M', p1, p2, p3, p4, p5, p6, p7⟩ := seen_ok (tail := false) (mem := mem ||| 2 ^ i) I1 hb2 (fun _ => O1)
  obtain ⟨hs0, c1, c2, c3, c4, c5, c6⟩ := ho
  have hM : ∀ b, (b < hs0.next ∨ b = h.next) → M'.get b = (h.push o).get b := fun b hb => by
    rw [← p1]
    unfold seenBy
    simp only [hb2]
    show look _ _ = _
    cases hq : Nat.beq ((mem ||| 2 ^ i) &&& b2) (mem ||| 2 ^ i) with
    | true => rfl
    | false =>
      simp only [cond_false]
      rw [mask_keep]
      · rfl
      · intro s hs hbt hin
        rcases List.mem_cons.1 hs with rfl | hs
        · rw [hbit] at hbt; cases hbt
        · have q1 := hup s hs
          have q2 := c3 s hs
          omega
  have hnx0 := c2.next
  obtain ⟨mk', o', f1, f2⟩ := hs.2 { next := h.next, low := h.next, objs := hs0.objs } (own σ ++ S0) t (fun x hx pv hp => (old_op c5 hold x hx pv hp).nx (h := hs0) (h' := { next := h.next, low := h.next, objs := hs0.objs }) fun b ob hg hb => ⟨hg, hb⟩) (fun b ob hg => by have := c1 b ob hg; show b < h.next; omega) I.lc.lt
  have hee : some (mk h.next, h.push o) = some (mk' h.next, h.push o') := (e2 h none 0 "" #[] none).symm.trans (f2 h none 0 "" #[] none)
  simp only [Option.some.injEq, Prod.mk.injEq, Heap.push, Heap.mk.injEq, List.cons.injEq, true_and, and_true] at hee
  obtain ⟨g1', g2'⟩ := hee
  subst g2'
  have hv1 : RepPV M' (own σ ++ S0) v1 (mk h.next) := by
    rw [g1']
    refine RepPV.nx (h := ({ next := h.next, low := h.next, objs := hs0.objs } : Heap).push o) (fun b ob hg hb => ⟨?_, hb⟩) f1
    rw [Heap.get_push] at hg
    split at hg
    · rename_i e
      rw [hM b (.inr e), Heap.get_push, if_pos e]; exact hg
    · rename_i e
      have hb2 := c1 b ob hg
      rw [hM b (.inl hb2), Heap.get_push, if_neg e, c2.get b hb2]; exact hg
  have hold1 : ∀ {pv : PV} {u : Value}, RepPV hs0 (own σ ++ S0) pv u → RepPV M' (own σ ++ S0) pv u := fun hp => hp.nx fun b ob hg hb => ⟨by
    have hb2 := c1 b ob hg
    rw [hM b (.inl hb2), Heap.get_push, if_neg (by omega), c2.get b hb2]; exact hg, hb⟩
  have hsl : ∀ {x : Operand} {pv : PV}, evV ((d1, v1) :: fl) x = some pv → oldOr nw d1 x = true → RepPV M' (own σ ++ S0) pv (evalO (t.set depth d1 (mk h.next)) x) := fun {x pv} hx ho => by
    cases x with
    | tmp k =>
      show RepPV _ _ _ ((t.set depth d1 (mk h.next)).get k)
      rw [get_setD t d1 (mk h.next) k n2]
      simp only [evV, lkV] at hx
      cases hb : Nat.beq d1 k with
      | true =>
        rw [hb] at hx
        simp only [cond_true, Option.some.injEq] at hx
        subst hx
        rw [if_pos (nbeq hb).symm]; exact hv1
      | false =>
        rw [hb] at hx
        simp only [cond_false] at hx
        rw [if_neg (Ne.symm (ne_of_no hb))]
        simp only [oldOr, hb, Bool.false_or, Bool.not_eq_true'] at ho
        exact hold1 (c5 k pv hx ho)
    | const c =>
      obtain ⟨h1, h2⟩ := constV_ok hx
      show RepPV _ _ pv (if af c then c else junk)
      rw [if_pos h1]; exact h2 _ _
    | global g => cases hx
    | func f => obtain rfl := Option.some.inj hx; exact ⟨[], [], rfl, rfl, rfl⟩
  have hargs : ∀ (l : List Operand) (asl : List PV), evVs ((d1, v1) :: fl) l = some asl → l.all (oldOr nw d1) = true → RepL M' (own σ ++ S0) asl (l.map (evalO (t.set depth d1 (mk h.next)))) := by
    intro l
    induction l with
    | nil => intro asl hx _; obtain rfl := Option.some.inj hx; rfl
    | cons x r ih =>
      intro asl hx hl
      rw [List.all_cons] at hl
      obtain ⟨l1, l2⟩ := band hl
      simp only [evVs] at hx
      split at hx
      · rename_i v vs0 hv hvs
        obtain rfl := Option.some.inj hx
        exact ⟨_, _, rfl, hsl hv l1, ih vs0 hvs l2⟩
      · cases hx
  obtain ⟨o1, o2⟩ := band hcall
  obtain ⟨fid, ca, cc, k1, k2⟩ := hc.ev p2 (fun b hb => by rw [p3]; exact Lc.lt I1.lc b hb) (hsl hf o1) (hargs _ _ ha o2)
  refine EvD.call (o := ⟨some d2, .call { callee := .value f, args := args, argTypes := ats }, ty2, pos2, after2, g2⟩) (want_ok I1.slots hw2) rfl rfl k1 rfl ?_
  rw [p1]
  refine k2.mono fun u h' hq => ?_
  obtain ⟨q1, q2, q3⟩ := hq
  have hA := q1.after
  have hl : (h.push o).next ≤ h'.low := hA.low (h.push o).next (by omega) (by omega)
  have hlow : Nat.ble (h.push o).next h'.low = true := by rw [Nat.ble_eq]; exact hl
  have hnx : (h.push o).next ≤ h'.next := by have := hA.next; omega
  refine ⟨blt_of_le hnx, by simp only [hlow, Bool.true_or], _, put_fits n3 _ u, ?_⟩
  have hd : drewOn ⟨some d2, .call { callee := .value f, args := args, argTypes := ats }, ty2, pos2, after2, g2⟩ (i + 1) ⟨t.set depth d1 (mk h.next), h.push o, bs ++ [b1], (i, h.next, h.next + 1) :: segs, mem ||| 2 ^ i, false⟩ ((t.set depth d1 (mk h.next)).set depth d2 u) h' =
      ⟨(t.set depth d1 (mk h.next)).set depth d2 u, { next := h'.next, low := (h.push o).low, objs := newer (h.push o).next h'.next h'.objs ++ (h.push o).objs }, bs ++ [b1] ++ [b2], (i + 1, (h.push o).next, h'.next) :: (i, h.next, h.next + 1) :: segs, (mem ||| 2 ^ i) ||| 2 ^ (i + 1), false⟩ := by
    unfold drewOn
    simp only [hlow, cond_true, hb2]
  rw [hd]
  obtain ⟨z1, z2⟩ := newer_left (h' := h') I1.ok p5 p3 hA p2
  have eA : Aft (h.push o) { next := h'.next, low := (h.push o).low, objs := newer (h.push o).next h'.next h'.objs ++ (h.push o).objs } [] := ⟨z1.next, fun b hb _ => z1.get b hb, z1.ok, fun e h3 h4 _ => z1.low e h3 h4, fun b hb => .inl (z1.get b hb), Nat.le_refl _⟩
  refine hk h0 G S0 _ _ ms _ ((I1.calm eA).set (q2.nx (z2 _)) n4) fun _ => ?_
  exact (O1.set (old := r.flat) n4 fun hfl _ _ _ _ _ _ => (q2.flat hfl).2 _ _).next z1 (Nat.le_refl _)
end Go.Fs
namespace Go.Proofs
open Go.Fs
set_option linter.unusedVariables false
set_option maxHeartbeats 1000000
abbrev y235 : Ty := (.sl (.sl .str))
theorem el235 : ElT Tryz.prog 235 27 (.sl .str) := elT_of (by kernel_rfl)
theorem zCloneS_ok {l : List ByteArray} (hl : l.length < 100000) : VF Tryz.prog OA 162 [.v (.sl .str) l] (.v (.sl .str) l) := by
  refine VF.enter Tryz.func162 rfl (fun _ _ => rfl) rfl ?_
  show VC _ _ _ _ _ [(0, .v (.sl .str) l)] [] _
  refine VC.seq ?_
  refine VC.text ?_
  refine VO.c (.assign rfl) ?_
  refine VO.go ?_
  refine VC.seq ?_
  refine VC.seq ?_
  refine VC.text ?_
  refine VO.c (.move rfl) ?_
  refine VO.isnil (e := 9) rfl rfl (by kernel_rfl) (by kernel_rfl) (fun h1_1 => ?_) ?_
  · refine VO.go ?_
    refine VC.condT rfl ?_
    refine VC.seq ?_
    refine VC.text ?_
    refine VO.c (.assign rfl) ?_
    refine VO.go ?_
    refine VC.ret ?_
    exact VEnd.one rfl (evC .nil) (pvE (by rw [h1_1]))
  · refine VO.go ?_
    refine VC.condF rfl ?_
    refine VC.skip ?_
    show VC _ _ _ _ _ _ _ _
    refine VC.seq ?_
    refine VC.text ?_
    refine VO.cell (.lit0 el27) ?_
    intro ww1
    refine VO.c (.move rfl) ?_
    refine VO.app rfl rfl el27 el27 (by simp; omega) ?_
    intro ww2
    refine VO.c (.assign rfl) ?_
    refine VO.go ?_
    refine VC.ret ?_
    exact VEnd.one rfl (evC (.row m0)) (pvE (by first | rfl | simp))
theorem flat_le {α : Type} {l : List (List α)} (j : Nat) : (l.take j).flatten.length ≤ l.flatten.length := by
  have : l.flatten = (l.take j).flatten ++ (l.drop j).flatten := by rw [← List.flatten_append, List.take_append_drop]
  rw [this, List.length_append]; omega
theorem flat_succ {α : Type} {l : List (List α)} {j : Nat} (hj : j < l.length) : (l.take (j + 1)).flatten = (l.take j).flatten ++ l[j] := by
  rw [List.take_succ_eq_append_getElem hj, List.flatten_append]; simp
theorem zGrowS_ok {n : Nat} (h0 : 0 < n) (h1 : n ≤ 1000000) : VFG Tryz.prog OA 197 [nilV, I ((n : Nat) : Int)] [] (fun r g => ∃ w, r = .raw w ∧ g = [(w, .cap 9 n .str [])]) := by
  refine VFG.enter Tryz.func197 rfl (fun _ _ => rfl) rfl ?_
  show VC _ _ _ _ _ [(0, nilV), (1, I ((n : Nat) : Int))] [] _
  refine VC.seq ?_
  refine VC.text ?_
  refine VO.c (.assign rfl) ?_
  refine VO.go ?_
  refine VC.seq ?_
  refine VC.seq ?_
  refine VC.text ?_
  refine VO.c (.move rfl) ?_
  refine VO.c (.lss) ?_
  refine VO.go ?_
  refine VC.condD rfl (fun c1 => ?_) (fun c1 => ?_)
  · exact absurd c1 (by omega)
  · refine VC.skip ?_
    show VC _ _ _ _ _ _ _ _
    refine VC.seq ?_
    refine VC.seq ?_
    refine VC.text ?_
    refine VO.c (.move rfl) ?_
    refine VO.c (.move rfl) ?_
    refine VO.r (.cap0 el27) ?_
    refine VO.c (.move rfl) ?_
    refine VO.r (.len0 el27) ?_
    refine VO.c (.sub rfl rfl (by decide)) ?_
    refine VO.c (.sub rfl rfl (by omega)) ?_
    refine VO.c (.assign rfl) ?_
    refine VO.go ?_
    refine VC.seq ?_
    refine VC.text ?_
    refine VO.c (.move rfl) ?_
    refine VO.c (.gtr) ?_
    refine VO.go ?_
    refine VC.condD rfl (fun c4 => ?_) (fun c4 => ?_)
    · refine VC.text ?_
      refine VO.c (.move rfl) ?_
      refine VO.c (.move rfl) ?_
      refine VO.r (.cap0 el27) ?_
      refine VO.r (.nil0 el27 rfl rfl) ?_
      refine VO.c (.move rfl) ?_
      refine VO.grow (k := n) rfl (congrArg (fun z : Int => some (PV.v (.int .i64) z)) (show (((n : Nat) : Int) - (((0 : Nat) : Int) - ((0 : Nat) : Int))) = ((n : Nat) : Int) by omega)) el27 (by kernel_rfl) (by omega) (by omega) ?_
      intro bb3
      refine VO.c (.move rfl) ?_
      refine VO.r (.len0 el27) ?_
      refine VO.r (.cut0 el27 rfl rfl) ?_
      refine VO.c (.assign rfl) ?_
      refine VO.go ?_
      refine VC.seq ?_
      refine VC.text ?_
      refine VO.c (.move rfl) ?_
      refine VO.c (.assign rfl) ?_
      refine VO.go ?_
      refine VC.ret ?_
      exact VEndG.cap rfl evT m0 ⟨(.slice (some ⟨bb3, 0, none⟩) 0 0), rfl, (by rfl)⟩
    · exact absurd (by omega) c4
theorem zConcatS1_ok {l : List (List ByteArray)} (hl : l.length < 100000) (h0 : 0 < l.flatten.length) (h1 : l.flatten.length ≤ 1000000) : VF Tryz.prog OA 168 [.v y235 l] (.v (.sl .str) l.flatten) := by
  refine VF.enter Tryz.func168 rfl (fun _ _ => rfl) rfl ?_
  show VC _ _ _ _ _ [(0, .v y235 l)] [] _
  refine VC.seq ?_
  refine VC.text ?_
  refine VO.c (.assign rfl) ?_
  refine VO.go ?_
  refine VC.seq ?_
  refine VC.text ?_
  refine VO.c (.assign rfl) ?_
  refine VO.go ?_
  refine VC.seq ?_
  refine VC.seq ?_
  refine VC.text ?_
  refine VO.c (.move rfl) ?_
  refine VO.r (.len el235) ?_
  refine VO.c (.move rfl) ?_
  refine VO.go ?_
  refine VC.block ?_
  refine VC.keep [(0, .v y235 l), (3, I (((l.take 0).flatten.length : Nat) : Int)), (9, .v y235 l), (10, I ((l.length : Nat) : Int)), (11, I ((0 : Nat) : Int))] ⟨rfl, slI rfl (by rfl), rfl, rfl, rfl, trivial⟩ ?_
  refine VC.loop (I := fun kk ff ss => ∃ (j : Nat), kk = l.length - j ∧ ff = [(0, .v y235 l), (3, I (((l.take j).flatten.length : Nat) : Int)), (9, .v y235 l), (10, I ((l.length : Nat) : Int)), (11, I ((j : Nat) : Int))] ∧ ss = [] ∧ (j ≤ l.length)) ?_ _ _ _ ⟨0, rfl, rfl, rfl, Nat.zero_le _⟩
  rintro kk ff ss ⟨j, hk0, rfl, rfl, hj⟩
  refine VC.seq ?_
  refine VC.text ?_
  refine VO.c (.lss) ?_
  refine VO.go ?_
  refine VC.seq ?_
  refine VC.condD rfl (fun c3 => ?_) (fun c3 => ?_)
  · refine VC.skip ?_
    show VC _ _ _ _ _ _ _ _
    refine VC.seq ?_
    refine VC.block ?_
    refine VC.seq ?_
    refine VC.text ?_
    refine VO.c (.ix (j := j) rfl rfl el235 (by omega)) ?_
    refine VO.r (.ld vt27) ?_
    refine VO.c (.assign rfl) ?_
    refine VO.go ?_
    refine VC.seq ?_
    refine VC.text ?_
    have hs := flat_le (l := l) (j + 1)
    rw [flat_succ (by omega), List.length_append] at hs
    refine VO.c (.move rfl) ?_
    refine VO.c (.move rfl) ?_
    refine VO.r (.len el27) ?_
    refine VO.c (.add rfl rfl (by omega)) ?_
    refine VO.c (.assign rfl) ?_
    refine VO.go ?_
    refine VC.seq ?_
    refine VC.text ?_
    refine VO.c (.move rfl) ?_
    refine VO.c (.lss) ?_
    refine VO.go ?_
    refine VC.condD rfl (fun c6 => ?_) (fun c6 => ?_)
    · exact absurd c6 (by omega)
    · refine VC.skip ?_
      show VC _ _ _ _ _ _ _ _
      refine VC.text ?_
      refine VO.c (.add rfl rfl (by omega)) ?_
      refine VO.c (.move rfl) ?_
      refine VO.nil ?_
      refine ⟨_, [(0, .v y235 l), (3, I (((l.take (j + 1)).flatten.length : Nat) : Int)), (9, .v y235 l), (10, I ((l.length : Nat) : Int)), (11, I (((j + 1) : Nat) : Int))], ?_, ⟨rfl, slI rfl (by rw [flat_succ (by omega), List.length_append] <;> rfl), rfl, rfl, rfl, trivial⟩, (j + 1), rfl, rfl, rfl, (by omega)⟩
      omega
  · refine VC.exit ?_
    show VC _ _ _ _ _ _ _ _
    refine VC.seq ?_
    refine VC.text ?_
    have hjl : l.take j = l := List.take_of_length_le (by omega)
    refine VO.c (.move rfl) ?_
    refine VO.callG [] rfl rfl rfl (VFG.call (zGrowS_ok (by rw [hjl]; exact h0) (by rw [hjl]; exact h1))) ?_
    rintro _ _ ⟨ww4, rfl, rfl⟩
    show VO _ _ _ _ _ _ [(ww4, .cap 9 ((l.take j).flatten.length) .str [])] _
    refine VO.c (.assign rfl) ?_
    refine VO.go ?_
    refine VC.seq ?_
    refine VC.seq ?_
    refine VC.text ?_
    refine VO.c (.move rfl) ?_
    refine VO.r (.len el235) ?_
    refine VO.c (.move rfl) ?_
    refine VO.go ?_
    refine VC.block ?_
    refine VC.keep [(6, .raw ww4), (25, .v y235 l), (26, I ((l.length : Nat) : Int)), (27, I ((0 : Nat) : Int))] ⟨rfl, rfl, rfl, rfl, trivial⟩ ?_
    refine VC.loop (I := fun kk ff ss => ∃ (i : Nat) (out : Value), kk = l.length - i ∧ ff = [(6, .raw out), (25, .v y235 l), (26, I ((l.length : Nat) : Int)), (27, I ((i : Nat) : Int))] ∧ ss = [(out, .cap 9 ((l.take j).flatten.length) .str ((l.take i).flatten))] ∧ (i ≤ l.length)) ?_ _ _ _ ⟨0, ww4, rfl, rfl, rfl, Nat.zero_le _⟩
    rintro kk ff ss ⟨i, out, hk2, rfl, rfl, hi⟩
    refine VC.seq ?_
    refine VC.text ?_
    refine VO.c (.lss) ?_
    refine VO.go ?_
    refine VC.seq ?_
    refine VC.condD rfl (fun c11 => ?_) (fun c11 => ?_)
    · refine VC.skip ?_
      show VC _ _ _ _ _ _ _ _
      refine VC.seq ?_
      refine VC.block ?_
      refine VC.seq ?_
      refine VC.text ?_
      refine VO.c (.ix (j := i) rfl rfl el235 (by omega)) ?_
      refine VO.r (.ld vt27) ?_
      refine VO.c (.assign rfl) ?_
      refine VO.go ?_
      refine VC.text ?_
      have hs := flat_le (l := l) (i + 1)
      rw [flat_succ (by omega), List.length_append] at hs
      refine VO.c (.move rfl) ?_
      refine VO.c (.move rfl) ?_
      refine VO.appC rfl rfl el27 el27 (by rw [hjl]; exact hs) (by rw [hjl]; exact h1) ?_
      intro ww5
      refine VO.c (.assign rfl) ?_
      refine VO.nil ?_
      show VC _ _ _ _ _ _ _ _
      refine VC.text ?_
      refine VO.c (.add rfl rfl (by omega)) ?_
      refine VO.c (.move rfl) ?_
      refine VO.nil ?_
      refine ⟨_, [(6, .raw ww5), (25, .v y235 l), (26, I ((l.length : Nat) : Int)), (27, I (((i + 1) : Nat) : Int))], ?_, ⟨rfl, rfl, rfl, rfl, trivial⟩, (i + 1), ww5, rfl, rfl, (by rw [flat_succ (by omega)] <;> rfl), (by omega)⟩
      omega
    · refine VC.exit ?_
      show VC _ _ _ _ _ _ _ _
      refine VC.seq ?_
      refine VC.capRow (by rw [hjl, List.take_of_length_le (by omega)]) ?_
      refine VC.text ?_
      refine VO.c (.move rfl) ?_
      refine VO.c (.assign rfl) ?_
      refine VO.go ?_
      refine VC.ret ?_
      exact VEnd.one rfl (evC (.row m0)) (pvE (by rw [List.take_of_length_le (by omega)]))
theorem zGrowS0_ok {n : Nat} (h0 : n = 0) : VF Tryz.prog OA 197 [nilV, I ((n : Nat) : Int)] (nilV) := by
  refine VF.enter Tryz.func197 rfl (fun _ _ => rfl) rfl ?_
  show VC _ _ _ _ _ [(0, nilV), (1, I ((n : Nat) : Int))] [] _
  refine VC.seq ?_
  refine VC.text ?_
  refine VO.c (.assign rfl) ?_
  refine VO.go ?_
  refine VC.seq ?_
  refine VC.seq ?_
  refine VC.text ?_
  refine VO.c (.move rfl) ?_
  refine VO.c (.lss) ?_
  refine VO.go ?_
  refine VC.condD rfl (fun c1 => ?_) (fun c1 => ?_)
  · exact absurd c1 (by omega)
  · refine VC.skip ?_
    show VC _ _ _ _ _ _ _ _
    refine VC.seq ?_
    refine VC.seq ?_
    refine VC.text ?_
    refine VO.c (.move rfl) ?_
    refine VO.c (.move rfl) ?_
    refine VO.r (.cap0 el27) ?_
    refine VO.c (.move rfl) ?_
    refine VO.r (.len0 el27) ?_
    refine VO.c (.sub rfl rfl (by decide)) ?_
    refine VO.c (.sub rfl rfl (by omega)) ?_
    refine VO.c (.assign rfl) ?_
    refine VO.go ?_
    refine VC.seq ?_
    refine VC.text ?_
    refine VO.c (.move rfl) ?_
    refine VO.c (.gtr) ?_
    refine VO.go ?_
    refine VC.condD rfl (fun c4 => ?_) (fun c4 => ?_)
    · exact absurd c4 (by omega)
    · refine VC.skip ?_
      show VC _ _ _ _ _ _ _ _
      refine VC.seq ?_
      refine VC.text ?_
      refine VO.c (.move rfl) ?_
      refine VO.c (.assign rfl) ?_
      refine VO.go ?_
      refine VC.ret ?_
      exact VEnd.one rfl evT rfl
theorem zConcatS0_ok {l : List (List ByteArray)} (hl : l.length < 100000) (h0 : l.flatten.length = 0) : VF Tryz.prog OA 168 [.v y235 l] (.v (.sl .str) l.flatten) := by
  refine VF.enter Tryz.func168 rfl (fun _ _ => rfl) rfl ?_
  show VC _ _ _ _ _ [(0, .v y235 l)] [] _
  refine VC.seq ?_
  refine VC.text ?_
  refine VO.c (.assign rfl) ?_
  refine VO.go ?_
  refine VC.seq ?_
  refine VC.text ?_
  refine VO.c (.assign rfl) ?_
  refine VO.go ?_
  refine VC.seq ?_
  refine VC.seq ?_
  refine VC.text ?_
  refine VO.c (.move rfl) ?_
  refine VO.r (.len el235) ?_
  refine VO.c (.move rfl) ?_
  refine VO.go ?_
  refine VC.block ?_
  refine VC.keep [(0, .v y235 l), (3, I (((l.take 0).flatten.length : Nat) : Int)), (9, .v y235 l), (10, I ((l.length : Nat) : Int)), (11, I ((0 : Nat) : Int))] ⟨rfl, slI rfl (by rfl), rfl, rfl, rfl, trivial⟩ ?_
  refine VC.loop (I := fun kk ff ss => ∃ (j : Nat), kk = l.length - j ∧ ff = [(0, .v y235 l), (3, I (((l.take j).flatten.length : Nat) : Int)), (9, .v y235 l), (10, I ((l.length : Nat) : Int)), (11, I ((j : Nat) : Int))] ∧ ss = [] ∧ (j ≤ l.length)) ?_ _ _ _ ⟨0, rfl, rfl, rfl, Nat.zero_le _⟩
  rintro kk ff ss ⟨j, hk0, rfl, rfl, hj⟩
  refine VC.seq ?_
  refine VC.text ?_
  refine VO.c (.lss) ?_
  refine VO.go ?_
  refine VC.seq ?_
  refine VC.condD rfl (fun c3 => ?_) (fun c3 => ?_)
  · refine VC.skip ?_
    show VC _ _ _ _ _ _ _ _
    refine VC.seq ?_
    refine VC.block ?_
    refine VC.seq ?_
    refine VC.text ?_
    refine VO.c (.ix (j := j) rfl rfl el235 (by omega)) ?_
    refine VO.r (.ld vt27) ?_
    refine VO.c (.assign rfl) ?_
    refine VO.go ?_
    refine VC.seq ?_
    refine VC.text ?_
    have hs := flat_le (l := l) (j + 1)
    rw [flat_succ (by omega), List.length_append] at hs
    refine VO.c (.move rfl) ?_
    refine VO.c (.move rfl) ?_
    refine VO.r (.len el27) ?_
    refine VO.c (.add rfl rfl (by omega)) ?_
    refine VO.c (.assign rfl) ?_
    refine VO.go ?_
    refine VC.seq ?_
    refine VC.text ?_
    refine VO.c (.move rfl) ?_
    refine VO.c (.lss) ?_
    refine VO.go ?_
    refine VC.condD rfl (fun c6 => ?_) (fun c6 => ?_)
    · exact absurd c6 (by omega)
    · refine VC.skip ?_
      show VC _ _ _ _ _ _ _ _
      refine VC.text ?_
      refine VO.c (.add rfl rfl (by omega)) ?_
      refine VO.c (.move rfl) ?_
      refine VO.nil ?_
      refine ⟨_, [(0, .v y235 l), (3, I (((l.take (j + 1)).flatten.length : Nat) : Int)), (9, .v y235 l), (10, I ((l.length : Nat) : Int)), (11, I (((j + 1) : Nat) : Int))], ?_, ⟨rfl, slI rfl (by rw [flat_succ (by omega), List.length_append] <;> rfl), rfl, rfl, rfl, trivial⟩, (j + 1), rfl, rfl, rfl, (by omega)⟩
      omega
  · refine VC.exit ?_
    show VC _ _ _ _ _ _ _ _
    refine VC.seq ?_
    refine VC.text ?_
    have hjl : l.take j = l := List.take_of_length_le (by omega)
    refine VO.c (.move rfl) ?_
    refine VO.call rfl rfl (VF.call (zGrowS0_ok (by rw [hjl]; exact h0))) ?_
    refine VO.c (.assign rfl) ?_
    refine VO.go ?_
    refine VC.seq ?_
    refine VC.seq ?_
    refine VC.text ?_
    refine VO.c (.move rfl) ?_
    refine VO.r (.len el235) ?_
    refine VO.c (.move rfl) ?_
    refine VO.go ?_
    refine VC.block ?_
    refine VC.cell0 9 .str ?_
    refine VC.keep [(6, .raw (.slice none 0 0)), (25, .v y235 l), (26, I ((l.length : Nat) : Int)), (27, I ((0 : Nat) : Int))] ⟨rfl, rfl, rfl, rfl, trivial⟩ ?_
    refine VC.loop (I := fun kk ff ss => ∃ (i : Nat) (out : Value), kk = l.length - i ∧ ff = [(6, .raw out), (25, .v y235 l), (26, I ((l.length : Nat) : Int)), (27, I ((i : Nat) : Int))] ∧ ss = [(out, .row 9 .str ((l.take i).flatten))] ∧ (i ≤ l.length)) ?_ _ _ _ ⟨0, (.slice none 0 0), rfl, rfl, rfl, Nat.zero_le _⟩
    rintro kk ff ss ⟨i, out, hk2, rfl, rfl, hi⟩
    refine VC.seq ?_
    refine VC.text ?_
    refine VO.c (.lss) ?_
    refine VO.go ?_
    refine VC.seq ?_
    refine VC.condD rfl (fun c11 => ?_) (fun c11 => ?_)
    · refine VC.skip ?_
      show VC _ _ _ _ _ _ _ _
      refine VC.seq ?_
      refine VC.block ?_
      refine VC.seq ?_
      refine VC.text ?_
      refine VO.c (.ix (j := i) rfl rfl el235 (by omega)) ?_
      refine VO.r (.ld vt27) ?_
      refine VO.c (.assign rfl) ?_
      refine VO.go ?_
      refine VC.text ?_
      have hs := flat_le (l := l) (i + 1)
      rw [flat_succ (by omega), List.length_append] at hs
      refine VO.c (.move rfl) ?_
      refine VO.c (.move rfl) ?_
      refine VO.app rfl rfl el27 el27 (by omega) ?_
      intro ww6
      refine VO.c (.assign rfl) ?_
      refine VO.nil ?_
      show VC _ _ _ _ _ _ _ _
      refine VC.text ?_
      refine VO.c (.add rfl rfl (by omega)) ?_
      refine VO.c (.move rfl) ?_
      refine VO.nil ?_
      refine ⟨_, [(6, .raw ww6), (25, .v y235 l), (26, I ((l.length : Nat) : Int)), (27, I (((i + 1) : Nat) : Int))], ?_, ⟨rfl, rfl, rfl, rfl, trivial⟩, (i + 1), ww6, rfl, rfl, (by rw [flat_succ (by omega)] <;> rfl), (by omega)⟩
      omega
    · refine VC.exit ?_
      show VC _ _ _ _ _ _ _ _
      refine VC.seq ?_
      refine VC.text ?_
      refine VO.c (.move rfl) ?_
      refine VO.c (.assign rfl) ?_
      refine VO.go ?_
      refine VC.ret ?_
      exact VEnd.one rfl (evC (.row m0)) (pvE (by rw [List.take_of_length_le (by omega)]))
theorem zConcatS_ok {l : List (List ByteArray)} (hl : l.length < 100000) (h1 : l.flatten.length ≤ 1000000) : VF Tryz.prog OA 168 [.v y235 l] (.v (.sl .str) l.flatten) := by
  by_cases h : l.flatten.length = 0
  · exact zConcatS0_ok hl h
  · exact zConcatS1_ok hl (Nat.pos_of_ne_zero h) h1
theorem zIndexFE_ok {F : Evid → Bool} {l : List (ByteArray × (List (ByteArray × Int)))} {f : PV} (hl : l.length < 1000000) (hf : ∀ x ∈ l, VCall Tryz.prog OA f [.v y155 x] (B (F x))) : VF Tryz.prog OA 133 [.v y69 l, f] (I (idxG F l 0)) := by
  refine VF.enter Tryz.func133 rfl (fun _ _ => rfl) rfl ?_
  show VC _ _ _ _ _ [(0, .v y69 l), (1, f)] [] _
  refine VC.seq ?_
  refine VC.text ?_
  refine VO.c (.assign rfl) ?_
  refine VO.go ?_
  refine VC.seq ?_
  refine VC.seq ?_
  refine VC.text ?_
  refine VO.c (.move rfl) ?_
  refine VO.r (.len el69) ?_
  refine VO.c (.move rfl) ?_
  refine VO.go ?_
  refine VC.block ?_
  refine VC.keep [(0, .v y69 l), (1, f), (7, I ((l.length : Nat) : Int)), (8, I ((0 : Nat) : Int))] ⟨rfl, rfl, rfl, rfl, trivial⟩ ?_
  refine VC.loop (I := fun kk ff ss => ∃ (j : Nat), kk = l.length - j ∧ ff = [(0, .v y69 l), (1, f), (7, I ((l.length : Nat) : Int)), (8, I ((j : Nat) : Int))] ∧ ss = [] ∧ (j ≤ l.length) ∧ (idxG F l 0 = idxG F (l.drop j) (j : Nat))) ?_ _ _ _ ⟨0, rfl, rfl, rfl, Nat.zero_le _, (by rfl)⟩
  rintro kk ff ss ⟨j, hk0, rfl, rfl, hj, hi⟩
  refine VC.seq ?_
  refine VC.text ?_
  refine VO.c (.lss) ?_
  refine VO.go ?_
  refine VC.seq ?_
  refine VC.condD rfl (fun c2 => ?_) (fun c2 => ?_)
  · refine VC.skip ?_
    show VC _ _ _ _ _ _ _ _
    refine VC.seq ?_
    refine VC.block ?_
    refine VC.seq ?_
    refine VC.text ?_
    refine VO.c (.move rfl) ?_
    refine VO.c (.assign rfl) ?_
    refine VO.go ?_
    refine VC.seq ?_
    refine VC.text ?_
    refine VO.c (.move rfl) ?_
    refine VO.c (.move rfl) ?_
    refine VO.c (.move rfl) ?_
    refine VO.c (.ix (j := j) rfl rfl el69 (by omega)) ?_
    refine VO.r (.ld vt155) ?_
    refine VO.call rfl rfl ((hf _ (List.getElem_mem _)) ) ?_
    refine VO.go ?_
    refine VC.condB rfl (fun c4 => ?_) (fun c4 => ?_)
    · refine VC.seq ?_
      refine VC.text ?_
      refine VO.c (.move rfl) ?_
      refine VO.c (.assign rfl) ?_
      refine VO.go ?_
      refine VC.ret ?_
      exact VEnd.one rfl evT (pvI (by rw [hi, idxG_drop (by omega), if_pos c4]))
    · refine VC.skip ?_
      show VC _ _ _ _ _ _ _ _
      refine VC.text ?_
      refine VO.c (.add rfl rfl (by omega)) ?_
      refine VO.c (.move rfl) ?_
      refine VO.nil ?_
      refine ⟨_, [(0, .v y69 l), (1, f), (7, I ((l.length : Nat) : Int)), (8, I (((j + 1) : Nat) : Int))], ?_, ⟨rfl, rfl, rfl, rfl, trivial⟩, (j + 1), rfl, rfl, rfl, (by omega), (by rw [hi, idxG_drop (by omega), if_neg (by rw [c4]; decide)])⟩
      omega
  · refine VC.exit ?_
    show VC _ _ _ _ _ _ _ _
    refine VC.seq ?_
    refine VC.text ?_
    refine VO.c (.assign rfl) ?_
    refine VO.go ?_
    refine VC.ret ?_
    exact VEnd.one rfl evT (pvI (by rw [hi, idxG_end (by omega)]))
theorem sWithout1_ok {o : ByteArray} {s : ByteArray} : VF Tryz.prog OA 198 [St o, .p .str s] (B (!decide (o = s))) := by
  refine VF.enter Tryz.func198 rfl (fun _ _ => rfl) rfl ?_
  show VC _ _ _ _ _ [(0, St o), (1, .p .str s)] [] _
  refine VC.seq ?_
  refine VC.text ?_
  refine VO.c (.assign rfl) ?_
  refine VO.go ?_
  refine VC.seq ?_
  refine VC.text ?_
  refine VO.c (.move rfl) ?_
  refine VO.r (.ld vt9) ?_
  refine VO.c (.sneq) ?_
  refine VO.c (.assign rfl) ?_
  refine VO.go ?_
  refine VC.ret ?_
  exact VEnd.one rfl evT (pvE (by first | rfl | simp))
def lackW (l : List ByteArray) (s : ByteArray) : List ByteArray := l.filter fun o => !decide (o = s)
theorem sWithout_ok {l : List ByteArray} {s : ByteArray} (hl : l.length < 100000) : VF Tryz.prog OA 170 [.v (.sl .str) l, St s] (.v (.sl .str) (lackW l s)) := by
  refine VF.enter Tryz.func170 rfl (fun _ _ => rfl) rfl ?_
  show VC _ _ _ _ _ [(0, .v (.sl .str) l), (1, St s)] [] _
  refine VC.seq ?_
  refine VC.text ?_
  refine VO.new (.box) ?_
  refine VO.c (.assign rfl) ?_
  refine VO.go ?_
  refine VC.seq ?_
  refine VC.text ?_
  refine VO.c (.move rfl) ?_
  refine VO.c (.func) ?_
  refine VO.call rfl rfl (VF.call (sKeptS_ok (F := fun o => !decide (o = s)) hl (fun _ _ => VF.clo sWithout1_ok))) ?_
  refine VO.c (.assign rfl) ?_
  refine VO.go ?_
  refine VC.ret ?_
  exact VEnd.one rfl evT (pvE (by rfl))
theorem lackW_len {l : List ByteArray} {s : ByteArray} : (lackW l s).length ≤ l.length := List.length_filter_le _ _
def needB (c : Cse) (s : ByteArray) (l : List ByteArray) (w : ByteArray) : Bool := !inM (byM c (lackW l w)) s
theorem sNeeds1_ok {w : ByteArray} {c : (List (ByteArray × Int)) × (List (ByteArray × (List (ByteArray × Int)))) × (List (ByteArray × Bool × (List ByteArray)))} {l : List ByteArray} {s : ByteArray} (hc : CseOk c) (hl : l.length < 100000) : VF Tryz.prog OA 169 [St w, .p y72 c, .p (.sl .str) l, .p .str s] (B (needB c s l w)) := by
  refine VF.enter Tryz.func169 rfl (fun _ _ => rfl) rfl ?_
  show VC _ _ _ _ _ [(0, St w), (1, .p y72 c), (2, .p (.sl .str) l), (3, .p .str s)] [] _
  refine VC.seq ?_
  refine VC.text ?_
  have hlw := lackW_len (l := l) (s := w)
  refine VO.c (.assign rfl) ?_
  refine VO.go ?_
  refine VC.seq ?_
  refine VC.drawn ?_
  refine VD.r [] (.ld vt72) (.inl rfl) ?_
  refine VD.r [] (.ld vt27) (.inl rfl) ?_
  refine VD.c (.move rfl) ?_
  refine VD.call rfl rfl (VF.call (sWithout_ok (by first | assumption | omega | simp))) ?_
  refine VD.callO rfl rfl (VF.call (sBy_ok (by first | assumption | omega | simp) (by first | assumption | omega | simp))) ?_
  refine VD.r [] (.ld vt9) (.inl rfl) ?_
  refine VD.nw [10, 9] ?_
  refine VD.ro (.look mt158) ?_
  refine VD.c (.not) ?_
  refine VD.c (.assign rfl) ?_
  refine VD.go ?_
  refine VC.ret ?_
  exact VEnd.one rfl evT (pvE (by rfl))
theorem sNeeds_ok {c : (List (ByteArray × Int)) × (List (ByteArray × (List (ByteArray × Int)))) × (List (ByteArray × Bool × (List ByteArray)))} {s : ByteArray} {l : List ByteArray} (hc : CseOk c) (hl : l.length < 100000) : VF Tryz.prog OA 130 [.v y72 c, St s, .v (.sl .str) l] (.v (.sl .str) (l.filter (needB c s l))) := by
  refine VF.enter Tryz.func130 rfl (fun _ _ => rfl) rfl ?_
  show VC _ _ _ _ _ [(0, .v y72 c), (1, St s), (2, .v (.sl .str) l)] [] _
  refine VC.seq ?_
  refine VC.text ?_
  refine VO.new (.box) ?_
  refine VO.new (.box) ?_
  refine VO.new (.box) ?_
  refine VO.c (.assign rfl) ?_
  refine VO.go ?_
  refine VC.seq ?_
  refine VC.text ?_
  refine VO.r (.ld vt27) ?_
  refine VO.c (.func) ?_
  refine VO.call rfl rfl (VF.call (sKeptS_ok (F := needB c s l) hl (fun _ _ => VF.clo (sNeeds1_ok hc hl)))) ?_
  refine VO.c (.assign rfl) ?_
  refine VO.go ?_
  refine VC.ret ?_
  exact VEnd.one rfl evT (pvE (by rfl))
def dropI (l : List ByteArray) (i : Nat) : List ByteArray := l.take i ++ l.drop (i + 1)
def leanS (c : Cse) (s : ByteArray) (o out : List ByteArray) (i : Nat) : List ByteArray := if inM (byM c (dropI out i ++ o)) s = true then dropI out i else out
def leanF (c : Cse) (s : ByteArray) (o : List ByteArray) : Nat → List ByteArray → List ByteArray
  | 0, out => out
  | i + 1, out => leanF c s o i (leanS c s o out i)
theorem dropI_len {l : List ByteArray} {i : Nat} (h : i < l.length) : (dropI l i).length = l.length - 1 := by
  unfold dropI
  rw [List.length_append, List.length_take, List.length_drop]
  omega
theorem leanS_len {c : Cse} {s : ByteArray} {o l : List ByteArray} {i : Nat} (h : i < l.length) : i ≤ (leanS c s o l i).length ∧ (leanS c s o l i).length ≤ l.length := by
  unfold leanS
  split
  · rw [dropI_len h]; omega
  · omega
theorem leanF_step {c : Cse} {s : ByteArray} {o l : List ByteArray} {j : Nat} (h : 0 < j) : leanF c s o j l = leanF c s o (j - 1) (leanS c s o l (j - 1)) := by
  cases j with
  | zero => omega
  | succ i => rfl
theorem sLean_ok {c : (List (ByteArray × Int)) × (List (ByteArray × (List (ByteArray × Int)))) × (List (ByteArray × Bool × (List ByteArray)))} {s : ByteArray} {l : List ByteArray} {o : List ByteArray} (hc : CseOk c) (hl : l.length < 50000) (ho : o.length < 50000) : VF Tryz.prog OA 128 [.v y72 c, St s, .v (.sl .str) l, .v (.sl .str) o] (.v (.sl .str) (leanF c s o l.length l)) := by
  refine VF.enter Tryz.func128 rfl (fun _ _ => rfl) rfl ?_
  show VC _ _ _ _ _ [(0, .v y72 c), (1, St s), (2, .v (.sl .str) l), (3, .v (.sl .str) o)] [] _
  refine VC.seq ?_
  refine VC.text ?_
  refine VO.new (.box) ?_
  refine VO.c (.assign rfl) ?_
  refine VO.go ?_
  refine VC.seq ?_
  refine VC.text ?_
  refine VO.c (.move rfl) ?_
  refine VO.call rfl rfl (VF.call (zCloneS_ok (by first | assumption | omega | simp))) ?_
  refine VO.c (.assign rfl) ?_
  refine VO.go ?_
  refine VC.seq ?_
  refine VC.seq ?_
  refine VC.text ?_
  refine VO.c (.move rfl) ?_
  refine VO.r (.len el27) ?_
  refine VO.c (.sub rfl rfl (by omega)) ?_
  refine VO.c (.assign rfl) ?_
  refine VO.go ?_
  refine VC.block ?_
  refine VC.keep [(1, St s), (3, .v (.sl .str) o), (4, .p y72 c), (9, .v (.sl .str) l), (10, I (((l.length : Nat) : Int) - 1))] ⟨rfl, rfl, rfl, rfl, rfl, trivial⟩ ?_
  refine VC.loop (I := fun kk ff ss => ∃ (j : Nat) (out : List ByteArray), kk = j ∧ ff = [(1, St s), (3, .v (.sl .str) o), (4, .p y72 c), (9, .v (.sl .str) out), (10, I (((j : Nat) : Int) - 1))] ∧ ss = [] ∧ (j ≤ out.length) ∧ (out.length ≤ l.length) ∧ (leanF c s o l.length l = leanF c s o j out)) ?_ _ _ _ ⟨l.length, l, rfl, rfl, rfl, (by omega), (by omega), (by rfl)⟩
  rintro kk ff ss ⟨j, out, hk0, rfl, rfl, hj, hk, hf⟩
  refine VC.seq ?_
  refine VC.seq ?_
  refine VC.text ?_
  refine VO.c (.move rfl) ?_
  refine VO.c (.geq) ?_
  refine VO.go ?_
  refine VC.condD rfl (fun c3 => ?_) (fun c3 => ?_)
  · have e0 : [(out.take ((((j : Nat) : Int) - 1)).toNat), (out.drop (((((j : Nat) : Int) - 1) + (1 : Int))).toNat)].flatten = dropI out (j - 1) := by
      rw [show (((j : Nat) : Int) - 1).toNat = j - 1 by omega, show ((((j : Nat) : Int) - 1) + 1).toNat = j - 1 + 1 by omega]
      simp [dropI]
    have e1 : [dropI out (j - 1), o].flatten = dropI out (j - 1) ++ o := by simp
    have e2 : (dropI out (j - 1)).length < 50000 := by rw [dropI_len (by omega)]; omega
    have e3 : (dropI out (j - 1) ++ o).length < 100000 := by rw [List.length_append]; omega
    refine VC.skip ?_
    show VC _ _ _ _ _ _ _ _
    refine VC.seq ?_
    refine VC.block ?_
    refine VC.seq ?_
    refine VC.drawn ?_
    refine VD.c (.move rfl) ?_
    refine VD.c (.move rfl) ?_
    refine VD.r [] (.cutH rfl rfl el27 (by omega)) (.inl rfl) ?_
    refine VD.c (.move rfl) ?_
    refine VD.c (.move rfl) ?_
    refine VD.c (.add rfl rfl (by omega)) ?_
    refine VD.nw [] ?_
    refine VD.r [] (.cutL rfl rfl el27 (by omega)) (.inl rfl) ?_
    refine VD.new (.lit [(out.take ((((j : Nat) : Int) - 1)).toNat), (out.drop (((((j : Nat) : Int) - 1) + (1 : Int))).toNat)] el235) ?_
    refine VD.callO rfl rfl (VF.call (zConcatS_ok (by simp) (by rw [e0]; omega))) ?_
    rw [e0]
    refine VD.c (.assign rfl) ?_
    refine VD.go ?_
    refine VC.seq ?_
    refine VC.drawnU ?_
    refine VDu.r [] (.ld vt72) (.inl rfl) ?_
    refine VDu.c (.move rfl) ?_
    refine VDu.c (.move rfl) ?_
    refine VDu.newcall (.lit [dropI out (j - 1), o] el235) rfl rfl (VF.call (zConcatS_ok (by simp) (by rw [e1]; omega))) ?_
    rw [e1]
    refine VD.callO rfl rfl (VF.call (sBy_ok e3 hc)) ?_
    refine VD.nw [35, 34, 33] ?_
    refine VD.c (.move rfl) ?_
    refine VD.ro (.look mt158) ?_
    refine VD.go ?_
    refine VC.condB rfl (fun c6 => ?_) (fun c6 => ?_)
    · refine VC.text ?_
      refine VO.c (.move rfl) ?_
      refine VO.c (.assign rfl) ?_
      refine VO.nil ?_
      show VC _ _ _ _ _ _ _ _
      refine VC.text ?_
      refine VO.c (.move rfl) ?_
      refine VO.c (.sub rfl rfl (by omega)) ?_
      refine VO.c (.assign rfl) ?_
      refine VO.nil ?_
      refine ⟨_, [(1, St s), (3, .v (.sl .str) o), (4, .p y72 c), (9, .v (.sl .str) (leanS c s o out (j - 1))), (10, I ((((j - 1) : Nat) : Int) - 1))], ?_, ⟨rfl, rfl, rfl, slE rfl (by first | exact (if_pos c6).symm | exact (if_neg (fun h => Bool.noConfusion (c6.symm.trans h))).symm), slI rfl (by omega), trivial⟩, (j - 1), (leanS c s o out (j - 1)), rfl, rfl, rfl, (by exact (leanS_len (by omega)).1), (by have := (leanS_len (c := c) (s := s) (o := o) (l := out) (i := j - 1) (by omega)).2; omega), (by rw [hf, leanF_step (by omega)])⟩
      omega
    · refine VC.skip ?_
      show VC _ _ _ _ _ _ _ _
      refine VC.text ?_
      refine VO.c (.move rfl) ?_
      refine VO.c (.sub rfl rfl (by omega)) ?_
      refine VO.c (.assign rfl) ?_
      refine VO.nil ?_
      refine ⟨_, [(1, St s), (3, .v (.sl .str) o), (4, .p y72 c), (9, .v (.sl .str) (leanS c s o out (j - 1))), (10, I ((((j - 1) : Nat) : Int) - 1))], ?_, ⟨rfl, rfl, rfl, slE rfl (by first | exact (if_pos c6).symm | exact (if_neg (fun h => Bool.noConfusion (c6.symm.trans h))).symm), slI rfl (by omega), trivial⟩, (j - 1), (leanS c s o out (j - 1)), rfl, rfl, rfl, (by exact (leanS_len (by omega)).1), (by have := (leanS_len (c := c) (s := s) (o := o) (l := out) (i := j - 1) (by omega)).2; omega), (by rw [hf, leanF_step (by omega)])⟩
      omega
  · refine VC.exit ?_
    show VC _ _ _ _ _ _ _ _
    refine VC.seq ?_
    refine VC.text ?_
    refine VO.c (.move rfl) ?_
    refine VO.c (.assign rfl) ?_
    refine VO.go ?_
    refine VC.ret ?_
    exact VEnd.one rfl evT (pvE (by rw [hf, show j = 0 by omega] <;> rfl))
end Go.Proofs
namespace Go.Proofs
open Go.Fs
set_option linter.unusedVariables false
set_option maxHeartbeats 1000000
theorem zt27DB : ZerT Tryz.prog 27 (.sl .str) := zerT_of (z := .slice none 0 0) (by kernel_rfl) rfl rfl
theorem case_len {c : Cse} (h : caseE c = 0) : c.2.1.length ≤ 64 := by
  have hv : versE c.1 = 0 := (case_known h).1
  unfold caseE at h
  rw [if_neg (fun h2 : versE c.1 ≠ 0 => h2 hv)] at h
  by_cases h4 : 64 < (c.2.1.length : Int)
  · rw [if_pos h4] at h; cases h
  · omega
theorem two_len {c : Cse} {s : ByteArray} {x : Int} (h : ¬ firstE [twoE c s, x] ≠ 0) : c.2.1.length ≤ 64 :=
  case_len (firstE_mem0 (firstE_mem0 (Decidable.not_not.1 h) _ List.mem_cons_self) _ List.mem_cons_self)
def heldE (c : Cse) (s : ByteArray) : Int := firstE [twoE c s, whenE (!(if twoE c s = 0 then holdsE c s else false)) 35]
theorem sHeld_ok {c : (List (ByteArray × Int)) × (List (ByteArray × (List (ByteArray × Int)))) × (List (ByteArray × Bool × (List ByteArray)))} {s : ByteArray} (hc : CseOk c) : VF Tryz.prog OA 129 [.v y72 c, St s] (I (heldE c s)) := by
  refine VF.enter Tryz.func129 rfl (fun _ _ => rfl) rfl ?_
  show VC _ _ _ _ _ [(0, .v y72 c), (1, St s)] [] _
  refine VC.seq ?_
  refine VC.text ?_
  refine VO.new (.box) ?_
  refine VO.c (.assign rfl) ?_
  refine VO.go ?_
  refine VC.seq ?_
  refine VC.text ?_
  refine VO.r (.ld vt72) ?_
  refine VO.c (.move rfl) ?_
  refine VO.call rfl rfl (VF.call (sHolds_ok (by first | assumption | omega | simp))) ?_
  refine VO.c (.move rfl) ?_
  refine VO.c (.extract) ?_
  refine VO.c (.extract) ?_
  refine VO.c (.assign rfl) ?_
  refine VO.c (.assign rfl) ?_
  refine VO.go ?_
  refine VC.seq ?_
  refine VC.text ?_
  refine VO.c (.move rfl) ?_
  refine VO.c (.move rfl) ?_
  refine VO.c (.not) ?_
  refine VO.call rfl rfl (VF.call (sWhen_ok )) ?_
  refine VO.new (.lit [twoE c s, whenE (!(if twoE c s = 0 then holdsE c s else false)) (35 : Int)] el204) ?_
  refine VO.call rfl rfl (VF.call (sFirst_ok (by first | assumption | omega | simp))) ?_
  refine VO.c (.assign rfl) ?_
  refine VO.go ?_
  refine VC.ret ?_
  exact VEnd.one rfl evT (pvI (by rfl))
theorem sLacks1_ok {x : ByteArray × (List (ByteArray × Int))} {c : (List (ByteArray × Int)) × (List (ByteArray × (List (ByteArray × Int)))) × (List (ByteArray × Bool × (List ByteArray)))} (hl : c.1.length < 1000000) (hx : x.2.length < 1000000) : VF Tryz.prog OA 126 [.v y155 x, .p y72 c] (B (!freshB c x)) := by
  refine VF.enter Tryz.func126 rfl (fun _ _ => rfl) rfl ?_
  show VC _ _ _ _ _ [(0, .v y155 x), (1, .p y72 c)] [] _
  refine VC.seq ?_
  refine VC.text ?_
  refine VO.new (.box) ?_
  refine VO.c (.assign rfl) ?_
  refine VO.go ?_
  refine VC.seq ?_
  refine VC.text ?_
  refine VO.r (.ld vt72) ?_
  refine VO.r (.ld vt155) ?_
  refine VO.call rfl rfl (VF.call (sFresh0_ok (by first | assumption | omega | simp) (by first | assumption | omega | simp))) ?_
  refine VO.c (.not) ?_
  refine VO.c (.assign rfl) ?_
  refine VO.go ?_
  refine VC.ret ?_
  exact VEnd.one rfl evT (pvE (by rfl))
def staleE (c : Cse) : List ByteArray := (c.2.1.filter fun x => !freshB c x).map (·.1)
theorem staleE_len {c : Cse} : (staleE c).length ≤ c.2.1.length := by
  unfold staleE
  rw [List.length_map]
  exact List.length_filter_le _ _
def lackE (c : Cse) (s : ByteArray) : Int := firstE [twoE c s, whenE (if twoE c s = 0 then holdsE c s else false) 7]
theorem sLacks_ok {c : (List (ByteArray × Int)) × (List (ByteArray × (List (ByteArray × Int)))) × (List (ByteArray × Bool × (List ByteArray)))} {s : ByteArray} (hc : CseOk c) : VF Tryz.prog OA 59 [.v y72 c, St s] (.tup [.v (.sl .str) (if lackE c s = 0 then leanF c s (validE c) (staleE c).length (staleE c) else []), I (lackE c s)]) := by
  refine VF.enter Tryz.func59 rfl (fun _ _ => rfl) rfl ?_
  show VC _ _ _ _ _ [(0, .v y72 c), (1, St s)] [] _
  refine VC.seq ?_
  refine VC.text ?_
  have hcv := hc.v
  have hce := hc.e
  have hvl := validE_len (c := c)
  have hsl := staleE_len (c := c)
  have hcw := hc.w
  refine VO.new (.box) ?_
  refine VO.c (.assign rfl) ?_
  refine VO.c (.assign rfl) ?_
  refine VO.go ?_
  refine VC.seq ?_
  refine VC.text ?_
  refine VO.r (.ld vt72) ?_
  refine VO.c (.move rfl) ?_
  refine VO.call rfl rfl (VF.call (sHolds_ok (by first | assumption | omega | simp))) ?_
  refine VO.c (.move rfl) ?_
  refine VO.c (.extract) ?_
  refine VO.c (.extract) ?_
  refine VO.c (.assign rfl) ?_
  refine VO.c (.assign rfl) ?_
  refine VO.go ?_
  refine VC.seq ?_
  refine VC.seq ?_
  refine VC.text ?_
  refine VO.c (.move rfl) ?_
  refine VO.c (.move rfl) ?_
  refine VO.call rfl rfl (VF.call (sWhen_ok )) ?_
  refine VO.new (.lit [twoE c s, whenE (if twoE c s = 0 then holdsE c s else false) (7 : Int)] el204) ?_
  refine VO.call rfl rfl (VF.call (sFirst_ok (by first | assumption | omega | simp))) ?_
  refine VO.c (.assign rfl) ?_
  refine VO.go ?_
  refine VC.seq ?_
  refine VC.text ?_
  refine VO.c (.move rfl) ?_
  refine VO.c (.neq) ?_
  refine VO.go ?_
  refine VC.condD rfl (fun c3 => ?_) (fun c3 => ?_)
  · refine VC.seq ?_
    refine VC.text ?_
    refine VO.c (.move rfl) ?_
    refine VO.c (.assign rfl) ?_
    refine VO.c (.assign rfl) ?_
    refine VO.go ?_
    refine VC.ret ?_
    exact VEnd.two rfl (evC .nil) evT (pvE (by exact (if_neg c3).symm)) (pvI (by rfl))
  · have h64 := two_len c3
    have hsl2 : ((c.2.1.filter fun x => !freshB c x).map (·.1)).length ≤ c.2.1.length := hsl
    refine VC.skip ?_
    show VC _ _ _ _ _ _ _ _
    refine VC.seq ?_
    refine VC.text ?_
    refine VO.r (.ld vt72) ?_
    refine VO.c (.func) ?_
    refine VO.call rfl rfl (VF.call (sNames_ok (F := fun x => !freshB c x) (by omega) (fun x hx => VF.clo (sLacks1_ok (by omega) (by have := hcw x hx; omega))))) ?_
    refine VO.c (.assign rfl) ?_
    refine VO.go ?_
    refine VC.seq ?_
    refine VC.drawn ?_
    refine VD.r [] (.ld vt72) (.inl rfl) ?_
    refine VD.c (.move rfl) ?_
    refine VD.c (.move rfl) ?_
    refine VD.r [] (.ld vt72) (.inl rfl) ?_
    refine VD.call rfl rfl (VF.call (sValid0_ok (by first | assumption | omega | simp))) ?_
    refine VD.callO rfl rfl (VF.call (sLean_ok hc (by omega) (by omega))) ?_
    refine VD.nw [31, 30] ?_
    refine VD.c (.assign rfl) ?_
    refine VD.c (.assign rfl) ?_
    refine VD.go ?_
    refine VC.ret ?_
    exact VEnd.two rfl evT evT (pvE (by exact (if_pos (show lackE c s = 0 from Decidable.not_not.1 c3)).symm)) (pvI (by exact (Decidable.not_not.1 c3).symm))
theorem nil4 {P : Program} {orc : FuncId → List Value → Heap → Option (Value × Heap)} {f : FuncId} {a b c r : PV} {τ : Ty} (h : VF P orc f [a, b, c, .v (.sl τ) []] r) : VF P orc f [a, b, c, nilV] r := fun hh S us hok hS hr => h hh S us hok hS (by
  obtain ⟨u1, r1, e1, h1, u2, r2, e2, h2, u3, r3, e3, h3, u4, r4, e4, h4, h5⟩ := hr
  obtain rfl := h4
  exact ⟨u1, r1, e1, h1, u2, r2, e2, h2, u3, r3, e3, h3, _, r4, e4, SlV.nil.rep, h5⟩)
theorem sLeanN_ok {c : Cse} {s : ByteArray} {l : List ByteArray} (hc : CseOk c) (hl : l.length < 50000) : VF Tryz.prog OA 128 [.v y72 c, .v .str s, .v (.sl .str) l, nilV] (.v (.sl .str) (leanF c s [] l.length l)) := nil4 (sLean_ok hc hl (by simp))
theorem sSupport_ok {c : (List (ByteArray × Int)) × (List (ByteArray × (List (ByteArray × Int)))) × (List (ByteArray × Bool × (List ByteArray)))} {s : ByteArray} (hc : CseOk c) : VF Tryz.prog OA 60 [.v y72 c, St s] (.tup [.v (.sl .str) (if heldE c s = 0 then leanF c s [] (validE c).length (validE c) else []), I (heldE c s)]) := by
  refine VF.enter Tryz.func60 rfl (fun _ _ => rfl) rfl ?_
  show VC _ _ _ _ _ [(0, .v y72 c), (1, St s)] [] _
  refine VC.seq ?_
  refine VC.text ?_
  have hce := hc.e
  have hvl := validE_len (c := c)
  refine VO.new (.box) ?_
  refine VO.c (.assign rfl) ?_
  refine VO.c (.assign rfl) ?_
  refine VO.go ?_
  refine VC.seq ?_
  refine VC.seq ?_
  refine VC.text ?_
  refine VO.r (.ld vt72) ?_
  refine VO.c (.move rfl) ?_
  refine VO.call rfl rfl (VF.call (sHeld_ok (by first | assumption | omega | simp))) ?_
  refine VO.c (.assign rfl) ?_
  refine VO.go ?_
  refine VC.seq ?_
  refine VC.text ?_
  refine VO.c (.move rfl) ?_
  refine VO.c (.neq) ?_
  refine VO.go ?_
  refine VC.condD rfl (fun c2 => ?_) (fun c2 => ?_)
  · refine VC.seq ?_
    refine VC.text ?_
    refine VO.c (.move rfl) ?_
    refine VO.c (.assign rfl) ?_
    refine VO.c (.assign rfl) ?_
    refine VO.go ?_
    refine VC.ret ?_
    exact VEnd.two rfl (evC .nil) evT (pvE (by exact (if_neg c2).symm)) (pvI (by rfl))
  · have h64 := two_len c2
    refine VC.skip ?_
    show VC _ _ _ _ _ _ _ _
    refine VC.seq ?_
    refine VC.drawn ?_
    refine VD.r [] (.ld vt72) (.inl rfl) ?_
    refine VD.c (.move rfl) ?_
    refine VD.r [] (.ld vt72) (.inl rfl) ?_
    refine VD.call rfl rfl (VF.call (sValid0_ok (by first | assumption | omega | simp))) ?_
    refine VD.callO rfl rfl (VF.call (sLeanN_ok (by first | assumption | omega | simp) (by first | assumption | omega | simp))) ?_
    refine VD.c (.assign rfl) ?_
    refine VD.nw [4, 17, 16] ?_
    refine VD.c (.assign rfl) ?_
    refine VD.go ?_
    refine VC.ret ?_
    exact VEnd.two rfl evT evT (pvE (by exact (if_pos (show heldE c s = 0 from Decidable.not_not.1 c2)).symm)) (pvI (by exact (Decidable.not_not.1 c2).symm))
theorem sNeeded_ok {c : (List (ByteArray × Int)) × (List (ByteArray × (List (ByteArray × Int)))) × (List (ByteArray × Bool × (List ByteArray)))} {s : ByteArray} (hc : CseOk c) : VF Tryz.prog OA 61 [.v y72 c, St s] (.tup [.v (.sl .str) (if heldE c s = 0 then (validE c).filter (needB c s (validE c)) else []), I (heldE c s)]) := by
  refine VF.enter Tryz.func61 rfl (fun _ _ => rfl) rfl ?_
  show VC _ _ _ _ _ [(0, .v y72 c), (1, St s)] [] _
  refine VC.seq ?_
  refine VC.text ?_
  have hce := hc.e
  have hvl := validE_len (c := c)
  refine VO.new (.box) ?_
  refine VO.c (.assign rfl) ?_
  refine VO.c (.assign rfl) ?_
  refine VO.go ?_
  refine VC.seq ?_
  refine VC.seq ?_
  refine VC.text ?_
  refine VO.r (.ld vt72) ?_
  refine VO.c (.move rfl) ?_
  refine VO.call rfl rfl (VF.call (sHeld_ok (by first | assumption | omega | simp))) ?_
  refine VO.c (.assign rfl) ?_
  refine VO.go ?_
  refine VC.seq ?_
  refine VC.text ?_
  refine VO.c (.move rfl) ?_
  refine VO.c (.neq) ?_
  refine VO.go ?_
  refine VC.condD rfl (fun c2 => ?_) (fun c2 => ?_)
  · refine VC.seq ?_
    refine VC.text ?_
    refine VO.c (.move rfl) ?_
    refine VO.c (.assign rfl) ?_
    refine VO.c (.assign rfl) ?_
    refine VO.go ?_
    refine VC.ret ?_
    exact VEnd.two rfl (evC .nil) evT (pvE (by exact (if_neg c2).symm)) (pvI (by rfl))
  · have h64 := two_len c2
    refine VC.skip ?_
    show VC _ _ _ _ _ _ _ _
    refine VC.seq ?_
    refine VC.drawn ?_
    refine VD.r [] (.ld vt72) (.inl rfl) ?_
    refine VD.c (.move rfl) ?_
    refine VD.r [] (.ld vt72) (.inl rfl) ?_
    refine VD.call rfl rfl (VF.call (sValid0_ok (by first | assumption | omega | simp))) ?_
    refine VD.callO rfl rfl (VF.call (sNeeds_ok (by first | assumption | omega | simp) (by first | assumption | omega | simp))) ?_
    refine VD.c (.assign rfl) ?_
    refine VD.nw [4, 17, 16] ?_
    refine VD.c (.assign rfl) ?_
    refine VD.go ?_
    refine VC.ret ?_
    exact VEnd.two rfl evT evT (pvE (by exact (if_pos (show heldE c s = 0 from Decidable.not_not.1 c2)).symm)) (pvI (by exact (Decidable.not_not.1 c2).symm))
def chkO (c : Cse) : Int → List ByteArray → Int
  | _, [] => 0
  | last, s :: r => if evidE c.2.1 s < 0 then 10 else if evidE c.2.1 s ≤ last then 11 else chkO c (evidE c.2.1 s) r
theorem chkO_drop {c : Cse} {l : List ByteArray} {j : Nat} {k : Int} (h : j < l.length) : chkO c k (l.drop j) = if evidE c.2.1 l[j] < 0 then 10 else if evidE c.2.1 l[j] ≤ k then 11 else chkO c (evidE c.2.1 l[j]) (l.drop (j + 1)) := by
  rw [List.drop_eq_getElem_cons h] <;> rfl
def badS (c : Cse) (s : ByteArray) (l : List ByteArray) : Bool := l.any (fun w => !hasB (validE c) w) || !inM (byM c l) s || decide (((l.filter (needB c s l)).length : Int) ≠ (l.length : Int))
theorem badS_1 {c : Cse} {s : ByteArray} {l : List ByteArray} (h : (l.any fun w => !hasB (validE c) w) = true) : badS c s l = true := by
  unfold badS
  rw [h] <;> rfl
theorem badS_2 {c : Cse} {s : ByteArray} {l : List ByteArray} (h : (l.any fun w => !hasB (validE c) w) = false) (h2 : inM (byM c l) s = false) : badS c s l = true := by
  unfold badS
  rw [h, h2] <;> rfl
theorem badS_3 {c : Cse} {s : ByteArray} {l : List ByteArray} (h : (l.any fun w => !hasB (validE c) w) = false) (h2 : inM (byM c l) s = true) : badS c s l = decide (((l.filter (needB c s l)).length : Int) ≠ (l.length : Int)) := by
  unfold badS
  rw [h, h2] <;> rfl
def supE (c : Cse) (s : ByteArray) (l : List ByteArray) : Int := if twoE c s ≠ 0 then twoE c s else if chkO c (-1) l ≠ 0 then chkO c (-1) l else whenE (badS c s l) 22
def stepO (c : Cse) (k : Int) (s : ByteArray) : Int := firstE [whenE (decide (evidE c.2.1 s < 0)) 10, whenE (decide (evidE c.2.1 s ≤ k)) 11]
theorem chk_step {c : Cse} {l : List ByteArray} {j : Nat} {k : Int} (h : j < l.length) : chkO c k (l.drop j) = if stepO c k l[j] ≠ 0 then stepO c k l[j] else chkO c (evidE c.2.1 l[j]) (l.drop (j + 1)) := by
  rw [chkO_drop h]
  unfold stepO
  rw [firstE_two]
  by_cases h1 : evidE c.2.1 l[j] < 0
  · rw [if_pos h1, decide_eq_true h1] <;> rfl
  · rw [if_neg h1, decide_eq_false h1]
    by_cases h2 : evidE c.2.1 l[j] ≤ k
    · rw [if_pos h2, decide_eq_true h2] <;> rfl
    · rw [if_neg h2, decide_eq_false h2] <;> rfl
theorem sCheckSupport1_ok {x : ByteArray × (List (ByteArray × Int))} {s : ByteArray} : VF Tryz.prog OA 134 [.v y155 x, .p .str s] (B (decide (x.1 = s))) := by
  refine VF.enter Tryz.func134 rfl (fun _ _ => rfl) rfl ?_
  show VC _ _ _ _ _ [(0, .v y155 x), (1, .p .str s)] [] _
  refine VC.seq ?_
  refine VC.text ?_
  refine VO.new (.box) ?_
  refine VO.c (.assign rfl) ?_
  refine VO.go ?_
  refine VC.seq ?_
  refine VC.text ?_
  refine VO.c (.fa (.l .o)) ?_
  refine VO.r (.ld vt9) ?_
  refine VO.r (.ld vt9) ?_
  refine VO.c (.seql) ?_
  refine VO.c (.assign rfl) ?_
  refine VO.go ?_
  refine VC.ret ?_
  exact VEnd.one rfl evT (pvE (by first | rfl | simp))
theorem sCheckSupport2_ok {s : ByteArray} {l : List ByteArray} (hl : l.length < 1000000) : VF Tryz.prog OA 135 [St s, .p (.sl .str) l] (B (!hasB l s)) := by
  refine VF.enter Tryz.func135 rfl (fun _ _ => rfl) rfl ?_
  show VC _ _ _ _ _ [(0, St s), (1, .p (.sl .str) l)] [] _
  refine VC.seq ?_
  refine VC.text ?_
  refine VO.c (.assign rfl) ?_
  refine VO.go ?_
  refine VC.seq ?_
  refine VC.text ?_
  refine VO.r (.ld vt27) ?_
  refine VO.c (.move rfl) ?_
  refine VO.call rfl rfl (VF.call (zContains_ok (by first | assumption | omega | simp))) ?_
  refine VO.c (.not) ?_
  refine VO.c (.assign rfl) ?_
  refine VO.go ?_
  refine VC.ret ?_
  exact VEnd.one rfl evT (pvE (by first | rfl | simp))
theorem sCheckSupport_ok {c : (List (ByteArray × Int)) × (List (ByteArray × (List (ByteArray × Int)))) × (List (ByteArray × Bool × (List ByteArray)))} {s : ByteArray} {l : List ByteArray} (hc : CseOk c) (hl : l.length < 100000) : VF Tryz.prog OA 65 [.v y72 c, St s, .v (.sl .str) l] (I (supE c s l)) := by
  refine VF.enter Tryz.func65 rfl (fun _ _ => rfl) rfl ?_
  show VC _ _ _ _ _ [(0, .v y72 c), (1, St s), (2, .v (.sl .str) l)] [] _
  refine VC.seq ?_
  refine VC.text ?_
  have hce := hc.e
  have hvl := validE_len (c := c)
  have hnl := List.length_filter_le (needB c s l) l
  refine VO.new (.box) ?_
  refine VO.c (.assign rfl) ?_
  refine VO.go ?_
  refine VC.seq ?_
  refine VC.seq ?_
  refine VC.text ?_
  refine VO.r (.ld vt72) ?_
  refine VO.c (.move rfl) ?_
  refine VO.call rfl rfl (VF.call (sCheckClaim_ok (by first | assumption | omega | simp))) ?_
  refine VO.c (.assign rfl) ?_
  refine VO.go ?_
  refine VC.seq ?_
  refine VC.text ?_
  refine VO.c (.move rfl) ?_
  refine VO.c (.neq) ?_
  refine VO.go ?_
  refine VC.condD rfl (fun c2 => ?_) (fun c2 => ?_)
  · refine VC.seq ?_
    refine VC.text ?_
    refine VO.c (.move rfl) ?_
    refine VO.c (.assign rfl) ?_
    refine VO.go ?_
    refine VC.ret ?_
    exact VEnd.one rfl evT (pvI (by rw [supE, if_pos c2]))
  · refine VC.skip ?_
    show VC _ _ _ _ _ _ _ _
    refine VC.seq ?_
    refine VC.text ?_
    refine VO.c (.assign rfl) ?_
    refine VO.go ?_
    refine VC.seq ?_
    refine VC.seq ?_
    refine VC.text ?_
    refine VO.c (.move rfl) ?_
    refine VO.r (.len el27) ?_
    refine VO.c (.move rfl) ?_
    refine VO.go ?_
    refine VC.block ?_
    refine VC.keep [(1, St s), (2, .v (.sl .str) l), (3, .p y72 c), (8, I (-1)), (21, .v (.sl .str) l), (22, I ((l.length : Nat) : Int)), (23, I ((0 : Nat) : Int))] ⟨rfl, rfl, rfl, rfl, rfl, rfl, rfl, trivial⟩ ?_
    refine VC.loop (I := fun kk ff ss => ∃ (j : Nat) (k : Int), kk = l.length - j ∧ ff = [(1, St s), (2, .v (.sl .str) l), (3, .p y72 c), (8, I k), (21, .v (.sl .str) l), (22, I ((l.length : Nat) : Int)), (23, I ((j : Nat) : Int))] ∧ ss = [] ∧ (j ≤ l.length) ∧ (chkO c (-1) l = chkO c k (l.drop j))) ?_ _ _ _ ⟨0, -1, rfl, rfl, rfl, Nat.zero_le _, (by rfl)⟩
    rintro kk ff ss ⟨j, k, hk0, rfl, rfl, hj, hf⟩
    refine VC.seq ?_
    refine VC.text ?_
    refine VO.c (.lss) ?_
    refine VO.go ?_
    refine VC.seq ?_
    refine VC.condD rfl (fun c6 => ?_) (fun c6 => ?_)
    · refine VC.skip ?_
      show VC _ _ _ _ _ _ _ _
      refine VC.seq ?_
      refine VC.block ?_
      refine VC.seq ?_
      refine VC.text ?_
      refine VO.c (.ix (j := j) rfl rfl el27 (by omega)) ?_
      refine VO.r (.ld vt9) ?_
      refine VO.cell (.alloc zt9) ?_
      intro ww1
      refine VO.setV (cs' := [St (l[j])]) vt9 .v ?_
      refine VO.shut [(10, .p .str (l[j]))] (.cons rfl (.var m0 .refl) .nil) ?_
      refine VO.go ?_
      refine VC.seq ?_
      refine VC.text ?_
      refine VO.c (.fa (.r (.l .o))) ?_
      refine VO.r (.ld vt69) ?_
      refine VO.c (.func) ?_
      refine VO.call rfl rfl (VF.call (zIndexFE_ok (F := fun x => decide (x.1 = l[j])) (by omega) (fun _ _ => VF.clo sCheckSupport1_ok))) ?_
      refine VO.c (.assign rfl) ?_
      refine VO.go ?_
      refine VC.seq ?_
      refine VC.seq ?_
      refine VC.text ?_
      refine VO.c (.move rfl) ?_
      refine VO.c (.lss) ?_
      refine VO.call rfl rfl (VF.call (sWhen_ok )) ?_
      refine VO.c (.move rfl) ?_
      refine VO.c (.move rfl) ?_
      refine VO.c (.leq) ?_
      refine VO.call rfl rfl (VF.call (sWhen_ok )) ?_
      refine VO.new (.lit [whenE (decide (idxG (fun x => decide (x.1 = l[j])) c.2.1 0 < (0 : Int))) (10 : Int), whenE (decide (idxG (fun x => decide (x.1 = l[j])) c.2.1 0 ≤ k)) (11 : Int)] el204) ?_
      refine VO.call rfl rfl (VF.call (sFirst_ok (by first | assumption | omega | simp))) ?_
      refine VO.c (.assign rfl) ?_
      refine VO.go ?_
      refine VC.seq ?_
      refine VC.text ?_
      refine VO.c (.move rfl) ?_
      refine VO.c (.neq) ?_
      refine VO.go ?_
      refine VC.condD rfl (fun c10 => ?_) (fun c10 => ?_)
      · refine VC.seq ?_
        refine VC.text ?_
        refine VO.c (.move rfl) ?_
        refine VO.c (.assign rfl) ?_
        refine VO.go ?_
        refine VC.ret ?_
        exact VEnd.one rfl evT (pvI (by rw [supE, if_neg c2, hf, chk_step (by omega), if_pos (show stepO c k l[j] ≠ 0 from c10), if_pos (show stepO c k l[j] ≠ 0 from c10)] <;> rfl))
      · refine VC.skip ?_
        show VC _ _ _ _ _ _ _ _
        refine VC.text ?_
        refine VO.c (.move rfl) ?_
        refine VO.c (.assign rfl) ?_
        refine VO.nil ?_
        show VC _ _ _ _ _ _ _ _
        refine VC.text ?_
        refine VO.c (.add rfl rfl (by omega)) ?_
        refine VO.c (.move rfl) ?_
        refine VO.nil ?_
        refine ⟨_, [(1, St s), (2, .v (.sl .str) l), (3, .p y72 c), (8, I (evidE c.2.1 l[j])), (21, .v (.sl .str) l), (22, I ((l.length : Nat) : Int)), (23, I (((j + 1) : Nat) : Int))], ?_, ⟨rfl, rfl, rfl, slI rfl (by first | rfl | simp | omega), rfl, rfl, rfl, trivial⟩, (j + 1), (evidE c.2.1 l[j]), rfl, rfl, rfl, (by omega), (by rw [hf, chk_step (by omega), if_neg (show ¬ stepO c k l[j] ≠ 0 from c10)])⟩
        omega
    · refine VC.exit ?_
      show VC _ _ _ _ _ _ _ _
      refine VC.seq ?_
      refine VC.text ?_
      refine VO.r (.ld vt72) ?_
      refine VO.call rfl rfl (VF.call (sValid0_ok (by first | assumption | omega | simp))) ?_
      refine VO.cell (.alloc zt27DB) ?_
      intro ww2
      refine VO.setV (cs' := [.v (.sl .str) (validE c)]) vt27 .v ?_
      refine VO.shut [(13, .p (.sl .str) (validE c))] (.cons rfl (.var m0 .refl) .nil) ?_
      refine VO.go ?_
      refine VC.seq ?_
      refine VC.text ?_
      refine VO.c (.func) ?_
      refine VO.c (.assign rfl) ?_
      refine VO.go ?_
      refine VC.seq ?_
      refine VC.text ?_
      refine VO.c (.move rfl) ?_
      refine VO.c (.move rfl) ?_
      refine VO.call rfl rfl (VF.call (zContainsF_ok (F := fun w => !hasB (validE c) w) (by omega) (fun _ _ => VF.clo (sCheckSupport2_ok (by omega))))) ?_
      refine VO.c (.move rfl) ?_
      refine VO.splitB (x := 51) rfl (fun g16_3 => ?_) (fun g16_3 => ?_)
      · try simp only [Bool.and_eq_true, Bool.or_eq_true, Bool.and_eq_false_iff, Bool.or_eq_false_iff, Bool.not_eq_true', Bool.not_eq_false', decide_eq_true_eq, decide_eq_false_iff_not] at g16_3
        refine VO.skip ?_
        refine VO.skip ?_
        refine VO.skip ?_
        refine VO.skip ?_
        refine VO.skip ?_
        refine VO.skip ?_
        refine VO.c (.pickT rfl rfl) ?_
        refine VO.c (.move rfl) ?_
        refine VO.skip ?_
        refine VO.skip ?_
        refine VO.skip ?_
        refine VO.skip ?_
        refine VO.skip ?_
        refine VO.skip ?_
        refine VO.skip ?_
        refine VO.skip ?_
        refine VO.c (.pickT rfl rfl) ?_
        refine VO.call rfl rfl (VF.call (sWhen_ok )) ?_
        refine VO.c (.assign rfl) ?_
        refine VO.go ?_
        refine VC.ret ?_
        exact VEnd.one rfl evT (pvI (by rw [supE, if_neg c2, hf, List.drop_eq_nil_of_le (by omega), if_neg (fun h => h rfl)]; first | rw [badS_1 g16_3] | rw [badS_2 g16_3 g16_11] | rw [badS_3 g16_3 g16_11]))
      · try simp only [Bool.and_eq_true, Bool.or_eq_true, Bool.and_eq_false_iff, Bool.or_eq_false_iff, Bool.not_eq_true', Bool.not_eq_false', decide_eq_true_eq, decide_eq_false_iff_not] at g16_3
        refine VO.r (.ld vt72) ?_
        refine VO.c (.move rfl) ?_
        refine VO.call rfl rfl (VF.call (sBy_ok (by first | assumption | omega | simp) (by first | assumption | omega | simp))) ?_
        refine VO.c (.move rfl) ?_
        refine VO.r (.look mt158) ?_
        refine VO.c (.not) ?_
        refine VO.c (.pickF rfl rfl) ?_
        refine VO.c (.move rfl) ?_
        refine VO.splitB (x := 59) rfl (fun g16_11 => ?_) (fun g16_11 => ?_)
        · try simp only [Bool.and_eq_true, Bool.or_eq_true, Bool.and_eq_false_iff, Bool.or_eq_false_iff, Bool.not_eq_true', Bool.not_eq_false', decide_eq_true_eq, decide_eq_false_iff_not] at g16_11
          refine VO.skip ?_
          refine VO.skip ?_
          refine VO.skip ?_
          refine VO.skip ?_
          refine VO.skip ?_
          refine VO.skip ?_
          refine VO.skip ?_
          refine VO.skip ?_
          refine VO.c (.pickT rfl rfl) ?_
          refine VO.call rfl rfl (VF.call (sWhen_ok )) ?_
          refine VO.c (.assign rfl) ?_
          refine VO.go ?_
          refine VC.ret ?_
          exact VEnd.one rfl evT (pvI (by rw [supE, if_neg c2, hf, List.drop_eq_nil_of_le (by omega), if_neg (fun h => h rfl)]; first | rw [badS_1 g16_3] | rw [badS_2 g16_3 g16_11] | rw [badS_3 g16_3 g16_11]))
        · try simp only [Bool.and_eq_true, Bool.or_eq_true, Bool.and_eq_false_iff, Bool.or_eq_false_iff, Bool.not_eq_true', Bool.not_eq_false', decide_eq_true_eq, decide_eq_false_iff_not] at g16_11
          refine VO.r (.ld vt72) ?_
          refine VO.c (.move rfl) ?_
          refine VO.c (.move rfl) ?_
          refine VO.call rfl rfl (VF.call (sNeeds_ok (by first | assumption | omega | simp) (by first | assumption | omega | simp))) ?_
          refine VO.r (.len el27) ?_
          refine VO.c (.move rfl) ?_
          refine VO.r (.len el27) ?_
          refine VO.c (.neq) ?_
          refine VO.c (.pickF rfl rfl) ?_
          refine VO.call rfl rfl (VF.call (sWhen_ok )) ?_
          refine VO.c (.assign rfl) ?_
          refine VO.go ?_
          refine VC.ret ?_
          exact VEnd.one rfl evT (pvI (by rw [supE, if_neg c2, hf, List.drop_eq_nil_of_le (by omega), if_neg (fun h => h rfl)]; first | rw [badS_1 g16_3] | rw [badS_2 g16_3 g16_11] | rw [badS_3 g16_3 g16_11]))
end Go.Proofs
namespace Go.Proofs
open Go.Fs
set_option linter.unusedVariables false
set_option maxHeartbeats 2000000

theorem shortC_ok {c : Cse} (h : shortC c = true) : CseOk c := by
  unfold shortC at h
  simp only [Bool.and_eq_true] at h
  obtain ⟨⟨h1, h2, h3⟩, h4, h5, h6⟩ := h
  have h1 := of_decide_eq_true h1
  have h2 := of_decide_eq_true h2
  have h3 := of_decide_eq_true h3
  refine ⟨by omega, by omega, by omega, fun x hx => ?_, fun x hx => ?_⟩
  · have h7 := List.all_eq_true.1 h5 x hx
    unfold eS at h7
    simp only [Bool.and_eq_true, Bool.or_eq_true, decide_eq_true_eq] at h7
    omega
  · have h7 := List.all_eq_true.1 h6 x hx
    unfold cS at h7
    simp only [Bool.and_eq_true, Bool.or_eq_true, decide_eq_true_eq] at h7
    omega
theorem hasC_in {c : Cse} {s : ByteArray} : hasC c s = decide (0 ≤ claimE c.2.2 s) := by
  unfold hasC
  rw [Bool.eq_iff_iff, List.any_eq_true, decide_eq_true_eq, claim_in]
  constructor
  · rintro ⟨x, hx, he⟩; exact ⟨x, hx, of_decide_eq_true he⟩
  · rintro ⟨x, hx, he⟩; exact ⟨x, hx, decide_eq_true he⟩
theorem two_same {c : Cse} {s : ByteArray} : twoE c s = rTwo c s := by
  unfold rTwo
  by_cases h : caseE c = 0
  · rw [if_neg (fun h2 => h2 h)]
    unfold twoE
    rw [hasC_in]
    by_cases h2 : 0 ≤ claimE c.2.2 s
    · rw [decide_eq_true h2, if_neg (show ¬ claimE c.2.2 s < 0 by omega), h] <;> rfl
    · rw [decide_eq_false h2, if_pos (show claimE c.2.2 s < 0 by omega), h] <;> rfl
  · rw [if_pos h]
    unfold twoE
    rw [firstE_two, if_neg h]
theorem rTwo_ok {c : Cse} {s : ByteArray} (h : rTwo c s = 0) : caseE c = 0 ∧ 0 ≤ claimE c.2.2 s := by
  unfold rTwo at h
  by_cases h1 : caseE c = 0
  · rw [if_neg (fun h2 => h2 h1)] at h
    refine ⟨h1, ?_⟩
    by_cases h3 : claimE c.2.2 s < 0
    · rw [if_pos h3] at h; cases h
    · omega
  · rw [if_pos h1] at h; exact absurd h h1
end Go.Proofs
