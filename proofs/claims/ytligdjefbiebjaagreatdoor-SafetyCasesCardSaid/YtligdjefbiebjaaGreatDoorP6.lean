/- Runs told by what the slots tell: a slice variable that is nothing yet; an array of two as a slice. No condition. Runs told by what the slots tell: truth values compared. No condition. Runs told by what the slots tell: calls of what own cells tell, of whose result the length alone is looked at. No condition. Chapter 9, the plain laws: what a valid case has. No condition. Chapter 9, the plain laws: what holds by some evidence, claim by claim. No condition. Runs told by what the slots tell: a struct variable that keeps its zero value, cell by cell. No condition. strings.Builder's copyCheck by its contract, beside Itoa and Join: an oracle for the evaluator. No condition. The evaluator that lets loads of what stays as it is come in any order; awake by it. No condition. A long closed call, evaluated piece by piece. No condition. -/
import Derived.Test.YtligdjefbiebjaaGreatDoorP5
import Derived.Test.YtligdjefbiebjaaGreatDoorP4
set_option linter.all false
namespace Go.Proofs
open Go.Fs
set_option linter.unusedVariables false
theorem eq153 : EqT Tryz.prog 153 y153 := eqT_of (by kernel_rfl)
/-! ## Valid evidence -/
theorem zIndexV_ok {l : List (ByteArray × Int)} {v : ByteArray × Int} (hl : l.length < 1000000) : VF Tryz.prog OA 196 [.v y68 l, .v y153 v] (I (idxG (fun x => decide (v = x)) l 0)) := by
  refine VF.enter Tryz.func196 rfl (fun _ _ => rfl) rfl ?_
  show VC _ _ _ _ _ [(0, .v y68 l), (1, .v y153 v)] [] _
  refine VC.seq ?_
  refine VC.text ?_
  refine VO.new (.box) ?_
  refine VO.c (.assign rfl) ?_
  refine VO.go ?_
  refine VC.seq ?_
  refine VC.seq ?_
  refine VC.text ?_
  refine VO.c (.move rfl) ?_
  refine VO.r (.len el68) ?_
  refine VO.c (.move rfl) ?_
  refine VO.go ?_
  refine VC.block ?_
  refine VC.keep [(0, .v y68 l), (3, .p y153 v), (7, I ((l.length : Nat) : Int)), (8, I ((0 : Nat) : Int))] ⟨rfl, rfl, rfl, rfl, trivial⟩ ?_
  refine VC.loop (I := fun kk ff ss => ∃ (j : Nat), kk = l.length - j ∧ ff = [(0, .v y68 l), (3, .p y153 v), (7, I ((l.length : Nat) : Int)), (8, I ((j : Nat) : Int))] ∧ ss = [] ∧ (j ≤ l.length) ∧ (idxG (fun x => decide (v = x)) l 0 = idxG (fun x => decide (v = x)) (l.drop j) (j : Nat))) ?_ _ _ _ ⟨0, rfl, rfl, rfl, Nat.zero_le _, (by rfl)⟩
  rintro kk ff ss ⟨j, hk0, rfl, rfl, hj, hi⟩
  refine VC.seq ?_
  refine VC.text ?_
  refine VO.c (.lss) ?_
  refine VO.go ?_
  refine VC.seq ?_
  refine VC.condD rfl (fun c2 => ?_) (fun c2 => ?_)
  · refine VC.skip ?_
    show VC _ _ _ _ _ _ _ _
    refine VC.seq ?_
    refine VC.block ?_
    refine VC.seq ?_
    refine VC.text ?_
    refine VO.c (.move rfl) ?_
    refine VO.c (.assign rfl) ?_
    refine VO.go ?_
    refine VC.seq ?_
    refine VC.drawn ?_
    refine VD.r [] (.ld vt153) (.inl rfl) ?_
    refine VD.c (.move rfl) ?_
    refine VD.c (.move rfl) ?_
    refine VD.c (.ix (j := j) rfl rfl el68 (by omega)) ?_
    refine VD.r [] (.ld vt153) (.inl rfl) ?_
    refine VD.c (.eeql eq153) ?_
    refine VD.go ?_
    refine VC.condD rfl (fun c4 => ?_) (fun c4 => ?_)
    · refine VC.seq ?_
      refine VC.text ?_
      refine VO.c (.move rfl) ?_
      refine VO.c (.assign rfl) ?_
      refine VO.go ?_
      refine VC.ret ?_
      exact VEnd.one rfl evT (pvI (by rw [hi, idxG_drop (by omega), if_pos (by simpa using c4)]))
    · refine VC.skip ?_
      show VC _ _ _ _ _ _ _ _
      refine VC.text ?_
      refine VO.c (.add rfl rfl (by omega)) ?_
      refine VO.c (.move rfl) ?_
      refine VO.nil ?_
      refine ⟨_, [(0, .v y68 l), (3, .p y153 v), (7, I ((l.length : Nat) : Int)), (8, I (((j + 1) : Nat) : Int))], ?_, ⟨rfl, rfl, rfl, rfl, trivial⟩, (j + 1), rfl, rfl, rfl, (by omega), (by rw [hi, idxG_drop (by omega), if_neg (by simpa using c4)])⟩
      omega
  · refine VC.exit ?_
    show VC _ _ _ _ _ _ _ _
    refine VC.seq ?_
    refine VC.text ?_
    refine VO.c (.assign rfl) ?_
    refine VO.go ?_
    refine VC.ret ?_
    exact VEnd.one rfl evT (pvI (by rw [hi, idxG_end (by omega)]))
def hasV (l : List Vers) (v : Vers) : Bool := l.any fun x => decide (v = x)
theorem zContainsV_ok {l : List (ByteArray × Int)} {v : ByteArray × Int} (hl : l.length < 1000000) : VF Tryz.prog OA 166 [.v y68 l, .v y153 v] (B (hasV l v)) := by
  refine VF.enter Tryz.func166 rfl (fun _ _ => rfl) rfl ?_
  show VC _ _ _ _ _ [(0, .v y68 l), (1, .v y153 v)] [] _
  refine VC.seq ?_
  refine VC.text ?_
  refine VO.new (.box) ?_
  refine VO.c (.assign rfl) ?_
  refine VO.go ?_
  refine VC.seq ?_
  refine VC.text ?_
  refine VO.c (.move rfl) ?_
  refine VO.r (.ld vt153) ?_
  refine VO.call rfl rfl (VF.call (zIndexV_ok hl)) ?_
  refine VO.c (.geq) ?_
  refine VO.c (.assign rfl) ?_
  refine VO.go ?_
  refine VC.ret ?_
  exact VEnd.one rfl evT (pvE (by have h9 := idxG_any (F := fun x => decide (v = x)) (l := l) (k := 0) (by omega); change _ ↔ hasV l v = true at h9; cases h8 : hasV l v <;> simp_all))
theorem zContainsFV_ok {F : Vers → Bool} {l : List (ByteArray × Int)} {f : PV} (hl : l.length < 1000000) (hf : ∀ x ∈ l, VCall Tryz.prog OA f [.v y153 x] (B (F x))) : VF Tryz.prog OA 167 [.v y68 l, f] (B (l.any F)) := by
  refine VF.enter Tryz.func167 rfl (fun _ _ => rfl) rfl ?_
  show VC _ _ _ _ _ [(0, .v y68 l), (1, f)] [] _
  refine VC.seq ?_
  refine VC.text ?_
  refine VO.c (.assign rfl) ?_
  refine VO.go ?_
  refine VC.seq ?_
  refine VC.text ?_
  refine VO.c (.move rfl) ?_
  refine VO.c (.move rfl) ?_
  refine VO.call rfl rfl (VF.call (zIndexFV_ok (F := F) hl hf)) ?_
  refine VO.c (.geq) ?_
  refine VO.c (.assign rfl) ?_
  refine VO.go ?_
  refine VC.ret ?_
  exact VEnd.one rfl evT (pvE (by have h9 := idxG_any (F := F) (l := l) (k := 0) (by omega); cases h8 : l.any F <;> simp_all))
theorem sFresh1_ok {v : ByteArray × Int} {c : (List (ByteArray × Int)) × (List (ByteArray × (List (ByteArray × Int)))) × (List (ByteArray × Bool × (List ByteArray)))} (hl : c.1.length < 1000000) : VF Tryz.prog OA 165 [.v y153 v, .p y72 c] (B (!hasV c.1 v)) := by
  refine VF.enter Tryz.func165 rfl (fun _ _ => rfl) rfl ?_
  show VC _ _ _ _ _ [(0, .v y153 v), (1, .p y72 c)] [] _
  refine VC.seq ?_
  refine VC.text ?_
  refine VO.new (.box) ?_
  refine VO.c (.assign rfl) ?_
  refine VO.go ?_
  refine VC.seq ?_
  refine VC.text ?_
  refine VO.c (.fa (.l .o)) ?_
  refine VO.r (.ld vt68) ?_
  refine VO.r (.ld vt153) ?_
  refine VO.call rfl rfl (VF.call (zContainsV_ok hl)) ?_
  refine VO.c (.not) ?_
  refine VO.c (.assign rfl) ?_
  refine VO.go ?_
  refine VC.ret ?_
  exact VEnd.one rfl evT (pvE (by rfl))
def freshB (c : Cse) (x : Evid) : Bool := !(x.2.any fun v => !hasV c.1 v)
theorem sFresh0_ok {c : (List (ByteArray × Int)) × (List (ByteArray × (List (ByteArray × Int)))) × (List (ByteArray × Bool × (List ByteArray)))} {x : ByteArray × (List (ByteArray × Int))} (hl : c.1.length < 1000000) (hx : x.2.length < 1000000) : VF Tryz.prog OA 127 [.v y72 c, .v y155 x] (B (freshB c x)) := by
  refine VF.enter Tryz.func127 rfl (fun _ _ => rfl) rfl ?_
  show VC _ _ _ _ _ [(0, .v y72 c), (1, .v y155 x)] [] _
  refine VC.seq ?_
  refine VC.text ?_
  refine VO.new (.box) ?_
  refine VO.new (.box) ?_
  refine VO.c (.assign rfl) ?_
  refine VO.go ?_
  refine VC.seq ?_
  refine VC.text ?_
  refine VO.c (.func) ?_
  refine VO.c (.assign rfl) ?_
  refine VO.go ?_
  refine VC.seq ?_
  refine VC.text ?_
  refine VO.c (.fa (.r .o)) ?_
  refine VO.r (.ld vt68) ?_
  refine VO.c (.move rfl) ?_
  refine VO.call rfl rfl (VF.call (zContainsFV_ok (F := fun v => !hasV c.1 v) hx (fun _ _ => VF.clo (sFresh1_ok hl)))) ?_
  refine VO.c (.not) ?_
  refine VO.c (.assign rfl) ?_
  refine VO.go ?_
  refine VC.ret ?_
  exact VEnd.one rfl evT (pvE (by rfl))
theorem sKeptE_ok {F : Evid → Bool} {l : List (ByteArray × (List (ByteArray × Int)))} {f : PV} (hl : l.length < 100000) (hf : ∀ x ∈ l, VCall Tryz.prog OA f [.v y155 x] (B (F x))) : VF Tryz.prog OA 164 [.v y69 l, f] (.v y69 (l.filter F)) := by
  refine VF.enter Tryz.func164 rfl (fun _ _ => rfl) rfl ?_
  show VC _ _ _ _ _ [(0, .v y69 l), (1, f)] [] _
  refine VC.seq ?_
  refine VC.text ?_
  refine VO.c (.assign rfl) ?_
  refine VO.go ?_
  refine VC.seq ?_
  refine VC.text ?_
  refine VO.c (.assign rfl) ?_
  refine VO.go ?_
  refine VC.seq ?_
  refine VC.seq ?_
  refine VC.text ?_
  refine VO.c (.move rfl) ?_
  refine VO.r (.len el69) ?_
  refine VO.c (.move rfl) ?_
  refine VO.go ?_
  refine VC.block ?_
  refine VC.cell0 155 y155 ?_
  refine VC.keep [(1, f), (5, .raw (.slice none 0 0)), (8, .v y69 l), (9, I ((l.length : Nat) : Int)), (10, I ((0 : Nat) : Int))] ⟨rfl, rfl, rfl, rfl, rfl, trivial⟩ ?_
  refine VC.loop (I := fun kk ff ss => ∃ (j : Nat) (out : Value), kk = l.length - j ∧ ff = [(1, f), (5, .raw out), (8, .v y69 l), (9, I ((l.length : Nat) : Int)), (10, I ((j : Nat) : Int))] ∧ ss = [(out, .row 155 y155 ((l.take j).filter F))] ∧ (j ≤ l.length)) ?_ _ _ _ ⟨0, (.slice none 0 0), rfl, rfl, rfl, Nat.zero_le _⟩
  rintro kk ff ss ⟨j, out, hk0, rfl, rfl, hj⟩
  have hlen : ((l.take j).filter F).length ≤ j := Nat.le_trans (List.length_filter_le F (l.take j)) (List.length_take_le j l)
  refine VC.seq ?_
  refine VC.text ?_
  refine VO.c (.lss) ?_
  refine VO.go ?_
  refine VC.seq ?_
  refine VC.condD rfl (fun c3 => ?_) (fun c3 => ?_)
  · refine VC.skip ?_
    show VC _ _ _ _ _ _ _ _
    refine VC.seq ?_
    refine VC.block ?_
    refine VC.seq ?_
    refine VC.text ?_
    refine VO.c (.ix (j := j) rfl rfl el69 (by omega)) ?_
    refine VO.r (.ld vt155) ?_
    refine VO.cell (.alloc zt155) ?_
    intro ww1
    refine VO.setV (cs' := [St ((l[j]).1), .v y68 ((l[j]).2)]) vt155 .v ?_
    refine VO.shut [(7, .p y155 (l[j]))] (.cons rfl (.var m0 .refl) .nil) ?_
    refine VO.go ?_
    refine VC.seq ?_
    refine VC.text ?_
    refine VO.c (.move rfl) ?_
    refine VO.r (.ld vt155) ?_
    refine VO.call rfl rfl ((hf _ (List.getElem_mem _)) ) ?_
    refine VO.go ?_
    refine VC.condB rfl (fun c5 => ?_) (fun c5 => ?_)
    · have hg : (l.take (j + 1)).filter F = (l.take j).filter F ++ [l[j]] := by rw [List.take_succ_eq_append_getElem (by omega), List.filter_append]; simp [c5]
      refine VC.text ?_
      refine VO.c (.move rfl) ?_
      refine VO.r (.ld vt155) ?_
      refine VO.new (.lit [l[j]] el69) ?_
      refine VO.app rfl rfl el69 el69 (by simp; omega) ?_
      intro ww2
      refine VO.c (.assign rfl) ?_
      refine VO.nil ?_
      show VC _ _ _ _ _ _ _ _
      refine VC.text ?_
      refine VO.c (.add rfl rfl (by omega)) ?_
      refine VO.c (.move rfl) ?_
      refine VO.nil ?_
      refine ⟨_, [(1, f), (5, .raw ww2), (8, .v y69 l), (9, I ((l.length : Nat) : Int)), (10, I (((j + 1) : Nat) : Int))], ?_, ⟨rfl, rfl, rfl, rfl, rfl, trivial⟩, (j + 1), ww2, rfl, rfl, (by rw [hg]), (by omega)⟩
      omega
    · have hg : (l.take (j + 1)).filter F = (l.take j).filter F := by rw [List.take_succ_eq_append_getElem (by omega), List.filter_append]; simp [c5]
      refine VC.skip ?_
      show VC _ _ _ _ _ _ _ _
      refine VC.text ?_
      refine VO.c (.add rfl rfl (by omega)) ?_
      refine VO.c (.move rfl) ?_
      refine VO.nil ?_
      refine ⟨_, [(1, f), (5, .raw out), (8, .v y69 l), (9, I ((l.length : Nat) : Int)), (10, I (((j + 1) : Nat) : Int))], ?_, ⟨rfl, rfl, rfl, rfl, rfl, trivial⟩, (j + 1), out, rfl, rfl, (by rw [hg]), (by omega)⟩
      omega
  · refine VC.exit ?_
    show VC _ _ _ _ _ _ _ _
    refine VC.seq ?_
    refine VC.text ?_
    refine VO.c (.move rfl) ?_
    refine VO.c (.assign rfl) ?_
    refine VO.go ?_
    refine VC.ret ?_
    exact VEnd.one rfl (evC (.row m0)) (pvE (by rw [List.take_of_length_le (by omega)]))
theorem sNames_ok {F : Evid → Bool} {c : (List (ByteArray × Int)) × (List (ByteArray × (List (ByteArray × Int)))) × (List (ByteArray × Bool × (List ByteArray)))} {f : PV} (hl : c.2.1.length < 100000) (hf : ∀ x ∈ c.2.1, VCall Tryz.prog OA f [.v y155 x] (B (F x))) : VF Tryz.prog OA 125 [.v y72 c, f] (.v (.sl .str) ((c.2.1.filter F).map (·.1))) := by
  refine VF.enter Tryz.func125 rfl (fun _ _ => rfl) rfl ?_
  show VC _ _ _ _ _ [(0, .v y72 c), (1, f)] [] _
  refine VC.seq ?_
  refine VC.text ?_
  refine VO.new (.box) ?_
  refine VO.c (.assign rfl) ?_
  refine VO.go ?_
  refine VC.seq ?_
  refine VC.text ?_
  refine VO.c (.assign rfl) ?_
  refine VO.go ?_
  refine VC.seq ?_
  refine VC.seq ?_
  refine VC.text ?_
  refine VO.c (.fa (.r (.l .o))) ?_
  refine VO.r (.ld vt69) ?_
  refine VO.c (.move rfl) ?_
  refine VO.call rfl rfl (VF.call (sKeptE_ok (F := F) hl hf)) ?_
  have hlen := List.length_filter_le F c.2.1
  refine VO.r (.len el69) ?_
  refine VO.c (.move rfl) ?_
  refine VO.go ?_
  refine VC.block ?_
  refine VC.cell0 9 .str ?_
  refine VC.keep [(5, .raw (.slice none 0 0)), (11, .v y69 (c.2.1.filter F)), (12, I (((c.2.1.filter F).length : Nat) : Int)), (13, I ((0 : Nat) : Int))] ⟨rfl, rfl, rfl, rfl, trivial⟩ ?_
  refine VC.loop (I := fun kk ff ss => ∃ (j : Nat) (out : Value), kk = (c.2.1.filter F).length - j ∧ ff = [(5, .raw out), (11, .v y69 (c.2.1.filter F)), (12, I (((c.2.1.filter F).length : Nat) : Int)), (13, I ((j : Nat) : Int))] ∧ ss = [(out, .row 9 .str (((c.2.1.filter F).take j).map (·.1)))] ∧ (j ≤ (c.2.1.filter F).length)) ?_ _ _ _ ⟨0, (.slice none 0 0), rfl, rfl, rfl, (by omega)⟩
  rintro kk ff ss ⟨j, out, hk0, rfl, rfl, hj⟩
  refine VC.seq ?_
  refine VC.text ?_
  refine VO.c (.lss) ?_
  refine VO.go ?_
  refine VC.seq ?_
  refine VC.condD rfl (fun c3 => ?_) (fun c3 => ?_)
  · refine VC.skip ?_
    show VC _ _ _ _ _ _ _ _
    refine VC.seq ?_
    refine VC.block ?_
    refine VC.seq ?_
    refine VC.text ?_
    refine VO.c (.ix (j := j) rfl rfl el69 (by omega)) ?_
    refine VO.r (.ld vt155) ?_
    refine VO.cell (.alloc zt155) ?_
    intro ww3
    refine VO.setV (cs' := [St (((c.2.1.filter F)[j]).1), .v y68 (((c.2.1.filter F)[j]).2)]) vt155 .v ?_
    refine VO.shut [(7, .p y155 ((c.2.1.filter F)[j]))] (.cons rfl (.var m0 .refl) .nil) ?_
    refine VO.go ?_
    refine VC.text ?_
    refine VO.c (.move rfl) ?_
    refine VO.c (.fa (.l .o)) ?_
    refine VO.r (.ld vt9) ?_
    refine VO.new (.lit [((c.2.1.filter F)[j]).1] el27) ?_
    refine VO.app rfl rfl el27 el27 (by simp; omega) ?_
    intro ww4
    refine VO.c (.assign rfl) ?_
    refine VO.nil ?_
    show VC _ _ _ _ _ _ _ _
    refine VC.text ?_
    refine VO.c (.add rfl rfl (by omega)) ?_
    refine VO.c (.move rfl) ?_
    refine VO.nil ?_
    refine ⟨_, [(5, .raw ww4), (11, .v y69 (c.2.1.filter F)), (12, I (((c.2.1.filter F).length : Nat) : Int)), (13, I (((j + 1) : Nat) : Int))], ?_, ⟨rfl, rfl, rfl, rfl, trivial⟩, (j + 1), ww4, rfl, rfl, (by rw [List.take_succ_eq_append_getElem (by omega), List.map_append] <;> rfl), (by omega)⟩
    omega
  · refine VC.exit ?_
    show VC _ _ _ _ _ _ _ _
    refine VC.seq ?_
    refine VC.text ?_
    refine VO.c (.move rfl) ?_
    refine VO.c (.assign rfl) ?_
    refine VO.go ?_
    refine VC.ret ?_
    exact VEnd.one rfl (evC (.row m0)) (pvE (by rw [List.take_of_length_le (by omega)]))
def validE (c : Cse) : List ByteArray := (c.2.1.filter (freshB c)).map (·.1)
theorem sValid0_ok {c : (List (ByteArray × Int)) × (List (ByteArray × (List (ByteArray × Int)))) × (List (ByteArray × Bool × (List ByteArray)))} (hc : CseOk c) : VF Tryz.prog OA 104 [.v y72 c] (.v (.sl .str) (validE c)) := by
  refine VF.enter Tryz.func104 rfl (fun _ _ => rfl) rfl ?_
  show VC _ _ _ _ _ [(0, .v y72 c)] [] _
  refine VC.seq ?_
  refine VC.text ?_
  refine VO.new (.box) ?_
  refine VO.c (.assign rfl) ?_
  refine VO.go ?_
  refine VC.seq ?_
  refine VC.text ?_
  refine VO.r (.ld vt72) ?_
  refine VO.r (.ld vt72) ?_
  refine VO.c (.func) ?_
  refine VO.call rfl rfl (VF.call (sNames_ok (F := freshB c) hc.e (fun x m => VF.clo (sFresh0_ok (by have := hc.v; omega) (by have := hc.w x m; omega))))) ?_
  refine VO.c (.assign rfl) ?_
  refine VO.go ?_
  refine VC.ret ?_
  exact VEnd.one rfl evT (pvE (by rfl))
theorem sFresh_ok {c : (List (ByteArray × Int)) × (List (ByteArray × (List (ByteArray × Int)))) × (List (ByteArray × Bool × (List ByteArray)))} (hc : CseOk c) : VF Tryz.prog OA 37 [.v y72 c] (.tup [.v (.sl .str) (if caseE c = 0 then validE c else []), I (caseE c)]) := by
  refine VF.enter Tryz.func37 rfl (fun _ _ => rfl) rfl ?_
  show VC _ _ _ _ _ [(0, .v y72 c)] [] _
  refine VC.seq ?_
  refine VC.text ?_
  refine VO.new (.box) ?_
  refine VO.c (.assign rfl) ?_
  refine VO.c (.assign rfl) ?_
  refine VO.go ?_
  refine VC.seq ?_
  refine VC.seq ?_
  refine VC.text ?_
  refine VO.r (.ld vt72) ?_
  refine VO.call rfl rfl (VF.call (sCase_ok hc)) ?_
  refine VO.c (.assign rfl) ?_
  refine VO.go ?_
  refine VC.seq ?_
  refine VC.text ?_
  refine VO.c (.move rfl) ?_
  refine VO.c (.neq) ?_
  refine VO.go ?_
  refine VC.condD rfl (fun c2 => ?_) (fun c2 => ?_)
  · refine VC.seq ?_
    refine VC.text ?_
    refine VO.c (.move rfl) ?_
    refine VO.c (.assign rfl) ?_
    refine VO.c (.assign rfl) ?_
    refine VO.go ?_
    refine VC.ret ?_
    exact VEnd.two rfl (evC .nil) evT (pvE (by rw [if_neg c2])) (pvI (by rfl))
  · refine VC.skip ?_
    show VC _ _ _ _ _ _ _ _
    refine VC.seq ?_
    refine VC.text ?_
    refine VO.r (.ld vt72) ?_
    refine VO.call rfl rfl (VF.call (sValid0_ok hc)) ?_
    refine VO.c (.assign rfl) ?_
    refine VO.c (.assign rfl) ?_
    refine VO.go ?_
    refine VC.ret ?_
    exact VEnd.two rfl evT evT (pvE (by rw [if_pos (Decidable.not_not.1 c2)])) (pvI (by exact (Decidable.not_not.1 c2).symm))
end Go.Proofs
namespace Go.Proofs
open Go.Fs
set_option linter.unusedVariables false

/-! ## Valid evidence, the reference -/
theorem idxG_get {α : Type} {F : α → Bool} {l : List α} (h : 0 ≤ idxG F l 0) : ∃ (hlt : (idxG F l 0).toNat < l.length), F l[(idxG F l 0).toNat] = true := by
  have key : ∀ (l : List α) (k : Nat), 0 ≤ idxG F l (k : Int) → (k : Int) ≤ idxG F l (k : Int) ∧ ∃ (hlt : (idxG F l (k : Int)).toNat - k < l.length), F (l[(idxG F l (k : Int)).toNat - k]'hlt) = true := by
    intro l
    induction l with
    | nil => intro k h; simp [idxG] at h
    | cons x l ih =>
      intro k h
      by_cases hx : F x = true
      · have e : idxG F (x :: l) (k : Int) = k := by rw [idxG, if_pos hx]
        rw [e]
        refine ⟨Int.le_refl _, by simp, ?_⟩
        simpa using hx
      · have e : idxG F (x :: l) (k : Int) = idxG F l ((k + 1 : Nat) : Int) := by rw [idxG, if_neg hx] <;> rfl
        rw [e] at h ⊢
        obtain ⟨h1, h2, h3⟩ := ih (k + 1) h
        refine ⟨by omega, by simp only [List.length_cons]; omega, ?_⟩
        have e2 : (idxG F l ((k + 1 : Nat) : Int)).toNat - k = ((idxG F l ((k + 1 : Nat) : Int)).toNat - (k + 1)) + 1 := by omega
        simp only [e2, List.getElem_cons_succ]
        exact h3
  obtain ⟨_, h2, h3⟩ := key l 0 h
  exact ⟨by simpa using h2, by simpa using h3⟩
theorem thing_get {l : List Vers} {s : ByteArray} (h : 0 ≤ thingE l s) : ∃ (hlt : (thingE l s).toNat < l.length), l[(thingE l s).toNat].1 = s := by
  obtain ⟨h1, h2⟩ := idxG_get h
  exact ⟨h1, of_decide_eq_true h2⟩
def nowE (l : List Vers) (s : ByteArray) : Int := (vAt l (thingE l s).toNat).2
def validB (c : Cse) (x : Evid) : Bool := x.2.all fun v => decide (nowE c.1 v.1 = v.2)
def KnownW (c : Cse) (x : Evid) : Prop := ∀ v ∈ x.2, 0 ≤ thingE c.1 v.1
theorem rValidV_ok {c : (List (ByteArray × Int)) × (List (ByteArray × (List (ByteArray × Int)))) × (List (ByteArray × Bool × (List ByteArray)))} {x : ByteArray × (List (ByteArray × Int))} (hl : c.1.length < 1000000) (hx : x.2.length < 1000000) (hk : KnownW c x) : VF Tryz.prog OA 112 [.v y64 c, .v y96 x] (B (validB c x)) := by
  refine VF.enter Tryz.func112 rfl (fun _ _ => rfl) rfl ?_
  show VC _ _ _ _ _ [(0, .v y64 c), (1, .v y96 x)] [] _
  refine VC.seq ?_
  refine VC.text ?_
  refine VO.new (.box) ?_
  refine VO.new (.box) ?_
  refine VO.c (.assign rfl) ?_
  refine VO.go ?_
  refine VC.seq ?_
  refine VC.seq ?_
  refine VC.text ?_
  refine VO.c (.assign rfl) ?_
  refine VO.go ?_
  refine VC.block ?_
  refine VC.keep [(2, .p y64 c), (3, .p y96 x), (5, I ((0 : Nat) : Int))] ⟨rfl, rfl, rfl, trivial⟩ ?_
  refine VC.loop (I := fun kk ff ss => ∃ (j : Nat), kk = x.2.length - j ∧ ff = [(2, .p y64 c), (3, .p y96 x), (5, I ((j : Nat) : Int))] ∧ ss = [] ∧ (j ≤ x.2.length) ∧ (validB c x = (x.2.drop j).all (fun v => decide (nowE c.1 v.1 = v.2)))) ?_ _ _ _ ⟨0, rfl, rfl, rfl, Nat.zero_le _, (by rfl)⟩
  rintro kk ff ss ⟨j, hk0, rfl, rfl, hj, hw⟩
  refine VC.seq ?_
  refine VC.seq ?_
  refine VC.text ?_
  refine VO.c (.move rfl) ?_
  refine VO.c (.fa (.r .o)) ?_
  refine VO.r (.ld vt60) ?_
  refine VO.r (.len el60) ?_
  refine VO.c (.lss) ?_
  refine VO.go ?_
  refine VC.condD rfl (fun c2 => ?_) (fun c2 => ?_)
  · have hlt : j < x.2.length := by omega
    have hi0 := hk _ (List.getElem_mem hlt)
    obtain ⟨hi1, hi2⟩ := thing_get hi0
    have hi3 : thingE c.1 x.2[j].1 < (c.1.length : Int) := by omega
    have hn : nowE c.1 x.2[j].1 = c.1[(thingE c.1 x.2[j].1).toNat].2 := by unfold nowE; rw [vAt_eq hi1]
    refine VC.skip ?_
    show VC _ _ _ _ _ _ _ _
    refine VC.seq ?_
    refine VC.block ?_
    refine VC.seq ?_
    refine VC.drawn ?_
    refine VD.c (.fa (.l .o)) ?_
    refine VD.r [] (.ld vt60) (.inl rfl) ?_
    refine VD.c (.fa (.l .o)) ?_
    refine VD.r [] (.ld vt60) (.inl rfl) ?_
    refine VD.c (.fa (.r .o)) ?_
    refine VD.r [] (.ld vt60) (.inl rfl) ?_
    refine VD.nw [] ?_
    refine VD.c (.move rfl) ?_
    refine VD.c (.ix (j := j) rfl rfl el60 (by omega)) ?_
    refine VD.c (.fa (.l .o)) ?_
    refine VD.r [] (.ld vt9) (.inl rfl) ?_
    refine VD.call rfl rfl (VF.call (rThing_ok hl)) ?_
    refine VD.c (.ixZ (k := thingE c.1 ((x.2[j]).1)) rfl rfl el60 (by exact hi0) (by exact hi3)) ?_
    refine VD.c (.fa (.r .o)) ?_
    refine VD.nw [] ?_
    refine VD.r [] (.ld vt3) (.inl rfl) ?_
    refine VD.c (.fa (.r .o)) ?_
    refine VD.r [] (.ld vt60) (.inl rfl) ?_
    refine VD.c (.move rfl) ?_
    refine VD.c (.ix (j := j) rfl rfl el60 (by omega)) ?_
    refine VD.c (.fa (.r .o)) ?_
    refine VD.r [] (.ld vt3) (.inl rfl) ?_
    refine VD.nw [] ?_
    refine VD.c (.neq) ?_
    refine VD.go ?_
    refine VC.condD rfl (fun c4 => ?_) (fun c4 => ?_)
    · refine VC.seq ?_
      refine VC.text ?_
      refine VO.c (.assign rfl) ?_
      refine VO.go ?_
      refine VC.ret ?_
      exact VEnd.one rfl evT (pvE (by rw [hw, any_all hlt, decide_eq_false (by rw [hn]; exact c4)] <;> rfl))
    · have hz : nowE c.1 x.2[j].1 = x.2[j].2 := by rw [hn]; exact Decidable.not_not.1 c4
      refine VC.skip ?_
      show VC _ _ _ _ _ _ _ _
      refine VC.text ?_
      refine VO.c (.move rfl) ?_
      refine VO.c (.add rfl rfl (by omega)) ?_
      refine VO.c (.assign rfl) ?_
      refine VO.nil ?_
      refine ⟨_, [(2, .p y64 c), (3, .p y96 x), (5, I (((j + 1) : Nat) : Int))], ?_, ⟨rfl, rfl, rfl, trivial⟩, (j + 1), rfl, rfl, rfl, (by omega), (by rw [hw, any_all hlt, decide_eq_true hz] <;> rfl)⟩
      omega
  · refine VC.exit ?_
    show VC _ _ _ _ _ _ _ _
    refine VC.seq ?_
    refine VC.text ?_
    refine VO.c (.assign rfl) ?_
    refine VO.go ?_
    refine VC.ret ?_
    exact VEnd.one rfl evT (pvE (by rw [hw, List.drop_eq_nil_of_le (by omega)] <;> rfl))
def CaseK (c : Cse) : Prop := ∀ x ∈ c.2.1, KnownW c x
def validR (c : Cse) : List ByteArray := (c.2.1.filter (validB c)).map (·.1)
theorem rFresh_ok {c : (List (ByteArray × Int)) × (List (ByteArray × (List (ByteArray × Int)))) × (List (ByteArray × Bool × (List ByteArray)))} (hc : CseOk c) (hk : CaseK c) : VF Tryz.prog OA 43 [.v y64 c] (.v (.sl .str) (validR c)) := by
  refine VF.enter Tryz.func43 rfl (fun _ _ => rfl) rfl ?_
  show VC _ _ _ _ _ [(0, .v y64 c)] [] _
  refine VC.seq ?_
  refine VC.text ?_
  have h1 := hc.v
  have h2 := hc.e
  refine VO.new (.box) ?_
  refine VO.c (.assign rfl) ?_
  refine VO.go ?_
  refine VC.seq ?_
  refine VC.text ?_
  refine VO.c (.assign rfl) ?_
  refine VO.go ?_
  refine VC.seq ?_
  refine VC.seq ?_
  refine VC.text ?_
  refine VO.c (.assign rfl) ?_
  refine VO.go ?_
  refine VC.block ?_
  refine VC.cell0 9 .str ?_
  refine VC.keep [(1, .p y64 c), (3, .raw (.slice none 0 0)), (4, I ((0 : Nat) : Int))] ⟨rfl, rfl, rfl, trivial⟩ ?_
  refine VC.loop (I := fun kk ff ss => ∃ (j : Nat) (out : Value), kk = c.2.1.length - j ∧ ff = [(1, .p y64 c), (3, .raw out), (4, I ((j : Nat) : Int))] ∧ ss = [(out, .row 9 .str (((c.2.1.take j).filter (validB c)).map (·.1)))] ∧ (j ≤ c.2.1.length)) ?_ _ _ _ ⟨0, (.slice none 0 0), rfl, rfl, rfl, Nat.zero_le _⟩
  rintro kk ff ss ⟨j, out, hk0, rfl, rfl, hj⟩
  have hlen : ((c.2.1.take j).filter (validB c)).length ≤ j := Nat.le_trans (List.length_filter_le _ _) (List.length_take_le j _)
  refine VC.seq ?_
  refine VC.seq ?_
  refine VC.text ?_
  refine VO.c (.move rfl) ?_
  refine VO.c (.fa (.r (.l .o))) ?_
  refine VO.r (.ld vt61) ?_
  refine VO.r (.len el61) ?_
  refine VO.c (.lss) ?_
  refine VO.go ?_
  refine VC.condD rfl (fun c3 => ?_) (fun c3 => ?_)
  · refine VC.skip ?_
    show VC _ _ _ _ _ _ _ _
    refine VC.seq ?_
    refine VC.block ?_
    refine VC.seq ?_
    refine VC.drawn ?_
    refine VD.r [] (.ld vt64) (.inl rfl) ?_
    refine VD.c (.fa (.r (.l .o))) ?_
    refine VD.r [] (.ld vt61) (.inl rfl) ?_
    refine VD.c (.move rfl) ?_
    refine VD.c (.ix (j := j) rfl rfl el61 (by omega)) ?_
    refine VD.r [] (.ld vt96) (.inl rfl) ?_
    refine VD.nw [] ?_
    refine VD.call rfl rfl (VF.call (rValidV_ok (by omega) (by have := hc.w _ (List.getElem_mem (show j < c.2.1.length by omega)); omega) (hk _ (List.getElem_mem _)))) ?_
    refine VD.go ?_
    refine VC.condB rfl (fun c5 => ?_) (fun c5 => ?_)
    · have hg : ((c.2.1.take (j + 1)).filter (validB c)).map (·.1) = ((c.2.1.take j).filter (validB c)).map (·.1) ++ [c.2.1[j].1] := by rw [List.take_succ_eq_append_getElem (by omega), List.filter_append]; simp [c5]
      refine VC.text ?_
      refine VO.c (.move rfl) ?_
      refine VO.c (.fa (.r (.l .o))) ?_
      refine VO.r (.ld vt61) ?_
      refine VO.c (.move rfl) ?_
      refine VO.c (.ix (j := j) rfl rfl el61 (by omega)) ?_
      refine VO.c (.fa (.l .o)) ?_
      refine VO.r (.ld vt9) ?_
      refine VO.new (.lit [(c.2.1[j]).1] el27) ?_
      refine VO.app rfl rfl el27 el27 (by simp only [List.length_append, List.length_singleton, List.length_map]; omega) ?_
      intro ww1
      refine VO.c (.assign rfl) ?_
      refine VO.nil ?_
      show VC _ _ _ _ _ _ _ _
      refine VC.text ?_
      refine VO.c (.move rfl) ?_
      refine VO.c (.add rfl rfl (by omega)) ?_
      refine VO.c (.assign rfl) ?_
      refine VO.nil ?_
      refine ⟨_, [(1, .p y64 c), (3, .raw ww1), (4, I (((j + 1) : Nat) : Int))], ?_, ⟨rfl, rfl, rfl, trivial⟩, (j + 1), ww1, rfl, rfl, (by rw [hg]), (by omega)⟩
      omega
    · have hg : ((c.2.1.take (j + 1)).filter (validB c)).map (·.1) = ((c.2.1.take j).filter (validB c)).map (·.1) := by rw [List.take_succ_eq_append_getElem (by omega), List.filter_append]; simp [c5]
      refine VC.skip ?_
      show VC _ _ _ _ _ _ _ _
      refine VC.text ?_
      refine VO.c (.move rfl) ?_
      refine VO.c (.add rfl rfl (by omega)) ?_
      refine VO.c (.assign rfl) ?_
      refine VO.nil ?_
      refine ⟨_, [(1, .p y64 c), (3, .raw out), (4, I (((j + 1) : Nat) : Int))], ?_, ⟨rfl, rfl, rfl, trivial⟩, (j + 1), out, rfl, rfl, (by rw [hg]), (by omega)⟩
      omega
  · refine VC.exit ?_
    show VC _ _ _ _ _ _ _ _
    refine VC.seq ?_
    refine VC.text ?_
    refine VO.c (.move rfl) ?_
    refine VO.c (.assign rfl) ?_
    refine VO.go ?_
    refine VC.ret ?_
    exact VEnd.one rfl (evC (.row m0)) (pvE (by rw [List.take_of_length_le (by omega)] <;> rfl))
end Go.Proofs
namespace Go.Fs
variable {P : Program} {h : Heap} {S : List Nat} {σ : Sto} {t : Tr} {fl : VL} {x : Operand} {T e : TypeId} {τ : Ty}
def arr2B (P : Program) (T e : TypeId) : Bool := match P.underlying T with
  | some (.array n e') => Nat.beq n 2 && Nat.beq e' e && (match P.info? e with | some i => Nat.beq i.size 1 | none => false)
  | _ => false
end Go.Fs
namespace Go.Fs
variable {P : Program} {σ : Sto} {fl : VL} {x y : Operand} {T T' : TypeId} {p q : Bool}
theorem equal_bool (hT : P.underlying T = some .bool) : runPure P (Op.equal T (.bool p) (.bool q)) = some (p == q) := by
  unfold Op.equal
  rw [show Op.maxDepth = 9999 + 1 from rfl, Op.equalIn]
  simp only [runPure_bind, runPure_underlying hT, Option.bind_some, runPure_pure]
theorem CalmV.beql (hT : P.underlying T = some .bool := by kernel_rfl) (hx : evV fl x = some (.v .bool p) := by rfl) (hy : evV fl y = some (.v .bool q) := by rfl) : CalmV P fl σ (.binOp .eql T x y T') (.v .bool (p == q)) :=
  .bin hx hy fun h S a c ha hc => by
    obtain rfl := RepV.bool ha
    obtain rfl := RepV.bool hc
    refine ⟨.bool (p == q), RepV.ofBool _, rfl, ?_⟩
    have h1 : runPure P (Op.equal T (.bool p) (.bool q) >>= fun b => pure (Value.bool b)) = some (.bool (p == q)) := by
      rw [runPure_bind, equal_bool hT]; rfl
    unfold purely
    show (runPure P (Op.equal T (.bool p) (.bool q) >>= fun b => pure (Value.bool b))).bind _ = _
    rw [h1]; rfl
end Go.Fs
namespace Go.Fs
variable {P : Program} {orc : FuncId → List Value → Heap → Option (Value × Heap)} {σ : Sto} {fl : VL} {ops : Array Oper} {n : Nat} {l : List Oper} {K : VL → Sto → Prop} {d : Tmp} {ty : TypeId} {pos : String} {after : Array Edge} {g : Option (Nat × Bool)} {x : Operand} {T e : TypeId} {τ : Ty}
theorem VO.callW {f : Operand} {args : Array Operand} {ats : Array TypeId} {F F' : PV} {asl as' : List PV} {xs : List τ.den} (hT : ElT P T e τ) (hf : evV fl f = some F) (ha : evVs fl args.toList = some asl) (cF : Co σ F F') (ca : CoL σ asl as') (hc : VCall P orc F' as' (.v (.sl τ) xs))
    (hk : ∀ u : Value, (∀ H, fsLen P #[T] u H = some (.int .i64 ((xs.length : Nat) : Int))) → VO P orc ops n l ((d, .raw u) :: fl) σ K)
    (hw : wantV ops fl g = some true := by rfl) (hn : (Nat.blt d n && Nat.ble n 4000) = true := by rfl) : VO P orc ops n (⟨some d, .call { callee := .value f, args := args, argTypes := ats }, ty, pos, after, g⟩ :: l) fl σ K := fun h0 G S0 t h ms I => by
  obtain ⟨n1, n2⟩ := fits hn
  have L := I.lc
  obtain ⟨fid, a, c, h1, h2⟩ := hc.ev I.ok L.s0 (cF.ok L.cells L.sep (evV_ok I.slots hf)) (ca.ok L.cells L.sep (evVs_ok I.slots ha))
  refine EvO.call (want_ok I.slots hw) rfl rfl h1 (h2.mono fun u h' hq => ?_)
  obtain ⟨q1, q2, _⟩ := hq
  exact ⟨_, put_fits n1 t u, hk u (fun H => (RepV.sl (q2 : RepV h' S0 (.sl τ) u xs)).len hT H) h0 G S0 _ h' ms ((I.calm q1).set (show RepPV _ _ (.raw u) u from rfl) n2)⟩
theorem ReadV.lenW {u : Value} {k : Int} (hu : ∀ H, fsLen P #[T] u H = some (.int .i64 k)) (hx : evV fl x = some (.raw u) := by rfl) : ReadV P fl σ (.call { callee := .builtin .len, args := #[x], argTypes := #[T] }) (.v (.int .i64) k) :=
  ⟨rfl, fun h S t hs _ => by
    have h1 : evalO t x = u := hs x (by simp [Op.operands, Call.operands]) _ hx
    refine ⟨_, RepV.ofInt _ _, fun H _ _ _ _ _ _ => ?_⟩
    show (fsLen P #[T] (evalO t x) H).map _ = _
    rw [h1, hu]; rfl⟩
theorem VO.oneM {w : Value} {κ ν : Ty} {kvs : List (κ.den × ν.den)} (hm : (w, Cell.mp κ ν kvs) ∈ σ) (hk : oneCell w = true → VO P orc ops n l fl σ K) : VO P orc ops n l fl σ K := fun h0 G S0 t h ms I => by
  obtain ⟨b, es, c, h1, _⟩ := I.cells _ hm
  have h1 : w = .map (some b) := h1
  exact hk (by rw [h1]; rfl) h0 G S0 t h ms I
end Go.Fs
namespace Go.Proofs
open Go.Fs
set_option linter.unusedVariables false
set_option maxHeartbeats 1000000
theorem vt4 : ValT Tryz.prog 4 .bool := valT_of (by kernel_rfl)
theorem vt158 : ValT Tryz.prog 158 y158 := valT_of (by kernel_rfl)
theorem zt158 : ZerT Tryz.prog 158 y158 := zerT_of (z := .map none) (by kernel_rfl) rfl rfl
/-! ## What holds by some evidence -/
abbrev BMap := List (ByteArray × Bool)
def inM (m : BMap) (s : ByteArray) : Bool := (mget m s).getD false
def evM (l : List ByteArray) (i : Nat) : BMap := (l.take i).foldl (fun m s => mset m s true) []
def usedN (m : BMap) (x : Clm) : Nat := (x.2.2.filter (inM m)).length
def holdsX (m : BMap) (x : Clm) : Bool := decide (((usedN m x : Nat) : Int) = (x.2.2.length : Nat)) || (x.2.1 && decide (0 < ((usedN m x : Nat) : Int)))
def clM (c : Cse) (l : List ByteArray) (i : Nat) : BMap := (c.2.2.take i).foldl (fun m x => mset m x.1 (holdsX m x)) (evM l l.length)
def byM (c : Cse) (l : List ByteArray) : BMap := clM c l c.2.2.length
theorem evM_succ {l : List ByteArray} {i : Nat} (h : i < l.length) : evM l (i + 1) = mset (evM l i) l[i] true := by
  unfold evM
  rw [List.take_succ_eq_append_getElem h, List.foldl_append] <;> rfl
theorem clM_succ {c : Cse} {l : List ByteArray} {i : Nat} (h : i < c.2.2.length) : clM c l (i + 1) = mset (clM c l i) c.2.2[i].1 (holdsX (clM c l i) c.2.2[i]) := by
  unfold clM
  rw [List.take_succ_eq_append_getElem h, List.foldl_append] <;> rfl
theorem holdsX_t {m : BMap} {x : Clm} (h : ((usedN m x : Nat) : Int) = (x.2.2.length : Nat)) : holdsX m x = true := by
  unfold holdsX
  rw [decide_eq_true h, Bool.true_or]
theorem holdsX_f {m : BMap} {x : Clm} (h : ¬ ((usedN m x : Nat) : Int) = (x.2.2.length : Nat)) : holdsX m x = (x.2.1 && decide (0 < ((usedN m x : Nat) : Int))) := by
  unfold holdsX
  rw [decide_eq_false h, Bool.false_or]
theorem sBy1_ok {s : ByteArray} {m : List (ByteArray × Bool)} : VF Tryz.prog OA 158 [St s, .p y158 m] (B (inM m s)) := by
  refine VF.enter Tryz.func158 rfl (fun _ _ => rfl) rfl ?_
  show VC _ _ _ _ _ [(0, St s), (1, .p y158 m)] [] _
  refine VC.seq ?_
  refine VC.text ?_
  refine VO.c (.assign rfl) ?_
  refine VO.go ?_
  refine VC.seq ?_
  refine VC.text ?_
  refine VO.r (.ld vt158) ?_
  refine VO.c (.move rfl) ?_
  refine VO.r (.look mt158) ?_
  refine VO.c (.assign rfl) ?_
  refine VO.go ?_
  refine VC.ret ?_
  exact VEnd.one rfl evT (pvE (by rfl))
theorem sBy_ok {c : (List (ByteArray × Int)) × (List (ByteArray × (List (ByteArray × Int)))) × (List (ByteArray × Bool × (List ByteArray)))} {l : List ByteArray} (hl : l.length < 100000) (hc : CseOk c) : VF Tryz.prog OA 106 [.v y72 c, .v (.sl .str) l] (.v y158 (byM c l)) := by
  refine VF.enter Tryz.func106 rfl (fun _ _ => rfl) rfl ?_
  show VC _ _ _ _ _ [(0, .v y72 c), (1, .v (.sl .str) l)] [] _
  refine VC.seq ?_
  refine VC.text ?_
  have hcl := hc.l
  refine VO.new (.box) ?_
  refine VO.c (.assign rfl) ?_
  refine VO.go ?_
  refine VC.seq ?_
  refine VC.text ?_
  refine VO.cell (.mkMap .str .bool) ?_
  intro ww1
  refine VO.cell (.alloc zt158) ?_
  intro ww2
  refine VO.oneM m1 fun ho3 => ?_
  refine VO.setV (cs' := [.raw ww1]) vt158 (.raw rfl (agg_one ho3) ho3) ?_
  refine VO.go ?_
  refine VC.seq ?_
  refine VC.seq ?_
  refine VC.text ?_
  refine VO.c (.move rfl) ?_
  refine VO.r (.len el27) ?_
  refine VO.c (.move rfl) ?_
  refine VO.go ?_
  refine VC.block ?_
  refine VC.keep [(2, .p y72 c), (5, .raw ww2), (12, .v (.sl .str) l), (13, I ((l.length : Nat) : Int)), (14, I ((0 : Nat) : Int))] ⟨rfl, rfl, rfl, rfl, rfl, trivial⟩ ?_
  refine VC.loop (I := fun kk ff ss => ∃ (i : Nat), kk = l.length - i ∧ ff = [(2, .p y72 c), (5, .raw ww2), (12, .v (.sl .str) l), (13, I ((l.length : Nat) : Int)), (14, I ((i : Nat) : Int))] ∧ ss = [(ww2, .var [.raw ww1]), (ww1, .mp .str .bool (evM l i))] ∧ (i ≤ l.length)) ?_ _ _ _ ⟨0, rfl, rfl, rfl, Nat.zero_le _⟩
  rintro kk ff ss ⟨i, hk0, rfl, rfl, hi⟩
  refine VC.seq ?_
  refine VC.text ?_
  refine VO.c (.lss) ?_
  refine VO.go ?_
  refine VC.seq ?_
  refine VC.condD rfl (fun c3 => ?_) (fun c3 => ?_)
  · refine VC.skip ?_
    show VC _ _ _ _ _ _ _ _
    refine VC.seq ?_
    refine VC.block ?_
    refine VC.seq ?_
    refine VC.text ?_
    refine VO.c (.ix (j := i) rfl rfl el27 (by omega)) ?_
    refine VO.r (.ld vt9) ?_
    refine VO.c (.assign rfl) ?_
    refine VO.go ?_
    refine VC.text ?_
    refine VO.r (.ldV m0 vt158) ?_
    refine VO.c (.move rfl) ?_
    refine VO.perm swap1 ?_
    refine VO.mput mt158 ?_
    refine VO.nil ?_
    show VC _ _ _ _ _ _ _ _
    refine VC.text ?_
    refine VO.c (.add rfl rfl (by omega)) ?_
    refine VO.c (.move rfl) ?_
    refine VO.perm swap1 ?_
    refine VO.nil ?_
    refine ⟨_, [(2, .p y72 c), (5, .raw ww2), (12, .v (.sl .str) l), (13, I ((l.length : Nat) : Int)), (14, I (((i + 1) : Nat) : Int))], ?_, ⟨rfl, rfl, rfl, rfl, rfl, trivial⟩, (i + 1), rfl, rfl, (by rw [evM_succ (by omega)]), (by omega)⟩
    omega
  · refine VC.exit ?_
    show VC _ _ _ _ _ _ _ _
    refine VC.seq ?_
    refine VC.seq ?_
    refine VC.text ?_
    refine VO.c (.fa (.r (.r .o))) ?_
    refine VO.r (.ld vt70) ?_
    refine VO.r (.len el70) ?_
    refine VO.c (.move rfl) ?_
    refine VO.go ?_
    refine VC.block ?_
    refine VC.keep [(5, .raw ww2), (22, .v y70 c.2.2), (23, I ((c.2.2.length : Nat) : Int)), (24, I ((0 : Nat) : Int))] ⟨rfl, rfl, rfl, rfl, trivial⟩ ?_
    refine VC.loop (I := fun kk ff ss => ∃ (j : Nat), kk = c.2.2.length - j ∧ ff = [(5, .raw ww2), (22, .v y70 c.2.2), (23, I ((c.2.2.length : Nat) : Int)), (24, I ((j : Nat) : Int))] ∧ ss = [(ww2, .var [.raw ww1]), (ww1, .mp .str .bool (clM c l j))] ∧ (j ≤ c.2.2.length)) ?_ _ _ _ ⟨0, rfl, rfl, (by rw [show i = l.length by omega] <;> rfl), Nat.zero_le _⟩
    rintro kk ff ss ⟨j, hk2, rfl, rfl, hj⟩
    refine VC.seq ?_
    refine VC.text ?_
    refine VO.c (.lss) ?_
    refine VO.go ?_
    refine VC.seq ?_
    refine VC.condD rfl (fun c8 => ?_) (fun c8 => ?_)
    · refine VC.skip ?_
      show VC _ _ _ _ _ _ _ _
      refine VC.seq ?_
      refine VC.block ?_
      refine VC.seq ?_
      refine VC.text ?_
      refine VO.c (.ix (j := j) rfl rfl el70 (by omega)) ?_
      refine VO.r (.ld vt156) ?_
      refine VO.cell (.alloc zt156) ?_
      intro ww4
      refine VO.setV (cs' := [St ((c.2.2[j]).1), B ((c.2.2[j]).2.1), .v (.sl .str) ((c.2.2[j]).2.2)]) vt156 .v ?_
      refine VO.shut [(9, .p y156 (c.2.2[j]))] (.cons rfl (.var m0 .refl) .nil) ?_
      refine VO.go ?_
      refine VC.seq ?_
      refine VC.text ?_
      refine VO.c (.fa (.r (.r .o))) ?_
      refine VO.r (.ld vt27) ?_
      refine VO.c (.func) ?_
      refine VO.callW el27 rfl rfl .same (.cons .same (.cons (.clo .refl (.cons (.var m0 (.cons (.mp m1) .nil)) .nil)) .nil)) (VF.call (sKeptS_ok (F := inM (clM c l j)) (by have := hc.u _ (List.getElem_mem (show j < c.2.2.length by omega)); omega) (fun _ _ => VF.clo sBy1_ok))) ?_
      intro uu5 hu5
      refine VO.r (.lenW hu5) ?_
      refine VO.c (.assign rfl) ?_
      refine VO.go ?_
      refine VC.text ?_
      refine VO.r (.ldV m0 vt158) ?_
      refine VO.c (.fa (.l .o)) ?_
      refine VO.r (.ld vt9) ?_
      refine VO.c (.move rfl) ?_
      refine VO.c (.fa (.r (.r .o))) ?_
      refine VO.r (.ld vt27) ?_
      refine VO.r (.len el27) ?_
      refine VO.c (.eql) ?_
      refine VO.c (.move rfl) ?_
      refine VO.splitD (x := 41) rfl (fun g11_8 => ?_) (fun g11_8 => ?_)
      · refine VO.skip ?_
        refine VO.skip ?_
        refine VO.skip ?_
        refine VO.skip ?_
        refine VO.skip ?_
        refine VO.skip ?_
        refine VO.c (.pickT rfl rfl) ?_
        refine VO.perm swap1 ?_
        refine VO.mput mt158 ?_
        refine VO.nil ?_
        show VC _ _ _ _ _ _ _ _
        refine VC.text ?_
        refine VO.c (.add rfl rfl (by omega)) ?_
        refine VO.c (.move rfl) ?_
        refine VO.perm swap1 ?_
        refine VO.nil ?_
        refine ⟨_, [(5, .raw ww2), (22, .v y70 c.2.2), (23, I ((c.2.2.length : Nat) : Int)), (24, I (((j + 1) : Nat) : Int))], ?_, ⟨rfl, rfl, rfl, rfl, trivial⟩, (j + 1), rfl, rfl, (by rw [clM_succ (by omega)]; first | rw [holdsX_t g11_8] | (rw [holdsX_f g11_8]; first | rfl | (rw [g11_11]; rfl))), (by omega)⟩
        omega
      · refine VO.c (.fa (.r (.l .o))) ?_
        refine VO.r (.ld vt4) ?_
        refine VO.c (.move rfl) ?_
        refine VO.cg (r := (c.2.2[j]).2.1) (w := true) [] trivial (fun hgd => have g11_11 : (c.2.2[j]).2.1 = true := (by simpa using hgd); (.move rfl)) ?_
        refine VO.cg (r := (c.2.2[j]).2.1) (w := true) [(45, I (((((c.2.2[j]).2.2).filter (inM (clM c l j))).length : Nat) : Int))] ⟨rfl, trivial⟩ (fun hgd => have g11_11 : (c.2.2[j]).2.1 = true := (by simpa using hgd); (.gtr)) ?_
        refine VO.c (.and) ?_
        refine VO.c (.pickF rfl rfl) ?_
        refine VO.perm swap1 ?_
        refine VO.mput mt158 ?_
        refine VO.nil ?_
        show VC _ _ _ _ _ _ _ _
        refine VC.text ?_
        refine VO.c (.add rfl rfl (by omega)) ?_
        refine VO.c (.move rfl) ?_
        refine VO.perm swap1 ?_
        refine VO.nil ?_
        refine ⟨_, [(5, .raw ww2), (22, .v y70 c.2.2), (23, I ((c.2.2.length : Nat) : Int)), (24, I (((j + 1) : Nat) : Int))], ?_, ⟨rfl, rfl, rfl, rfl, trivial⟩, (j + 1), rfl, rfl, (by rw [clM_succ (by omega)]; first | rw [holdsX_t g11_8] | (rw [holdsX_f g11_8]; first | rfl | (rw [g11_11]; rfl))), (by omega)⟩
        omega
    · refine VC.exit ?_
      show VC _ _ _ _ _ _ _ _
      refine VC.seq ?_
      refine VC.text ?_
      refine VO.r (.ldV m0 vt158) ?_
      refine VO.c (.assign rfl) ?_
      refine VO.go ?_
      refine VC.ret ?_
      exact VEnd.one rfl (evC (.mp m1)) (pvE (by rw [byM, show j = c.2.2.length by omega]))
end Go.Proofs
namespace Go.Proofs
open Go.Fs
set_option linter.unusedVariables false
set_option maxHeartbeats 1000000

def hasC (c : Cse) (s : ByteArray) : Bool := c.2.2.any fun x => decide (x.1 = s)
def holdsE (c : Cse) (s : ByteArray) : Bool := inM (byM c (validE c)) s
def twoE (c : Cse) (s : ByteArray) : Int := firstE [caseE c, whenE (!hasC c s) 10]
theorem validE_len {c : Cse} : (validE c).length ≤ c.2.1.length := by
  unfold validE
  rw [List.length_map]
  exact List.length_filter_le _ _
theorem sCheckClaim_ok {c : (List (ByteArray × Int)) × (List (ByteArray × (List (ByteArray × Int)))) × (List (ByteArray × Bool × (List ByteArray)))} {s : ByteArray} (hc : CseOk c) : VF Tryz.prog OA 105 [.v y72 c, St s] (I (twoE c s)) := by
  refine VF.enter Tryz.func105 rfl (fun _ _ => rfl) rfl ?_
  show VC _ _ _ _ _ [(0, .v y72 c), (1, St s)] [] _
  refine VC.seq ?_
  refine VC.text ?_
  have hcl := hc.l
  refine VO.new (.box) ?_
  refine VO.c (.assign rfl) ?_
  refine VO.go ?_
  refine VC.seq ?_
  refine VC.drawn ?_
  refine VD.r [] (.ld vt72) (.inl rfl) ?_
  refine VD.call rfl rfl (VF.call (sCase_ok (by first | assumption | omega | simp))) ?_
  refine VD.r [] (.ld vt72) (.inl rfl) ?_
  refine VD.c (.move rfl) ?_
  refine VD.call rfl rfl (VF.call (sKnows_ok (by first | assumption | omega | simp))) ?_
  refine VD.c (.not) ?_
  refine VD.nw [] ?_
  refine VD.call rfl rfl (VF.call (sWhen_ok )) ?_
  refine VD.new (.lit [caseE c, whenE (!(c.2.2.any fun x => decide (x.1 = s))) (10 : Int)] el204) ?_
  refine VD.callO rfl rfl (VF.call (sFirst_ok (by first | assumption | omega | simp))) ?_
  refine VD.c (.assign rfl) ?_
  refine VD.go ?_
  refine VC.ret ?_
  exact VEnd.one rfl evT (pvI (by rfl))
theorem sHolds_ok {c : (List (ByteArray × Int)) × (List (ByteArray × (List (ByteArray × Int)))) × (List (ByteArray × Bool × (List ByteArray)))} {s : ByteArray} (hc : CseOk c) : VF Tryz.prog OA 39 [.v y72 c, St s] (.tup [B (if twoE c s = 0 then holdsE c s else false), I (twoE c s)]) := by
  refine VF.enter Tryz.func39 rfl (fun _ _ => rfl) rfl ?_
  show VC _ _ _ _ _ [(0, .v y72 c), (1, St s)] [] _
  refine VC.seq ?_
  refine VC.text ?_
  have hcl := hc.l
  have hce := hc.e
  have hvl := validE_len (c := c)
  refine VO.new (.box) ?_
  refine VO.c (.assign rfl) ?_
  refine VO.c (.assign rfl) ?_
  refine VO.go ?_
  refine VC.seq ?_
  refine VC.seq ?_
  refine VC.text ?_
  refine VO.r (.ld vt72) ?_
  refine VO.c (.move rfl) ?_
  refine VO.call rfl rfl (VF.call (sCheckClaim_ok (by first | assumption | omega | simp))) ?_
  refine VO.c (.assign rfl) ?_
  refine VO.go ?_
  refine VC.seq ?_
  refine VC.text ?_
  refine VO.c (.move rfl) ?_
  refine VO.c (.neq) ?_
  refine VO.go ?_
  refine VC.condD rfl (fun c2 => ?_) (fun c2 => ?_)
  · refine VC.seq ?_
    refine VC.text ?_
    refine VO.c (.move rfl) ?_
    refine VO.c (.assign rfl) ?_
    refine VO.c (.assign rfl) ?_
    refine VO.go ?_
    refine VC.ret ?_
    exact VEnd.two rfl evT evT (pvE (by exact (if_neg c2).symm)) (pvI (by rfl))
  · refine VC.skip ?_
    show VC _ _ _ _ _ _ _ _
    refine VC.seq ?_
    refine VC.drawn ?_
    refine VD.r [] (.ld vt72) (.inl rfl) ?_
    refine VD.r [] (.ld vt72) (.inl rfl) ?_
    refine VD.call rfl rfl (VF.call (sValid0_ok (by first | assumption | omega | simp))) ?_
    refine VD.callO rfl rfl (VF.call (sBy_ok (by first | assumption | omega | simp) (by first | assumption | omega | simp))) ?_
    refine VD.c (.move rfl) ?_
    refine VD.ro (.look mt158) ?_
    refine VD.nw [16, 15] ?_
    refine VD.c (.assign rfl) ?_
    refine VD.c (.assign rfl) ?_
    refine VD.go ?_
    refine VC.ret ?_
    exact VEnd.two rfl evT evT (pvE (by exact (if_pos (show twoE c s = 0 by simpa using c2)).symm)) (pvI (by exact (Decidable.not_not.1 c2).symm))
def opnE (c : Cse) (i : Nat) : List ByteArray := ((c.2.2.take i).filter fun x => !holdsE c x.1).map (·.1)
def openE (c : Cse) : List ByteArray := opnE c c.2.2.length
theorem opnE_len {c : Cse} {i : Nat} : (opnE c i).length ≤ i := by
  unfold opnE
  rw [List.length_map]
  have h := List.length_filter_le (fun x : Clm => !holdsE c x.1) (c.2.2.take i)
  rw [List.length_take] at h
  omega
theorem opnE_f {c : Cse} {i : Nat} (h : i < c.2.2.length) (hh : holdsE c c.2.2[i].1 = false) : opnE c (i + 1) = opnE c i ++ [c.2.2[i].1] := by
  unfold opnE
  rw [List.take_succ_eq_append_getElem h, List.filter_append, List.map_append]
  simp [hh]
theorem opnE_t {c : Cse} {i : Nat} (h : i < c.2.2.length) (hh : holdsE c c.2.2[i].1 = true) : opnE c (i + 1) = opnE c i := by
  unfold opnE
  rw [List.take_succ_eq_append_getElem h, List.filter_append, List.map_append]
  simp [hh]
theorem sOpenM_ok {c : (List (ByteArray × Int)) × (List (ByteArray × (List (ByteArray × Int)))) × (List (ByteArray × Bool × (List ByteArray)))} (hc : CseOk c) : VF Tryz.prog OA 107 [.v y72 c] (.v (.sl .str) (openE c)) := by
  refine VF.enter Tryz.func107 rfl (fun _ _ => rfl) rfl ?_
  show VC _ _ _ _ _ [(0, .v y72 c)] [] _
  refine VC.seq ?_
  refine VC.text ?_
  have hcl := hc.l
  have hce := hc.e
  have hvl := validE_len (c := c)
  refine VO.new (.box) ?_
  refine VO.c (.assign rfl) ?_
  refine VO.go ?_
  refine VC.seq ?_
  refine VC.drawn ?_
  refine VD.r [] (.ld vt72) (.inl rfl) ?_
  refine VD.r [] (.ld vt72) (.inl rfl) ?_
  refine VD.call rfl rfl (VF.call (sValid0_ok (by first | assumption | omega | simp))) ?_
  refine VD.callO rfl rfl (VF.call (sBy_ok (by omega) hc)) ?_
  refine VD.c (.assign rfl) ?_
  refine VD.go ?_
  refine VC.seq ?_
  refine VC.text ?_
  refine VO.c (.assign rfl) ?_
  refine VO.go ?_
  refine VC.seq ?_
  refine VC.seq ?_
  refine VC.text ?_
  refine VO.c (.fa (.r (.r .o))) ?_
  refine VO.r (.ld vt70) ?_
  refine VO.r (.len el70) ?_
  refine VO.c (.move rfl) ?_
  refine VO.go ?_
  refine VC.block ?_
  refine VC.cell0 9 .str ?_
  refine VC.keep [(3, .v y158 (byM c (validE c))), (4, .raw (.slice none 0 0)), (12, .v y70 c.2.2), (13, I ((c.2.2.length : Nat) : Int)), (14, I ((0 : Nat) : Int))] ⟨rfl, rfl, rfl, rfl, rfl, trivial⟩ ?_
  refine VC.loop (I := fun kk ff ss => ∃ (i : Nat) (out : Value), kk = c.2.2.length - i ∧ ff = [(3, .v y158 (byM c (validE c))), (4, .raw out), (12, .v y70 c.2.2), (13, I ((c.2.2.length : Nat) : Int)), (14, I ((i : Nat) : Int))] ∧ ss = [(out, .row 9 .str (opnE c i))] ∧ (i ≤ c.2.2.length)) ?_ _ _ _ ⟨0, (.slice none 0 0), rfl, rfl, rfl, Nat.zero_le _⟩
  rintro kk ff ss ⟨i, out, hk0, rfl, rfl, hi⟩
  have hol := opnE_len (c := c) (i := i)
  refine VC.seq ?_
  refine VC.text ?_
  refine VO.c (.lss) ?_
  refine VO.go ?_
  refine VC.seq ?_
  refine VC.condD rfl (fun c4 => ?_) (fun c4 => ?_)
  · refine VC.skip ?_
    show VC _ _ _ _ _ _ _ _
    refine VC.seq ?_
    refine VC.block ?_
    refine VC.seq ?_
    refine VC.text ?_
    refine VO.c (.ix (j := i) rfl rfl el70 (by omega)) ?_
    refine VO.r (.ld vt156) ?_
    refine VO.cell (.alloc zt156) ?_
    intro ww1
    refine VO.setV (cs' := [St ((c.2.2[i]).1), B ((c.2.2[i]).2.1), .v (.sl .str) ((c.2.2[i]).2.2)]) vt156 .v ?_
    refine VO.shut [(6, .p y156 (c.2.2[i]))] (.cons rfl (.var m0 .refl) .nil) ?_
    refine VO.go ?_
    refine VC.seq ?_
    refine VC.text ?_
    refine VO.c (.move rfl) ?_
    refine VO.c (.fa (.l .o)) ?_
    refine VO.r (.ld vt9) ?_
    refine VO.r (.look mt158) ?_
    refine VO.c (.not) ?_
    refine VO.go ?_
    refine VC.condB rfl (fun c6 => ?_) (fun c6 => ?_)
    · try simp only [Bool.and_eq_true, Bool.or_eq_true, Bool.and_eq_false_iff, Bool.or_eq_false_iff, Bool.not_eq_true', Bool.not_eq_false', decide_eq_true_eq, decide_eq_false_iff_not] at c6
      refine VC.text ?_
      refine VO.c (.move rfl) ?_
      refine VO.c (.fa (.l .o)) ?_
      refine VO.r (.ld vt9) ?_
      refine VO.new (.lit [(c.2.2[i]).1] el27) ?_
      refine VO.app rfl rfl el27 el27 (by simp; omega) ?_
      intro ww2
      refine VO.c (.assign rfl) ?_
      refine VO.nil ?_
      show VC _ _ _ _ _ _ _ _
      refine VC.text ?_
      refine VO.c (.add rfl rfl (by omega)) ?_
      refine VO.c (.move rfl) ?_
      refine VO.nil ?_
      refine ⟨_, [(3, .v y158 (byM c (validE c))), (4, .raw ww2), (12, .v y70 c.2.2), (13, I ((c.2.2.length : Nat) : Int)), (14, I (((i + 1) : Nat) : Int))], ?_, ⟨rfl, rfl, rfl, rfl, rfl, trivial⟩, (i + 1), ww2, rfl, rfl, (by first | rw [opnE_f (by omega) c6] | rw [opnE_t (by omega) c6]), (by omega)⟩
      omega
    · try simp only [Bool.and_eq_true, Bool.or_eq_true, Bool.and_eq_false_iff, Bool.or_eq_false_iff, Bool.not_eq_true', Bool.not_eq_false', decide_eq_true_eq, decide_eq_false_iff_not] at c6
      refine VC.skip ?_
      show VC _ _ _ _ _ _ _ _
      refine VC.text ?_
      refine VO.c (.add rfl rfl (by omega)) ?_
      refine VO.c (.move rfl) ?_
      refine VO.nil ?_
      refine ⟨_, [(3, .v y158 (byM c (validE c))), (4, .raw out), (12, .v y70 c.2.2), (13, I ((c.2.2.length : Nat) : Int)), (14, I (((i + 1) : Nat) : Int))], ?_, ⟨rfl, rfl, rfl, rfl, rfl, trivial⟩, (i + 1), out, rfl, rfl, (by first | rw [opnE_f (by omega) c6] | rw [opnE_t (by omega) c6]), (by omega)⟩
      omega
  · refine VC.exit ?_
    show VC _ _ _ _ _ _ _ _
    refine VC.seq ?_
    refine VC.text ?_
    refine VO.c (.move rfl) ?_
    refine VO.c (.assign rfl) ?_
    refine VO.go ?_
    refine VC.ret ?_
    exact VEnd.one rfl (evC (.row m0)) (pvE (by rw [openE, show i = c.2.2.length by omega]))
theorem sOpenT_ok {c : (List (ByteArray × Int)) × (List (ByteArray × (List (ByteArray × Int)))) × (List (ByteArray × Bool × (List ByteArray)))} (hc : CseOk c) : VF Tryz.prog OA 40 [.v y72 c] (.tup [.v (.sl .str) (if caseE c = 0 then openE c else []), I (caseE c)]) := by
  refine VF.enter Tryz.func40 rfl (fun _ _ => rfl) rfl ?_
  show VC _ _ _ _ _ [(0, .v y72 c)] [] _
  refine VC.seq ?_
  refine VC.text ?_
  refine VO.new (.box) ?_
  refine VO.c (.assign rfl) ?_
  refine VO.c (.assign rfl) ?_
  refine VO.go ?_
  refine VC.seq ?_
  refine VC.seq ?_
  refine VC.text ?_
  refine VO.r (.ld vt72) ?_
  refine VO.call rfl rfl (VF.call (sCase_ok (by first | assumption | omega | simp))) ?_
  refine VO.c (.assign rfl) ?_
  refine VO.go ?_
  refine VC.seq ?_
  refine VC.text ?_
  refine VO.c (.move rfl) ?_
  refine VO.c (.neq) ?_
  refine VO.go ?_
  refine VC.condD rfl (fun c2 => ?_) (fun c2 => ?_)
  · refine VC.seq ?_
    refine VC.text ?_
    refine VO.c (.move rfl) ?_
    refine VO.c (.assign rfl) ?_
    refine VO.c (.assign rfl) ?_
    refine VO.go ?_
    refine VC.ret ?_
    exact VEnd.two rfl (evC .nil) evT (pvE (by exact (if_neg c2).symm)) (pvI (by rfl))
  · refine VC.skip ?_
    show VC _ _ _ _ _ _ _ _
    refine VC.seq ?_
    refine VC.text ?_
    refine VO.r (.ld vt72) ?_
    refine VO.call rfl rfl (VF.call (sOpenM_ok (by first | assumption | omega | simp))) ?_
    refine VO.c (.assign rfl) ?_
    refine VO.c (.assign rfl) ?_
    refine VO.go ?_
    refine VC.ret ?_
    exact VEnd.two rfl evT evT (pvE (by exact (if_pos (show caseE c = 0 by simpa using c2)).symm)) (pvI (by exact (Decidable.not_not.1 c2).symm))
end Go.Proofs
namespace Go.Proofs
open Go.Fs
theorem firstR_zero {f : Nat → Int} {n : Nat} : ∀ (d i : Nat), n - i = d → firstR f i n = 0 → ∀ k, i ≤ k → k < n → f k = 0
  | 0, i, hd, _, k, h1, h2 => by omega
  | d + 1, i, hd, h, k, h1, h2 => by
    have hi : i < n := by omega
    rw [firstR_step hi] at h
    by_cases hf : f i = 0
    · rw [if_pos hf] at h
      by_cases he : k = i
      · subst he; exact hf
      · exact firstR_zero d (i + 1) (by omega) h k (by omega) h2
    · rw [if_neg hf] at h
      exact absurd h hf
theorem firstE_mem0 : ∀ {l : List Int}, firstE l = 0 → ∀ x ∈ l, x = 0
  | [], _, x, hx => by cases hx
  | y :: l, h, x, hx => by
    have e : firstE (y :: l) = if y = 0 then firstE l else y := rfl
    rw [e] at h
    by_cases hy : y = 0
    · rw [if_pos hy] at h
      rcases List.mem_cons.1 hx with e | hx
      · rw [e]; exact hy
      · exact firstE_mem0 h x hx
    · rw [if_neg hy] at h
      exact absurd h hy
theorem idxG_le {α : Type} {F : α → Bool} {l : List α} {i : Nat} (h : i < l.length) (hF : F l[i] = true) : idxG F l 0 ≤ (i : Int) ∧ 0 ≤ idxG F l 0 := by
  have ha : (l.take (i + 1)).any F = true := by
    rw [List.take_succ_eq_append_getElem h, List.any_append]
    simp [hF]
  have e : idxG F l 0 = idxG F (l.take (i + 1) ++ l.drop (i + 1)) 0 := by rw [List.take_append_drop]
  rw [e, idxG_app, if_pos ha]
  have h1 := idxG_bound (k := 0) ha
  rw [List.length_take] at h1
  have h2 := (idxG_any (F := F) (l := l.take (i + 1)) (k := 0) (by omega)).2 ha
  omega
theorem vers_first {l : List Vers} (h : versE l = 0) {i : Nat} (hi : i < l.length) : thingE l l[i].1 = (i : Int) := by
  have hf : firstR (verAt l) 0 l.length = 0 := by
    unfold versE at h
    by_cases hl : 64 < (l.length : Int)
    · rw [if_pos hl] at h; cases h
    · rw [if_neg hl] at h; exact h
  have hv := firstR_zero _ 0 rfl hf i (Nat.zero_le _) hi
  unfold verAt at hv
  rw [vAt_eq hi] at hv
  have h3 := firstE_mem0 hv (whenE (decide (0 ≤ thingE (l.take i) l[i].1)) 9) (by simp)
  have h4 : ¬ 0 ≤ thingE (l.take i) l[i].1 := fun h5 => by rw [decide_eq_true h5] at h3; cases h3
  have h5 : ¬ thingE l l[i].1 < (i : Int) := fun h6 => h4 ((idxG_lt hi (decide_eq_true rfl)).1 h6)
  have h6 := (idxG_le (F := fun v => decide (v.1 = l[i].1)) hi (decide_eq_true rfl)).1
  unfold thingE at h5 ⊢
  omega
theorem hasV_now {l : List Vers} (h : versE l = 0) {v : Vers} (hk : 0 ≤ thingE l v.1) : hasV l v = decide (nowE l v.1 = v.2) := by
  obtain ⟨h1, h2⟩ := thing_get hk
  have hn : nowE l v.1 = l[(thingE l v.1).toNat].2 := by unfold nowE; rw [vAt_eq h1]
  have key : hasV l v = true ↔ nowE l v.1 = v.2 := by
    unfold hasV
    rw [List.any_eq_true]
    constructor
    · rintro ⟨x, hx, he⟩
      have he := of_decide_eq_true he
      subst he
      obtain ⟨i, hi, rfl⟩ := List.getElem_of_mem hx
      have := vers_first h hi
      rw [hn]
      simp only [this, Int.toNat_natCast]
    · intro he
      refine ⟨l[(thingE l v.1).toNat], List.getElem_mem h1, decide_eq_true ?_⟩
      rw [hn] at he
      exact Prod.ext h2.symm he.symm
  cases hb : hasV l v with
  | true => exact (decide_eq_true (key.1 hb)).symm
  | false => exact (decide_eq_false fun h3 => by rw [key.2 h3] at hb; cases hb).symm
theorem fresh_valid {c : Cse} (h : versE c.1 = 0) {x : Evid} (hk : KnownW c x) : freshB c x = validB c x := by
  unfold freshB validB
  rw [List.not_any_eq_all_not]
  rw [Bool.eq_iff_iff, List.all_eq_true, List.all_eq_true]
  constructor
  · intro h1 v hv
    have := h1 v hv
    rw [Bool.not_not, hasV_now h (hk v hv)] at this
    exact this
  · intro h1 v hv
    rw [Bool.not_not, hasV_now h (hk v hv)]
    exact h1 v hv
theorem whenE_known {K : Bool} (h : whenE (!K) 10 = 0) : K = true := by
  cases K with
  | true => rfl
  | false => cases h
theorem case_known {c : Cse} (h : caseE c = 0) : versE c.1 = 0 ∧ CaseK c := by
  have hv : versE c.1 = 0 := by
    unfold caseE at h
    by_cases hv : versE c.1 = 0
    · exact hv
    · rw [if_pos hv] at h; exact h
  refine ⟨hv, fun x hx v hvm => ?_⟩
  have he : firstR (evAt c) 0 c.2.1.length = 0 := by
    unfold caseE at h
    rw [if_neg (fun h2 : versE c.1 ≠ 0 => h2 hv)] at h
    by_cases h4 : 64 < (c.2.1.length : Int)
    · rw [if_pos h4] at h; cases h
    · rw [if_neg h4] at h
      by_cases h5 : firstR (evAt c) 0 c.2.1.length = 0
      · exact h5
      · rw [if_pos h5] at h; exact h
  obtain ⟨i, hi, rfl⟩ := List.getElem_of_mem hx
  have h1 := firstR_zero _ 0 rfl he i (Nat.zero_le _) hi
  unfold evAt at h1
  rw [eAt_eq hi] at h1
  have h2 := firstE_mem0 h1 (withE (knowsV c) c.2.1[i].2) (by simp)
  have h3 : firstR (withAt (knowsV c) c.2.1[i].2) 0 c.2.1[i].2.length = 0 := by
    unfold withE at h2
    by_cases hl : 16 < (c.2.1[i].2.length : Int)
    · rw [if_pos hl] at h2; cases h2
    · rw [if_neg hl] at h2; exact h2
  obtain ⟨k, hk, rfl⟩ := List.getElem_of_mem hvm
  have h4 := firstR_zero _ 0 rfl h3 k (Nat.zero_le _) hk
  unfold withAt at h4
  rw [vAt_eq hk] at h4
  have h5 := whenE_known (firstE_mem0 h4 (whenE (!knowsV c c.2.1[i].2[k].1) 10) (by simp))
  exact of_decide_eq_true h5
theorem validE_R {c : Cse} (h : caseE c = 0) : validE c = validR c := by
  obtain ⟨hv, hk⟩ := case_known h
  unfold validE validR
  congr 1
  exact List.filter_congr fun x hx => fresh_valid hv (hk x hx)
end Go.Proofs
namespace Go.Proofs
open Go.Fs
/-- What a valid case says of its claims. -/
structure ClOk (c : Cse) : Prop where
  new : ∀ i (hi : i < c.2.2.length), knownC c i c.2.2[i].1 = false
  use : ∀ i (hi : i < c.2.2.length), ∀ u ∈ c.2.2[i].2.2, knownC c i u = true
theorem case_claims {c : Cse} (h : caseE c = 0) : ClOk c := by
  have hv : versE c.1 = 0 := (case_known h).1
  have hc : firstR (clAt c) 0 c.2.2.length = 0 := by
    unfold caseE at h
    rw [if_neg (fun h2 : versE c.1 ≠ 0 => h2 hv)] at h
    by_cases h4 : 64 < (c.2.1.length : Int)
    · rw [if_pos h4] at h; cases h
    · rw [if_neg h4] at h
      by_cases h5 : firstR (evAt c) 0 c.2.1.length ≠ 0
      · rw [if_pos h5] at h; exact absurd h h5
      · rw [if_neg h5] at h
        by_cases h6 : 64 < (c.2.2.length : Int)
        · rw [if_pos h6] at h; cases h
        · rw [if_neg h6] at h; exact h
  have key : ∀ i (hi : i < c.2.2.length), whenE (knownC c i c.2.2[i].1) 9 = 0 ∧ usesE (knownC c i) c.2.2[i].2.2 = 0 := fun i hi => by
    have h1 := firstR_zero _ 0 rfl hc i (Nat.zero_le _) hi
    unfold clAt at h1
    rw [cAt_eq hi] at h1
    exact ⟨firstE_mem0 h1 _ (by simp), firstE_mem0 h1 _ (by simp)⟩
  refine ⟨fun i hi => ?_, fun i hi u hu => ?_⟩
  · have := (key i hi).1
    cases hk : knownC c i c.2.2[i].1 with
    | false => rfl
    | true => rw [hk] at this; cases this
  · have h2 := (key i hi).2
    unfold usesE at h2
    by_cases h3 : firstE [whenE (decide (((c.2.2[i].2.2).length : Int) = 0)) 12, whenE (decide (16 < ((c.2.2[i].2.2).length : Int))) 5] = 0
    · rw [if_pos h3] at h2
      obtain ⟨k, hk, rfl⟩ := List.getElem_of_mem hu
      have h4 := firstR_zero _ 0 rfl h2 k (Nat.zero_le _) hk
      unfold usesAt at h4
      have h5 := firstE_mem0 h4 _ List.mem_cons_self
      have h6 := whenE_known h5
      rwa [show (c.2.2[i].2.2).getD k ByteArray.empty = (c.2.2[i].2.2)[k] by simp [hk]] at h6
    · rw [if_neg h3] at h2; exact absurd h2 h3
theorem known_no {c : Cse} {i : Nat} {s : ByteArray} (h : knownC c i s = false) : ¬ 0 ≤ evidE c.2.1 s ∧ ¬ 0 ≤ claimE (c.2.2.take i) s := by
  unfold knownC at h
  rw [Bool.or_eq_false_iff] at h
  exact ⟨of_decide_eq_false h.1, of_decide_eq_false h.2⟩
theorem known_or {c : Cse} {i : Nat} {s : ByteArray} (h : knownC c i s = true) : 0 ≤ evidE c.2.1 s ∨ 0 ≤ claimE (c.2.2.take i) s := by
  unfold knownC at h
  rw [Bool.or_eq_true] at h
  rcases h with h | h
  · exact .inl (of_decide_eq_true h)
  · exact .inr (of_decide_eq_true h)
theorem claim_in {l : List Clm} {s : ByteArray} : 0 ≤ claimE l s ↔ ∃ x ∈ l, x.1 = s := by
  unfold claimE
  rw [idxG_none]
  constructor
  · rintro ⟨x, hx, he⟩; exact ⟨x, hx, of_decide_eq_true he⟩
  · rintro ⟨x, hx, he⟩; exact ⟨x, hx, decide_eq_true he⟩
theorem inM_set {m : BMap} {k s : ByteArray} {b : Bool} : inM (mset m k b) s = if s = k then b else inM m s := by
  unfold inM
  rw [mget_mset]
  by_cases h : s = k
  · rw [if_pos h, if_pos h]; rfl
  · rw [if_neg h, if_neg h]
theorem inM_ev {l : List ByteArray} {s : ByteArray} : ∀ i, i ≤ l.length → inM (evM l i) s = hasB (l.take i) s
  | 0, _ => by simp [evM, inM, mget, hasB]
  | i + 1, h => by
    rw [evM_succ (by omega), inM_set, inM_ev i (by omega), List.take_succ_eq_append_getElem (by omega)]
    unfold hasB
    rw [List.any_append]
    by_cases he : s = l[i]
    · rw [if_pos he]
      simp [he]
    · rw [if_neg he]
      have he2 : ¬ l[i] = s := fun e => he e.symm
      simp [he, he2]
section
variable {c : Cse} {l : List ByteArray}
theorem clM_ev (hc : ClOk c) {s : ByteArray} (hs : 0 ≤ evidE c.2.1 s) : ∀ i, i ≤ c.2.2.length → inM (clM c l i) s = hasB l s
  | 0, _ => by
    show inM (evM l l.length) s = _
    rw [inM_ev _ (Nat.le_refl _), List.take_length]
  | i + 1, h => by
    rw [clM_succ (by omega), inM_set, if_neg, clM_ev hc hs i (by omega)]
    intro e
    rw [e] at hs
    exact (known_no (hc.new i (by omega))).1 hs
theorem names_apart (hc : ClOk c) {i j : Nat} (hj : j < i) (hi : i < c.2.2.length) : ¬ c.2.2[j].1 = c.2.2[i].1 := fun e => by
  have := (known_no (hc.new i hi)).2
  rw [claim_in] at this
  exact this ⟨c.2.2[j], List.mem_take_iff_getElem.2 ⟨j, by omega, rfl⟩, e⟩
theorem clM_at (hc : ClOk c) {j : Nat} (hj : j < c.2.2.length) : ∀ i, j < i → i ≤ c.2.2.length → inM (clM c l i) c.2.2[j].1 = holdsX (clM c l j) c.2.2[j]
  | 0, h, _ => by omega
  | i + 1, h, hi => by
    rw [clM_succ (by omega), inM_set]
    by_cases he : i = j
    · subst he
      rw [if_pos rfl]
    · rw [if_neg (names_apart hc (show j < i by omega) (by omega)), clM_at hc hj i (by omega) (by omega)]
/-- What holds by some evidence. -/
def byR (c : Cse) (l : List ByteArray) (s : ByteArray) : Bool := inM (byM c l) s
theorem byR_at (hc : ClOk c) {j : Nat} (hj : j < c.2.2.length) : byR c l c.2.2[j].1 = holdsX (clM c l j) c.2.2[j] := clM_at hc hj _ hj (Nat.le_refl _)
theorem use_eq (hc : ClOk c) {j : Nat} (hj : j < c.2.2.length) {u : ByteArray} (hu : u ∈ c.2.2[j].2.2) : inM (clM c l j) u = ((decide (0 ≤ evidE c.2.1 u) && hasB l u) || (decide (evidE c.2.1 u < 0) && byR c l u)) := by
  by_cases he : 0 ≤ evidE c.2.1 u
  · rw [clM_ev hc he j (by omega), decide_eq_true he, decide_eq_false (by omega)]
    simp
  · rw [decide_eq_false he, decide_eq_true (by omega)]
    simp only [Bool.false_and, Bool.false_or, Bool.true_and]
    rcases known_or (hc.use j hj u hu) with h1 | h1
    · exact absurd h1 he
    · obtain ⟨x, hx, hxu⟩ := claim_in.1 h1
      obtain ⟨k, hk, rfl⟩ := List.mem_take_iff_getElem.1 hx
      have hk1 : k < j := by omega
      rw [← hxu, clM_at hc (show k < c.2.2.length by omega) j hk1 (by omega), byR_at hc (by omega)]
/-- A use that is no evidence is a claim that stands before. -/
theorem use_before (hc : ClOk c) {j : Nat} (hj : j < c.2.2.length) {u : ByteArray} (hu : u ∈ c.2.2[j].2.2) (he : evidE c.2.1 u < 0) : 0 ≤ claimE c.2.2 u ∧ claimE c.2.2 u < (j : Int) := by
  rcases known_or (hc.use j hj u hu) with h1 | h1
  · omega
  · obtain ⟨x, hx, hxu⟩ := claim_in.1 h1
    obtain ⟨k, hk, rfl⟩ := List.mem_take_iff_getElem.1 hx
    have h2 := idxG_le (F := fun v : Clm => decide (v.1 = u)) (show k < c.2.2.length by omega) (decide_eq_true hxu)
    refine ⟨h2.2, ?_⟩
    have := h2.1
    unfold claimE
    omega
end
end Go.Proofs
namespace Go.Proofs
open Go.Fs
set_option linter.unusedVariables false
set_option maxHeartbeats 1000000

/-! ## The reference's By -/
theorem claim_ix {c : Cse} {s : ByteArray} (h : 0 ≤ claimE c.2.2 s) : ∃ (hlt : (claimE c.2.2 s).toNat < c.2.2.length), c.2.2[(claimE c.2.2 s).toNat].1 = s := by
  obtain ⟨h1, h2⟩ := idxG_get h
  exact ⟨h1, of_decide_eq_true h2⟩
def cntU (m : BMap) (x : Clm) (i : Nat) : Nat := ((x.2.2.take i).filter (inM m)).length
theorem cntU_le {m : BMap} {x : Clm} {i : Nat} : cntU m x i ≤ i := by
  unfold cntU
  have h := List.length_filter_le (inM m) (x.2.2.take i)
  rw [List.length_take] at h
  omega
theorem cntU_succ {m : BMap} {x : Clm} {i : Nat} (h : i < x.2.2.length) : cntU m x (i + 1) = cntU m x i + (if inM m x.2.2[i] = true then 1 else 0) := by
  unfold cntU
  rw [List.take_succ_eq_append_getElem h, List.filter_append, List.length_append]
  by_cases hh : inM m x.2.2[i] = true
  · rw [if_pos hh]; simp [hh]
  · rw [if_neg hh]; simp [hh]
theorem cntU_t {m : BMap} {x : Clm} {i : Nat} (h : i < x.2.2.length) (hh : inM m x.2.2[i] = true) : ((cntU m x i : Nat) : Int) + 1 = ((cntU m x (i + 1) : Nat) : Int) := by rw [cntU_succ h, if_pos hh]; omega
theorem cntU_f {m : BMap} {x : Clm} {i : Nat} (h : i < x.2.2.length) (hh : inM m x.2.2[i] = false) : ((cntU m x i : Nat) : Int) = ((cntU m x (i + 1) : Nat) : Int) := by rw [cntU_succ h, if_neg (by rw [hh]; decide)] <;> rfl
theorem use_t1 {c : Cse} {l : List ByteArray} (hc : ClOk c) {j : Nat} (hj : j < c.2.2.length) {u : ByteArray} (hu : u ∈ c.2.2[j].2.2) (h : 0 ≤ evidE c.2.1 u ∧ hasB l u = true) : inM (clM c l j) u = true := by
  rw [use_eq hc hj hu, decide_eq_true h.1, h.2] <;> rfl
theorem use_t2 {c : Cse} {l : List ByteArray} (hc : ClOk c) {j : Nat} (hj : j < c.2.2.length) {u : ByteArray} (hu : u ∈ c.2.2[j].2.2) (h : evidE c.2.1 u < 0 ∧ byR c l u = true) : inM (clM c l j) u = true := by
  rw [use_eq hc hj hu, decide_eq_true h.1, h.2]; simp
theorem use_f {c : Cse} {l : List ByteArray} (hc : ClOk c) {j : Nat} (hj : j < c.2.2.length) {u : ByteArray} (hu : u ∈ c.2.2[j].2.2) (h1 : ¬ 0 ≤ evidE c.2.1 u ∨ hasB l u = false) (h2 : ¬ evidE c.2.1 u < 0 ∨ byR c l u = false) : inM (clM c l j) u = false := by
  rw [use_eq hc hj hu, Bool.or_eq_false_iff, Bool.and_eq_false_iff, Bool.and_eq_false_iff]
  refine ⟨?_, ?_⟩
  · rcases h1 with h1 | h1
    · exact .inl (decide_eq_false h1)
    · exact .inr h1
  · rcases h2 with h2 | h2
    · exact .inl (decide_eq_false h2)
    · exact .inr h2
theorem cntU_end {m : BMap} {x : Clm} {i : Nat} (h : x.2.2.length ≤ i) : cntU m x i = usedN m x := by
  unfold cntU usedN
  rw [List.take_of_length_le h]
theorem byR_end {c : Cse} {l : List ByteArray} {s : ByteArray} (hc : ClOk c) {j i : Nat} (hj : j < c.2.2.length) (hn : c.2.2[j].1 = s) (hi : (c.2.2[j]).2.2.length ≤ i) :
    byR c l s = (decide (((cntU (clM c l j) c.2.2[j] i : Nat) : Int) = ((c.2.2[j]).2.2.length : Nat)) || ((c.2.2[j]).2.1 && decide (0 < ((cntU (clM c l j) c.2.2[j] i : Nat) : Int)))) := by
  rw [← hn, byR_at hc hj, cntU_end hi] <;> rfl
theorem rByS_ok {c : (List (ByteArray × Int)) × (List (ByteArray × (List (ByteArray × Int)))) × (List (ByteArray × Bool × (List ByteArray)))} {s : ByteArray} {l : List ByteArray} (hc : CseOk c) (hk : ClOk c) (hl : l.length < 100000) (hn : 0 ≤ claimE c.2.2 s) (ih : ∀ {u : ByteArray}, 0 ≤ claimE c.2.2 u → claimE c.2.2 u < claimE c.2.2 s → VF Tryz.prog OA 116 [.v y64 c, .v .str u, .v (.sl .str) l] (B (byR c l u))) : VF Tryz.prog OA 116 [.v y64 c, St s, .v (.sl .str) l] (B (byR c l s)) := by
  refine VF.enter Tryz.func116 rfl (fun _ _ => rfl) rfl ?_
  show VC _ _ _ _ _ [(0, .v y64 c), (1, St s), (2, .v (.sl .str) l)] [] _
  refine VC.seq ?_
  refine VC.text ?_
  have hcl := hc.l
  have hce := hc.e
  obtain ⟨hlt, hnm⟩ := claim_ix hn
  have hul := hc.u _ (List.getElem_mem hlt)
  refine VO.new (.box) ?_
  refine VO.c (.assign rfl) ?_
  refine VO.go ?_
  refine VC.seq ?_
  refine VC.drawn ?_
  refine VD.c (.fa (.r (.r .o))) ?_
  refine VD.r [] (.ld vt62) (.inl rfl) ?_
  refine VD.c (.fa (.r (.r .o))) ?_
  refine VD.r [] (.ld vt62) (.inl rfl) ?_
  refine VD.c (.move rfl) ?_
  refine VD.call rfl rfl (VF.call (rClaim_ok (by first | assumption | omega | simp))) ?_
  refine VD.nw [] ?_
  refine VD.c (.ixZ (k := claimE c.2.2 s) rfl rfl el62 (by omega) (by omega)) ?_
  refine VD.r [] (.ld vt109) (.inl rfl) ?_
  refine VD.cell (.alloc zt109) ?_
  intro ww1
  refine VD.mk0 (MakeV.setF (k := 0) vt109 .v (Nat.le_of_ble_eq_true rfl) (.inr ⟨rfl, rfl⟩) rfl rfl) ?_
  rintro _ _ tl2 ⟨rfl, rfl⟩
  refine VD.go ?_
  refine VC.seq ?_
  refine VC.text ?_
  refine VO.c (.assign rfl) ?_
  refine VO.go ?_
  refine VC.seq ?_
  refine VC.seq ?_
  refine VC.text ?_
  refine VO.c (.assign rfl) ?_
  refine VO.go ?_
  refine VC.block ?_
  refine VC.keep [(2, .v (.sl .str) l), (3, .p y64 c), (7, .raw ww1), (8, I ((cntU (clM c l (claimE c.2.2 s).toNat) c.2.2[(claimE c.2.2 s).toNat] 0 : Nat) : Int)), (9, I ((0 : Nat) : Int))] ⟨rfl, rfl, rfl, rfl, rfl, trivial⟩ ?_
  refine VC.loop (I := fun kk ff ss => ∃ (i : Nat), kk = (c.2.2[(claimE c.2.2 s).toNat]).2.2.length - i ∧ ff = [(2, .v (.sl .str) l), (3, .p y64 c), (7, .raw ww1), (8, I ((cntU (clM c l (claimE c.2.2 s).toNat) c.2.2[(claimE c.2.2 s).toNat] i : Nat) : Int)), (9, I ((i : Nat) : Int))] ∧ ss = [(ww1, .var [St ((c.2.2[Int.toNat (claimE c.2.2 s)]).1), B ((c.2.2[Int.toNat (claimE c.2.2 s)]).2.1), .v (.sl .str) ((c.2.2[Int.toNat (claimE c.2.2 s)]).2.2)])] ∧ (i ≤ (c.2.2[(claimE c.2.2 s).toNat]).2.2.length)) ?_ _ _ _ ⟨0, rfl, rfl, rfl, (by omega)⟩
  rintro kk ff ss ⟨i, hk0, rfl, rfl, hi⟩
  have hcu := cntU_le (m := clM c l (claimE c.2.2 s).toNat) (x := c.2.2[(claimE c.2.2 s).toNat]) (i := i)
  refine VC.seq ?_
  refine VC.seq ?_
  refine VC.text ?_
  refine VO.c (.move rfl) ?_
  refine VO.c (.faO (k := 2) m0) ?_
  refine VO.r (.ldF (k := 2) m0 vt27) ?_
  refine VO.r (.len el27) ?_
  refine VO.c (.lss) ?_
  refine VO.go ?_
  refine VC.condD rfl (fun c4 => ?_) (fun c4 => ?_)
  · refine VC.skip ?_
    show VC _ _ _ _ _ _ _ _
    refine VC.seq ?_
    refine VC.block ?_
    refine VC.seq ?_
    refine VC.text ?_
    refine VO.c (.faO (k := 2) m0) ?_
    refine VO.r (.ldF (k := 2) m0 vt27) ?_
    refine VO.c (.move rfl) ?_
    refine VO.c (.ix (j := i) rfl rfl el27 (by omega)) ?_
    refine VO.r (.ld vt9) ?_
    refine VO.c (.assign rfl) ?_
    refine VO.go ?_
    refine VC.seq ?_
    refine VC.text ?_
    refine VO.r (.ld vt64) ?_
    refine VO.c (.move rfl) ?_
    refine VO.call rfl rfl (VF.call (rEvid_ok (by first | assumption | omega | simp))) ?_
    refine VO.c (.geq) ?_
    refine VO.c (.move rfl) ?_
    refine VO.cg (r := decide ((0 : Int) ≤ evidE c.2.1 (((c.2.2[Int.toNat (claimE c.2.2 s)]).2.2)[i]))) (w := true) [] trivial (fun hgd => have g7_4 : (0 : Int) ≤ evidE c.2.1 (((c.2.2[Int.toNat (claimE c.2.2 s)]).2.2)[i]) := (by simpa using hgd); (.move rfl)) ?_
    refine VO.cg (r := decide ((0 : Int) ≤ evidE c.2.1 (((c.2.2[Int.toNat (claimE c.2.2 s)]).2.2)[i]))) (w := true) [] trivial (fun hgd => have g7_4 : (0 : Int) ≤ evidE c.2.1 (((c.2.2[Int.toNat (claimE c.2.2 s)]).2.2)[i]) := (by simpa using hgd); (.move rfl)) ?_
    refine VO.callg (r0 := decide ((0 : Int) ≤ evidE c.2.1 (((c.2.2[Int.toNat (claimE c.2.2 s)]).2.2)[i]))) (w := true) [(36, .v (.sl .str) l), (37, St (((c.2.2[Int.toNat (claimE c.2.2 s)]).2.2)[i]))] ⟨rfl, rfl, trivial⟩ rfl rfl .same .refl rfl (fun hgd => have g7_4 : (0 : Int) ≤ evidE c.2.1 (((c.2.2[Int.toNat (claimE c.2.2 s)]).2.2)[i]) := (by simpa using hgd); VF.call (rHas_ok (by first | assumption | omega | simp))) ?_
    refine VO.c (.and) ?_
    refine VO.c (.move rfl) ?_
    refine VO.splitB (x := 40) rfl (fun g7_9 => ?_) (fun g7_9 => ?_)
    · try simp only [Bool.and_eq_true, Bool.or_eq_true, Bool.and_eq_false_iff, Bool.or_eq_false_iff, Bool.not_eq_true', Bool.not_eq_false', decide_eq_true_eq, decide_eq_false_iff_not] at g7_9
      refine VO.skip ?_
      refine VO.skip ?_
      refine VO.skip ?_
      refine VO.skip ?_
      refine VO.skip ?_
      refine VO.skip ?_
      refine VO.skip ?_
      refine VO.skip ?_
      refine VO.skip ?_
      refine VO.skip ?_
      refine VO.c (.pickT rfl rfl) ?_
      refine VO.go ?_
      refine VC.condT rfl ?_
      refine VC.text ?_
      refine VO.c (.move rfl) ?_
      refine VO.c (.add rfl rfl (by omega)) ?_
      refine VO.c (.assign rfl) ?_
      refine VO.nil ?_
      show VC _ _ _ _ _ _ _ _
      refine VC.keep [(2, .v (.sl .str) l), (3, .p y64 c), (7, .raw ww1), (8, I (((cntU (clM c l (claimE c.2.2 s).toNat) c.2.2[(claimE c.2.2 s).toNat] i : Nat) : Int) + (1 : Int))), (9, I ((i : Nat) : Int))] ⟨rfl, rfl, rfl, rfl, rfl, trivial⟩ ?_
      refine VC.text ?_
      refine VO.c (.move rfl) ?_
      refine VO.c (.add rfl rfl (by omega)) ?_
      refine VO.c (.assign rfl) ?_
      refine VO.nil ?_
      refine ⟨_, [(2, .v (.sl .str) l), (3, .p y64 c), (7, .raw ww1), (8, I ((cntU (clM c l (claimE c.2.2 s).toNat) c.2.2[(claimE c.2.2 s).toNat] (i + 1) : Nat) : Int)), (9, I (((i + 1) : Nat) : Int))], ?_, ⟨rfl, rfl, rfl, slI rfl (by first | exact cntU_t (by omega) (use_t1 hk hlt (List.getElem_mem _) g7_9) | exact cntU_t (by omega) (use_t2 hk hlt (List.getElem_mem _) c7) | exact cntU_f (by omega) (use_f hk hlt (List.getElem_mem _) g7_9 c7)), rfl, trivial⟩, (i + 1), rfl, rfl, rfl, (by omega)⟩
      omega
    · try simp only [Bool.and_eq_true, Bool.or_eq_true, Bool.and_eq_false_iff, Bool.or_eq_false_iff, Bool.not_eq_true', Bool.not_eq_false', decide_eq_true_eq, decide_eq_false_iff_not] at g7_9
      refine VO.r (.ld vt64) ?_
      refine VO.c (.move rfl) ?_
      refine VO.call rfl rfl (VF.call (rEvid_ok (by first | assumption | omega | simp))) ?_
      refine VO.c (.lss) ?_
      refine VO.c (.move rfl) ?_
      refine VO.rg (r := decide (evidE c.2.1 (((c.2.2[Int.toNat (claimE c.2.2 s)]).2.2)[i]) < (0 : Int))) (w := true) [] trivial (fun hgd => have g7_14 : evidE c.2.1 (((c.2.2[Int.toNat (claimE c.2.2 s)]).2.2)[i]) < (0 : Int) := (by simpa using hgd); (.ld vt64)) ?_
      refine VO.cg (r := decide (evidE c.2.1 (((c.2.2[Int.toNat (claimE c.2.2 s)]).2.2)[i]) < (0 : Int))) (w := true) [] trivial (fun hgd => have g7_14 : evidE c.2.1 (((c.2.2[Int.toNat (claimE c.2.2 s)]).2.2)[i]) < (0 : Int) := (by simpa using hgd); (.move rfl)) ?_
      refine VO.cg (r := decide (evidE c.2.1 (((c.2.2[Int.toNat (claimE c.2.2 s)]).2.2)[i]) < (0 : Int))) (w := true) [] trivial (fun hgd => have g7_14 : evidE c.2.1 (((c.2.2[Int.toNat (claimE c.2.2 s)]).2.2)[i]) < (0 : Int) := (by simpa using hgd); (.move rfl)) ?_
      refine VO.callg (r0 := decide (evidE c.2.1 (((c.2.2[Int.toNat (claimE c.2.2 s)]).2.2)[i]) < (0 : Int))) (w := true) [(46, .v y64 c), (47, St (((c.2.2[Int.toNat (claimE c.2.2 s)]).2.2)[i])), (48, .v (.sl .str) l)] ⟨rfl, rfl, rfl, trivial⟩ rfl rfl .same .refl rfl (fun hgd => have g7_14 : evidE c.2.1 (((c.2.2[Int.toNat (claimE c.2.2 s)]).2.2)[i]) < (0 : Int) := (by simpa using hgd); VF.call (ih (use_before hk hlt (List.getElem_mem _) g7_14).1 (by have := (use_before hk hlt (List.getElem_mem _) g7_14).2; omega))) ?_
      refine VO.c (.and) ?_
      refine VO.c (.pickF rfl rfl) ?_
      refine VO.go ?_
      refine VC.condB rfl (fun c7 => ?_) (fun c7 => ?_)
      · try simp only [Bool.and_eq_true, Bool.or_eq_true, Bool.and_eq_false_iff, Bool.or_eq_false_iff, Bool.not_eq_true', Bool.not_eq_false', decide_eq_true_eq, decide_eq_false_iff_not] at c7
        refine VC.text ?_
        refine VO.c (.move rfl) ?_
        refine VO.c (.add rfl rfl (by omega)) ?_
        refine VO.c (.assign rfl) ?_
        refine VO.nil ?_
        show VC _ _ _ _ _ _ _ _
        refine VC.text ?_
        refine VO.c (.move rfl) ?_
        refine VO.c (.add rfl rfl (by omega)) ?_
        refine VO.c (.assign rfl) ?_
        refine VO.nil ?_
        refine ⟨_, [(2, .v (.sl .str) l), (3, .p y64 c), (7, .raw ww1), (8, I ((cntU (clM c l (claimE c.2.2 s).toNat) c.2.2[(claimE c.2.2 s).toNat] (i + 1) : Nat) : Int)), (9, I (((i + 1) : Nat) : Int))], ?_, ⟨rfl, rfl, rfl, slI rfl (by first | exact cntU_t (by omega) (use_t1 hk hlt (List.getElem_mem _) g7_9) | exact cntU_t (by omega) (use_t2 hk hlt (List.getElem_mem _) c7) | exact cntU_f (by omega) (use_f hk hlt (List.getElem_mem _) g7_9 c7)), rfl, trivial⟩, (i + 1), rfl, rfl, rfl, (by omega)⟩
        omega
      · try simp only [Bool.and_eq_true, Bool.or_eq_true, Bool.and_eq_false_iff, Bool.or_eq_false_iff, Bool.not_eq_true', Bool.not_eq_false', decide_eq_true_eq, decide_eq_false_iff_not] at c7
        refine VC.skip ?_
        show VC _ _ _ _ _ _ _ _
        refine VC.text ?_
        refine VO.c (.move rfl) ?_
        refine VO.c (.add rfl rfl (by omega)) ?_
        refine VO.c (.assign rfl) ?_
        refine VO.nil ?_
        refine ⟨_, [(2, .v (.sl .str) l), (3, .p y64 c), (7, .raw ww1), (8, I ((cntU (clM c l (claimE c.2.2 s).toNat) c.2.2[(claimE c.2.2 s).toNat] (i + 1) : Nat) : Int)), (9, I (((i + 1) : Nat) : Int))], ?_, ⟨rfl, rfl, rfl, slI rfl (by first | exact cntU_t (by omega) (use_t1 hk hlt (List.getElem_mem _) g7_9) | exact cntU_t (by omega) (use_t2 hk hlt (List.getElem_mem _) c7) | exact cntU_f (by omega) (use_f hk hlt (List.getElem_mem _) g7_9 c7)), rfl, trivial⟩, (i + 1), rfl, rfl, rfl, (by omega)⟩
        omega
  · refine VC.exit ?_
    show VC _ _ _ _ _ _ _ _
    refine VC.seq ?_
    refine VC.text ?_
    refine VO.c (.move rfl) ?_
    refine VO.c (.faO (k := 2) m0) ?_
    refine VO.r (.ldF (k := 2) m0 vt27) ?_
    refine VO.r (.len el27) ?_
    refine VO.c (.eql) ?_
    refine VO.c (.move rfl) ?_
    refine VO.splitD (x := 59) rfl (fun g9_5 => ?_) (fun g9_5 => ?_)
    · refine VO.skip ?_
      refine VO.skip ?_
      refine VO.skip ?_
      refine VO.skip ?_
      refine VO.skip ?_
      refine VO.skip ?_
      refine VO.c (.pickT rfl rfl) ?_
      refine VO.c (.assign rfl) ?_
      refine VO.go ?_
      refine VC.ret ?_
      exact VEnd.one rfl evT (pvE (by rw [byR_end (i := i) hk hlt hnm (by omega)]; first | (rw [decide_eq_true g9_5]; rfl) | rw [decide_eq_false g9_5, Bool.false_or]))
    · refine VO.c (.faO (k := 1) m0) ?_
      refine VO.r (.ldF (k := 1) m0 vt4) ?_
      refine VO.c (.move rfl) ?_
      refine VO.cg (r := (c.2.2[Int.toNat (claimE c.2.2 s)]).2.1) (w := true) [] trivial (fun hgd => have g9_8 : (c.2.2[Int.toNat (claimE c.2.2 s)]).2.1 = true := (by simpa using hgd); (.move rfl)) ?_
      refine VO.cg (r := (c.2.2[Int.toNat (claimE c.2.2 s)]).2.1) (w := true) [(63, I ((cntU (clM c l (claimE c.2.2 s).toNat) c.2.2[(claimE c.2.2 s).toNat] i : Nat) : Int))] ⟨rfl, trivial⟩ (fun hgd => have g9_8 : (c.2.2[Int.toNat (claimE c.2.2 s)]).2.1 = true := (by simpa using hgd); (.gtr)) ?_
      refine VO.c (.and) ?_
      refine VO.c (.pickF rfl rfl) ?_
      refine VO.c (.assign rfl) ?_
      refine VO.go ?_
      refine VC.ret ?_
      exact VEnd.one rfl evT (pvE (by rw [byR_end (i := i) hk hlt hnm (by omega)]; first | (rw [decide_eq_true g9_5]; rfl) | rw [decide_eq_false g9_5, Bool.false_or]))
theorem rByN {c : Cse} {l : List ByteArray} (hc : CseOk c) (hk : ClOk c) (hl : l.length < 100000) : ∀ (n : Nat) {s : ByteArray}, 0 ≤ claimE c.2.2 s → claimE c.2.2 s < (n : Int) → VF Tryz.prog OA 116 [.v y64 c, .v .str s, .v (.sl .str) l] (B (byR c l s))
  | 0, _, h0, h1 => by omega
  | n + 1, _, h0, h1 => rByS_ok hc hk hl h0 fun hu hlt => rByN hc hk hl n hu (by omega)
theorem rBy_ok {c : Cse} {s : ByteArray} {l : List ByteArray} (hc : CseOk c) (hk : ClOk c) (hl : l.length < 100000) (hn : 0 ≤ claimE c.2.2 s) : VF Tryz.prog OA 116 [.v y64 c, .v .str s, .v (.sl .str) l] (B (byR c l s)) := rByN hc hk hl ((claimE c.2.2 s).toNat + 1) hn (by omega)
theorem validR_len {c : Cse} : (validR c).length ≤ c.2.1.length := by
  unfold validR
  rw [List.length_map]
  exact List.length_filter_le _ _
theorem rHolds_ok {c : (List (ByteArray × Int)) × (List (ByteArray × (List (ByteArray × Int)))) × (List (ByteArray × Bool × (List ByteArray)))} {s : ByteArray} (hc : CseOk c) (hk : ClOk c) (hK : CaseK c) (hn : 0 ≤ claimE c.2.2 s) : VF Tryz.prog OA 47 [.v y64 c, St s] (B (byR c (validR c) s)) := by
  refine VF.enter Tryz.func47 rfl (fun _ _ => rfl) rfl ?_
  show VC _ _ _ _ _ [(0, .v y64 c), (1, St s)] [] _
  refine VC.seq ?_
  refine VC.text ?_
  have hce := hc.e
  have hvl := validR_len (c := c)
  refine VO.new (.box) ?_
  refine VO.c (.assign rfl) ?_
  refine VO.go ?_
  refine VC.seq ?_
  refine VC.drawn ?_
  refine VD.r [] (.ld vt64) (.inl rfl) ?_
  refine VD.c (.move rfl) ?_
  refine VD.r [] (.ld vt64) (.inl rfl) ?_
  refine VD.call rfl rfl (VF.call (rFresh_ok (by first | assumption | omega | simp) (by first | assumption | omega | simp))) ?_
  refine VD.callO rfl rfl (VF.call (rBy_ok (by first | assumption | omega | simp) (by first | assumption | omega | simp) (by first | assumption | omega | simp) (by first | assumption | omega | simp))) ?_
  refine VD.c (.assign rfl) ?_
  refine VD.go ?_
  refine VC.ret ?_
  exact VEnd.one rfl evT (pvE (by first | rfl | simp))
def opnR (c : Cse) (i : Nat) : List ByteArray := ((c.2.2.take i).filter fun x => !byR c (validR c) x.1).map (·.1)
theorem opnR_len {c : Cse} {i : Nat} : (opnR c i).length ≤ i := by
  unfold opnR
  rw [List.length_map]
  have h := List.length_filter_le (fun x : Clm => !byR c (validR c) x.1) (c.2.2.take i)
  rw [List.length_take] at h
  omega
theorem opnR_f {c : Cse} {i : Nat} (h : i < c.2.2.length) (hh : byR c (validR c) c.2.2[i].1 = false) : opnR c (i + 1) = opnR c i ++ [c.2.2[i].1] := by
  unfold opnR
  rw [List.take_succ_eq_append_getElem h, List.filter_append, List.map_append]
  simp [hh]
theorem opnR_t {c : Cse} {i : Nat} (h : i < c.2.2.length) (hh : byR c (validR c) c.2.2[i].1 = true) : opnR c (i + 1) = opnR c i := by
  unfold opnR
  rw [List.take_succ_eq_append_getElem h, List.filter_append, List.map_append]
  simp [hh]
theorem claim_has {c : Cse} {i : Nat} (h : i < c.2.2.length) : 0 ≤ claimE c.2.2 c.2.2[i].1 := claim_in.2 ⟨_, List.getElem_mem h, rfl⟩
theorem rOpen_ok {c : (List (ByteArray × Int)) × (List (ByteArray × (List (ByteArray × Int)))) × (List (ByteArray × Bool × (List ByteArray)))} (hc : CseOk c) (hk : ClOk c) (hK : CaseK c) : VF Tryz.prog OA 44 [.v y64 c] (.v (.sl .str) (opnR c c.2.2.length)) := by
  refine VF.enter Tryz.func44 rfl (fun _ _ => rfl) rfl ?_
  show VC _ _ _ _ _ [(0, .v y64 c)] [] _
  refine VC.seq ?_
  refine VC.text ?_
  have hcl := hc.l
  refine VO.new (.box) ?_
  refine VO.c (.assign rfl) ?_
  refine VO.go ?_
  refine VC.seq ?_
  refine VC.text ?_
  refine VO.c (.assign rfl) ?_
  refine VO.go ?_
  refine VC.seq ?_
  refine VC.seq ?_
  refine VC.text ?_
  refine VO.c (.assign rfl) ?_
  refine VO.go ?_
  refine VC.block ?_
  refine VC.cell0 9 .str ?_
  refine VC.keep [(1, .p y64 c), (3, .raw (.slice none 0 0)), (4, I ((0 : Nat) : Int))] ⟨rfl, rfl, rfl, trivial⟩ ?_
  refine VC.loop (I := fun kk ff ss => ∃ (i : Nat) (out : Value), kk = c.2.2.length - i ∧ ff = [(1, .p y64 c), (3, .raw out), (4, I ((i : Nat) : Int))] ∧ ss = [(out, .row 9 .str (opnR c i))] ∧ (i ≤ c.2.2.length)) ?_ _ _ _ ⟨0, (.slice none 0 0), rfl, rfl, rfl, Nat.zero_le _⟩
  rintro kk ff ss ⟨i, out, hk0, rfl, rfl, hi⟩
  have hol := opnR_len (c := c) (i := i)
  refine VC.seq ?_
  refine VC.seq ?_
  refine VC.text ?_
  refine VO.c (.move rfl) ?_
  refine VO.c (.fa (.r (.r .o))) ?_
  refine VO.r (.ld vt62) ?_
  refine VO.r (.len el62) ?_
  refine VO.c (.lss) ?_
  refine VO.go ?_
  refine VC.condD rfl (fun c3 => ?_) (fun c3 => ?_)
  · refine VC.skip ?_
    show VC _ _ _ _ _ _ _ _
    refine VC.seq ?_
    refine VC.block ?_
    refine VC.seq ?_
    refine VC.drawn ?_
    refine VD.r [] (.ld vt64) (.inl rfl) ?_
    refine VD.c (.fa (.r (.r .o))) ?_
    refine VD.r [] (.ld vt62) (.inl rfl) ?_
    refine VD.c (.move rfl) ?_
    refine VD.c (.ix (j := i) rfl rfl el62 (by omega)) ?_
    refine VD.c (.fa (.l .o)) ?_
    refine VD.nw [] ?_
    refine VD.r [] (.ld vt9) (.inl rfl) ?_
    refine VD.call rfl rfl (VF.call (rHolds_ok hc hk hK (claim_has (by omega)))) ?_
    refine VD.c (.not) ?_
    refine VD.go ?_
    refine VC.condB rfl (fun c5 => ?_) (fun c5 => ?_)
    · try simp only [Bool.and_eq_true, Bool.or_eq_true, Bool.and_eq_false_iff, Bool.or_eq_false_iff, Bool.not_eq_true', Bool.not_eq_false', decide_eq_true_eq, decide_eq_false_iff_not] at c5
      refine VC.text ?_
      refine VO.c (.move rfl) ?_
      refine VO.c (.fa (.r (.r .o))) ?_
      refine VO.r (.ld vt62) ?_
      refine VO.c (.move rfl) ?_
      refine VO.c (.ix (j := i) rfl rfl el62 (by omega)) ?_
      refine VO.c (.fa (.l .o)) ?_
      refine VO.r (.ld vt9) ?_
      refine VO.new (.lit [(c.2.2[i]).1] el27) ?_
      refine VO.app rfl rfl el27 el27 (by simp; omega) ?_
      intro ww3
      refine VO.c (.assign rfl) ?_
      refine VO.nil ?_
      show VC _ _ _ _ _ _ _ _
      refine VC.text ?_
      refine VO.c (.move rfl) ?_
      refine VO.c (.add rfl rfl (by omega)) ?_
      refine VO.c (.assign rfl) ?_
      refine VO.nil ?_
      refine ⟨_, [(1, .p y64 c), (3, .raw ww3), (4, I (((i + 1) : Nat) : Int))], ?_, ⟨rfl, rfl, rfl, trivial⟩, (i + 1), ww3, rfl, rfl, (by first | rw [opnR_f (by omega) c5] | rw [opnR_t (by omega) c5]), (by omega)⟩
      omega
    · try simp only [Bool.and_eq_true, Bool.or_eq_true, Bool.and_eq_false_iff, Bool.or_eq_false_iff, Bool.not_eq_true', Bool.not_eq_false', decide_eq_true_eq, decide_eq_false_iff_not] at c5
      refine VC.skip ?_
      show VC _ _ _ _ _ _ _ _
      refine VC.text ?_
      refine VO.c (.move rfl) ?_
      refine VO.c (.add rfl rfl (by omega)) ?_
      refine VO.c (.assign rfl) ?_
      refine VO.nil ?_
      refine ⟨_, [(1, .p y64 c), (3, .raw out), (4, I (((i + 1) : Nat) : Int))], ?_, ⟨rfl, rfl, rfl, trivial⟩, (i + 1), out, rfl, rfl, (by first | rw [opnR_f (by omega) c5] | rw [opnR_t (by omega) c5]), (by omega)⟩
      omega
  · refine VC.exit ?_
    show VC _ _ _ _ _ _ _ _
    refine VC.seq ?_
    refine VC.text ?_
    refine VO.c (.move rfl) ?_
    refine VO.c (.assign rfl) ?_
    refine VO.go ?_
    refine VC.ret ?_
    exact VEnd.one rfl (evC (.row m0)) (pvE (by rw [show i = c.2.2.length by omega]))
def rTwo (c : Cse) (s : ByteArray) : Int := if caseE c ≠ 0 then caseE c else if claimE c.2.2 s < 0 then 10 else 0
theorem rCheckClaim_ok {c : (List (ByteArray × Int)) × (List (ByteArray × (List (ByteArray × Int)))) × (List (ByteArray × Bool × (List ByteArray)))} {s : ByteArray} (hc : CseOk c) : VF Tryz.prog OA 42 [.v y64 c, St s] (I (rTwo c s)) := by
  refine VF.enter Tryz.func42 rfl (fun _ _ => rfl) rfl ?_
  show VC _ _ _ _ _ [(0, .v y64 c), (1, St s)] [] _
  refine VC.seq ?_
  refine VC.text ?_
  have hcl := hc.l
  refine VO.new (.box) ?_
  refine VO.c (.assign rfl) ?_
  refine VO.go ?_
  refine VC.seq ?_
  refine VC.seq ?_
  refine VC.text ?_
  refine VO.r (.ld vt64) ?_
  refine VO.call rfl rfl (VF.call (rCase_ok (by first | assumption | omega | simp))) ?_
  refine VO.c (.assign rfl) ?_
  refine VO.go ?_
  refine VC.seq ?_
  refine VC.text ?_
  refine VO.c (.move rfl) ?_
  refine VO.c (.neq) ?_
  refine VO.go ?_
  refine VC.condD rfl (fun c2 => ?_) (fun c2 => ?_)
  · refine VC.seq ?_
    refine VC.text ?_
    refine VO.c (.move rfl) ?_
    refine VO.c (.assign rfl) ?_
    refine VO.go ?_
    refine VC.ret ?_
    exact VEnd.one rfl evT (pvI (by first | rw [rTwo, if_pos c2] | rw [rTwo, if_neg c2, if_pos c4] | rw [rTwo, if_neg c2, if_neg c4]))
  · refine VC.skip ?_
    show VC _ _ _ _ _ _ _ _
    refine VC.seq ?_
    refine VC.seq ?_
    refine VC.text ?_
    refine VO.c (.fa (.r (.r .o))) ?_
    refine VO.r (.ld vt62) ?_
    refine VO.c (.move rfl) ?_
    refine VO.call rfl rfl (VF.call (rClaim_ok (by first | assumption | omega | simp))) ?_
    refine VO.c (.lss) ?_
    refine VO.go ?_
    refine VC.condD rfl (fun c4 => ?_) (fun c4 => ?_)
    · refine VC.seq ?_
      refine VC.text ?_
      refine VO.c (.assign rfl) ?_
      refine VO.go ?_
      refine VC.ret ?_
      exact VEnd.one rfl evT (pvI (by first | rw [rTwo, if_pos c2] | rw [rTwo, if_neg c2, if_pos c4] | rw [rTwo, if_neg c2, if_neg c4]))
    · refine VC.skip ?_
      show VC _ _ _ _ _ _ _ _
      refine VC.seq ?_
      refine VC.text ?_
      refine VO.c (.assign rfl) ?_
      refine VO.go ?_
      refine VC.ret ?_
      exact VEnd.one rfl evT (pvI (by first | rw [rTwo, if_pos c2] | rw [rTwo, if_neg c2, if_pos c4] | rw [rTwo, if_neg c2, if_neg c4]))
end Go.Proofs
namespace Go.Fs
variable {P : Program} {fl : VL} {e : TypeId} {τ : Ty}
theorem rep_raws {h : Heap} {S : List Nat} : ∀ vs : List Value, RepL h S (vs.map PV.raw) vs
  | [] => rfl
  | v :: vs => ⟨v, vs, rfl, rfl, rep_raws vs⟩
theorem FreshO.allocR {zs : List PV} (hZ : ZerT P e τ) (hz : (zeroC τ).map PV.raw = zs := by rfl) : FreshO P fl (.alloc e) (.var zs) :=
  ⟨rfl, fun h S t hs hok hS => by
    obtain ⟨z, h1, h2, h3⟩ := hZ.zero
    obtain ⟨z1, z2⟩ := zero_rep h S τ
    obtain ⟨a1, a2⟩ := af_cells (u := z) (by rw [h2]; exact z2)
    subst hz
    refine ⟨fun k => .pointer (some ⟨k, 0, none⟩), .row e z.cells.toList true false, fun _ => rfl, fun S' hN hm => ?_, fun H _ _ _ _ _ => ?_⟩
    · exact ⟨h.next, e, _, rfl, hm, by rw [Heap.get_push, if_pos rfl], by rw [h2]; exact rep_raws _, a2⟩
    · show (match (P.info? e).bind (·.zero) with | some z => if af z then fsBox e z H else none | none => none) = _
      rw [h1]
      simp only [a1, if_true]
      unfold fsBox
      rw [if_pos a2]⟩
theorem swap4 {a b c d e : Value × Cell} {r : Sto} : (a :: b :: c :: d :: e :: r).Perm (e :: a :: b :: c :: d :: r) := (swap3.cons a).trans (List.Perm.swap e a (b :: c :: d :: r))
theorem swap5 {a b c d e f : Value × Cell} {r : Sto} : (a :: b :: c :: d :: e :: f :: r).Perm (f :: a :: b :: c :: d :: e :: r) := (swap4.cons a).trans (List.Perm.swap f a (b :: c :: d :: e :: r))
end Go.Fs
namespace Go.Proofs
open Go.Fs
set_option linter.unusedVariables false
set_option maxHeartbeats 2000000
abbrev y61 : Ty := (.sl (.pair .str (.sl (.pair .str (.int .i64)))))
abbrev y99 : Ty := (.pair .str (.int .i64))
theorem vt99 : ValT Tryz.prog 99 y99 := valT_of (by kernel_rfl)
theorem zt72 : ZerT Tryz.prog 72 y72 := zerT_of (z := .agg #[.slice none 0 0, .slice none 0 0, .slice none 0 0]) (by kernel_rfl) rfl rfl
theorem zt99 : ZerT Tryz.prog 99 y99 := zerT_of (z := .agg #[.string ByteArray.empty, .int .i64 0]) (by kernel_rfl) rfl rfl
theorem bt155 : BldT Tryz.prog 155 y155 [(0, 1), (1, 1)] := bldT_of zt155 rfl (by kernel_rfl)
theorem bt156 : BldT Tryz.prog 156 y156 [(0, 1), (1, 1), (2, 1)] := bldT_of zt156 rfl (by kernel_rfl)
theorem lGiven_ok {c : (List (ByteArray × Int)) × (List (ByteArray × (List (ByteArray × Int)))) × (List (ByteArray × Bool × (List ByteArray)))} (hc : CseOk c) : VF Tryz.prog OA 38 [.v y64 c] (.v y72 c) := by
  refine VF.enter Tryz.func38 rfl (fun _ _ => rfl) rfl ?_
  show VC _ _ _ _ _ [(0, .v y64 c)] [] _
  refine VC.seq ?_
  refine VC.text ?_
  have hcv := hc.v
  have hce := hc.e
  have hcl := hc.l
  refine VO.new (.box) ?_
  refine VO.cell (.allocR (zs := [nilV, nilV, nilV]) zt72) ?_
  intro ww1
  refine VO.go ?_
  refine VC.seq ?_
  refine VC.text ?_
  refine VO.cell (.allocR (zs := [nilV, nilV, nilV]) zt72) ?_
  intro ww2
  refine VO.go ?_
  refine VC.seq ?_
  refine VC.seq ?_
  refine VC.text ?_
  refine VO.c (.fa (.l .o)) ?_
  refine VO.r (.ld vt60) ?_
  refine VO.r (.len el60) ?_
  refine VO.c (.move rfl) ?_
  refine VO.go ?_
  refine VC.block ?_
  refine VC.cell0 153 y153 ?_
  refine VC.keep [(1, .p y64 c), (2, .raw ww1), (3, .raw ww2), (14, .v y60 c.1), (15, I ((c.1.length : Nat) : Int)), (16, I ((0 : Nat) : Int))] ⟨rfl, rfl, rfl, rfl, rfl, rfl, trivial⟩ ?_
  refine VC.loop (I := fun kk ff ss => ∃ (i : Nat) (w0 : Value), kk = c.1.length - i ∧ ff = [(1, .p y64 c), (2, .raw ww1), (3, .raw ww2), (14, .v y60 c.1), (15, I ((c.1.length : Nat) : Int)), (16, I ((i : Nat) : Int))] ∧ ss = [(w0, .row 153 y153 (c.1.take i)), (ww2, .var [.raw w0, nilV, nilV]), (ww1, .var [nilV, nilV, nilV])] ∧ (i ≤ c.1.length)) ?_ _ _ _ ⟨0, (.slice none 0 0), rfl, rfl, rfl, Nat.zero_le _⟩
  rintro kk ff ss ⟨i, w0, hk0, rfl, rfl, hi⟩
  refine VC.seq ?_
  refine VC.text ?_
  refine VO.c (.lss) ?_
  refine VO.go ?_
  refine VC.seq ?_
  refine VC.condD rfl (fun c3 => ?_) (fun c3 => ?_)
  · refine VC.skip ?_
    show VC _ _ _ _ _ _ _ _
    refine VC.seq ?_
    refine VC.block ?_
    refine VC.seq ?_
    refine VC.text ?_
    refine VO.c (.ix (j := i) rfl rfl el60 (by omega)) ?_
    refine VO.r (.ld vt99) ?_
    refine VO.cell (.alloc zt99) ?_
    intro ww3
    refine VO.setV (cs' := [St ((c.1[i]).1), I ((c.1[i]).2)]) vt99 .v ?_
    refine VO.shut [(5, .p y99 (c.1[i]))] (.cons rfl (.var m0 .refl) .nil) ?_
    refine VO.go ?_
    refine VC.text ?_
    refine VO.c (.faO (k := 0) m1) ?_
    refine VO.r (.ldF (k := 0) m1 vt68) ?_
    refine VO.r (.ld vt99) ?_
    refine VO.new (.lit [c.1[i]] el68) ?_
    refine VO.app rfl rfl el68 el68 (by simp; omega) ?_
    intro ww4
    refine VO.c (.faO (k := 0) m1) ?_
    refine VO.perm swap1 ?_
    refine VO.one m1 fun ho5 => ?_
    refine VO.setF (cs' := [.raw ww4, nilV, nilV]) 0 vt68 (.raw rfl (agg_one ho5) ho5) ?_
    refine VO.nil ?_
    show VC _ _ _ _ _ _ _ _
    refine VC.text ?_
    refine VO.c (.add rfl rfl (by omega)) ?_
    refine VO.c (.move rfl) ?_
    refine VO.perm swap2 ?_
    refine VO.perm swap1 ?_
    refine VO.perm swap2 ?_
    refine VO.nil ?_
    refine ⟨_, [(1, .p y64 c), (2, .raw ww1), (3, .raw ww2), (14, .v y60 c.1), (15, I ((c.1.length : Nat) : Int)), (16, I (((i + 1) : Nat) : Int))], ?_, ⟨rfl, rfl, rfl, rfl, rfl, rfl, trivial⟩, (i + 1), ww4, rfl, rfl, (by rw [List.take_succ_eq_append_getElem (by omega)] <;> rfl), (by omega)⟩
    omega
  · refine VC.exit ?_
    show VC _ _ _ _ _ _ _ _
    refine VC.seq ?_
    refine VC.seq ?_
    refine VC.text ?_
    refine VO.c (.fa (.r (.l .o))) ?_
    refine VO.r (.ld vt61) ?_
    refine VO.r (.len el61) ?_
    refine VO.c (.move rfl) ?_
    refine VO.go ?_
    refine VC.block ?_
    refine VC.cell0 155 y155 ?_
    refine VC.keep [(1, .p y64 c), (2, .raw ww1), (3, .raw ww2), (28, .v y61 c.2.1), (29, I ((c.2.1.length : Nat) : Int)), (30, I ((0 : Nat) : Int))] ⟨rfl, rfl, rfl, rfl, rfl, rfl, trivial⟩ ?_
    refine VC.loop (I := fun kk ff ss => ∃ (j : Nat) (w1 : Value), kk = c.2.1.length - j ∧ ff = [(1, .p y64 c), (2, .raw ww1), (3, .raw ww2), (28, .v y61 c.2.1), (29, I ((c.2.1.length : Nat) : Int)), (30, I ((j : Nat) : Int))] ∧ ss = [(w1, .row 155 y155 (c.2.1.take j)), (w0, .row 153 y153 (c.1.take i)), (ww2, .var [.raw w0, .raw w1, nilV]), (ww1, .var [nilV, nilV, nilV])] ∧ (j ≤ c.2.1.length)) ?_ _ _ _ ⟨0, (.slice none 0 0), rfl, rfl, rfl, Nat.zero_le _⟩
    rintro kk ff ss ⟨j, w1, hk2, rfl, rfl, hj⟩
    refine VC.seq ?_
    refine VC.text ?_
    refine VO.c (.lss) ?_
    refine VO.go ?_
    refine VC.seq ?_
    refine VC.condD rfl (fun c8 => ?_) (fun c8 => ?_)
    · have hwl := hc.w _ (List.getElem_mem (show j < c.2.1.length by omega))
      refine VC.skip ?_
      show VC _ _ _ _ _ _ _ _
      refine VC.seq ?_
      refine VC.block ?_
      refine VC.seq ?_
      refine VC.text ?_
      refine VO.c (.ix (j := j) rfl rfl el61 (by omega)) ?_
      refine VO.r (.ld vt96) ?_
      refine VO.cell (.alloc zt96) ?_
      intro ww6
      refine VO.setV (cs' := [St ((c.2.1[j]).1), .v y60 ((c.2.1[j]).2)]) vt96 .v ?_
      refine VO.shut [(7, .p y96 (c.2.1[j]))] (.cons rfl (.var m0 .refl) .nil) ?_
      refine VO.go ?_
      refine VC.seq ?_
      refine VC.text ?_
      refine VO.c (.fa (.l .o)) ?_
      refine VO.r (.ld vt9) ?_
      refine VO.c (.buildA (cs := [St ((c.2.1[j]).1), nilV]) bt155 rfl) ?_
      refine VO.cell (.alloc zt155) ?_
      intro ww7
      refine VO.setV (cs' := [St ((c.2.1[j]).1), nilV]) vt155 (.aggs rfl rfl) ?_
      refine VO.go ?_
      refine VC.seq ?_
      refine VC.seq ?_
      refine VC.text ?_
      refine VO.c (.fa (.r .o)) ?_
      refine VO.r (.ld vt60) ?_
      refine VO.r (.len el60) ?_
      refine VO.c (.move rfl) ?_
      refine VO.go ?_
      refine VC.block ?_
      refine VC.cell0 153 y153 ?_
      refine VC.keep [(1, .p y64 c), (2, .raw ww1), (3, .raw ww2), (8, .raw ww7), (28, .v y61 c.2.1), (29, I ((c.2.1.length : Nat) : Int)), (30, I ((j : Nat) : Int)), (38, .v y60 ((c.2.1[j]).2)), (39, I ((((c.2.1[j]).2).length : Nat) : Int)), (40, I ((0 : Nat) : Int))] ⟨rfl, rfl, rfl, rfl, rfl, rfl, rfl, rfl, rfl, rfl, trivial⟩ ?_
      refine VC.loop (I := fun kk ff ss => ∃ (k : Nat) (w2 : Value), kk = (c.2.1[j]).2.length - k ∧ ff = [(1, .p y64 c), (2, .raw ww1), (3, .raw ww2), (8, .raw ww7), (28, .v y61 c.2.1), (29, I ((c.2.1.length : Nat) : Int)), (30, I ((j : Nat) : Int)), (38, .v y60 ((c.2.1[j]).2)), (39, I ((((c.2.1[j]).2).length : Nat) : Int)), (40, I ((k : Nat) : Int))] ∧ ss = [(w2, .row 153 y153 ((c.2.1[j]).2.take k)), (ww7, .var [St ((c.2.1[j]).1), .raw w2]), (w1, .row 155 y155 (c.2.1.take j)), (w0, .row 153 y153 (c.1.take i)), (ww2, .var [.raw w0, .raw w1, nilV]), (ww1, .var [nilV, nilV, nilV])] ∧ (k ≤ (c.2.1[j]).2.length)) ?_ _ _ _ ⟨0, (.slice none 0 0), rfl, rfl, rfl, (by omega)⟩
      rintro kk ff ss ⟨k, w2, hk4, rfl, rfl, hk⟩
      refine VC.seq ?_
      refine VC.text ?_
      refine VO.c (.lss) ?_
      refine VO.go ?_
      refine VC.seq ?_
      refine VC.condD rfl (fun c12 => ?_) (fun c12 => ?_)
      · refine VC.skip ?_
        show VC _ _ _ _ _ _ _ _
        refine VC.seq ?_
        refine VC.block ?_
        refine VC.seq ?_
        refine VC.text ?_
        refine VO.c (.ix (j := k) rfl rfl el60 (by omega)) ?_
        refine VO.r (.ld vt99) ?_
        refine VO.cell (.alloc zt99) ?_
        intro ww8
        refine VO.setV (cs' := [St ((((c.2.1[j]).2)[k]).1), I ((((c.2.1[j]).2)[k]).2)]) vt99 .v ?_
        refine VO.shut [(10, .p y99 (((c.2.1[j]).2)[k]))] (.cons rfl (.var m0 .refl) .nil) ?_
        refine VO.go ?_
        refine VC.text ?_
        refine VO.c (.faO (k := 1) m1) ?_
        refine VO.r (.ldF (k := 1) m1 vt68) ?_
        refine VO.r (.ld vt99) ?_
        refine VO.new (.lit [((c.2.1[j]).2)[k]] el68) ?_
        refine VO.app rfl rfl el68 el68 (by simp; omega) ?_
        intro ww9
        refine VO.c (.faO (k := 1) m1) ?_
        refine VO.perm swap1 ?_
        refine VO.one m1 fun ho10 => ?_
        refine VO.setF (cs' := [St ((c.2.1[j]).1), .raw ww9]) 1 vt68 (.raw rfl (agg_one ho10) ho10) ?_
        refine VO.nil ?_
        show VC _ _ _ _ _ _ _ _
        refine VC.text ?_
        refine VO.c (.add rfl rfl (by omega)) ?_
        refine VO.c (.move rfl) ?_
        refine VO.perm swap5 ?_
        refine VO.perm swap5 ?_
        refine VO.perm swap5 ?_
        refine VO.perm swap5 ?_
        refine VO.perm swap4 ?_
        refine VO.perm swap5 ?_
        refine VO.nil ?_
        refine ⟨_, [(1, .p y64 c), (2, .raw ww1), (3, .raw ww2), (8, .raw ww7), (28, .v y61 c.2.1), (29, I ((c.2.1.length : Nat) : Int)), (30, I ((j : Nat) : Int)), (38, .v y60 ((c.2.1[j]).2)), (39, I ((((c.2.1[j]).2).length : Nat) : Int)), (40, I (((k + 1) : Nat) : Int))], ?_, ⟨rfl, rfl, rfl, rfl, rfl, rfl, rfl, rfl, rfl, rfl, trivial⟩, (k + 1), ww9, rfl, rfl, (by rw [List.take_succ_eq_append_getElem (by omega)] <;> rfl), (by omega)⟩
        omega
      · refine VC.exit ?_
        show VC _ _ _ _ _ _ _ _
        refine VC.perm swap1 ?_
        refine VC.perm swap1 ?_
        refine VC.shutL [(w2, .row 153 y153 ((c.2.1[j]).2.take k)), (ww7, .var [St ((c.2.1[j]).1), .raw w2])] [(8, .p y155 ((c.2.1[j]).1, ((c.2.1[j]).2.take k)))] rfl (.cons rfl (.var m1 (.cons .same (.cons (.row m0) .nil))) .nil) ?_
        refine VC.text ?_
        refine VO.c (.faO (k := 1) m2) ?_
        refine VO.r (.ldF (k := 1) m2 vt69) ?_
        refine VO.r (.ld vt155) ?_
        refine VO.new (.lit [((c.2.1[j]).1, ((c.2.1[j]).2.take k))] el69) ?_
        refine VO.app rfl rfl el69 el69 (by simp; omega) ?_
        intro ww11
        refine VO.c (.faO (k := 1) m2) ?_
        refine VO.perm swap2 ?_
        refine VO.one m1 fun ho12 => ?_
        refine VO.setF (cs' := [.raw w0, .raw ww11, nilV]) 1 vt69 (.raw rfl (agg_one ho12) ho12) ?_
        refine VO.nil ?_
        show VC _ _ _ _ _ _ _ _
        refine VC.text ?_
        refine VO.c (.add rfl rfl (by omega)) ?_
        refine VO.c (.move rfl) ?_
        refine VO.perm swap3 ?_
        refine VO.perm swap1 ?_
        refine VO.perm swap3 ?_
        refine VO.perm swap3 ?_
        refine VO.nil ?_
        refine ⟨_, [(1, .p y64 c), (2, .raw ww1), (3, .raw ww2), (28, .v y61 c.2.1), (29, I ((c.2.1.length : Nat) : Int)), (30, I (((j + 1) : Nat) : Int))], ?_, ⟨rfl, rfl, rfl, rfl, rfl, rfl, trivial⟩, (j + 1), ww11, rfl, rfl, (by rw [List.take_succ_eq_append_getElem (by omega), List.take_of_length_le (i := k) (by omega)] <;> rfl), (by omega)⟩
        omega
    · refine VC.exit ?_
      show VC _ _ _ _ _ _ _ _
      refine VC.seq ?_
      refine VC.seq ?_
      refine VC.text ?_
      refine VO.c (.fa (.r (.r .o))) ?_
      refine VO.r (.ld vt62) ?_
      refine VO.r (.len el62) ?_
      refine VO.c (.move rfl) ?_
      refine VO.go ?_
      refine VC.block ?_
      refine VC.cell0 156 y156 ?_
      refine VC.keep [(2, .raw ww1), (3, .raw ww2), (59, .v y62 c.2.2), (60, I ((c.2.2.length : Nat) : Int)), (61, I ((0 : Nat) : Int))] ⟨rfl, rfl, rfl, rfl, rfl, trivial⟩ ?_
      refine VC.loop (I := fun kk ff ss => ∃ (m : Nat) (w3 : Value), kk = c.2.2.length - m ∧ ff = [(2, .raw ww1), (3, .raw ww2), (59, .v y62 c.2.2), (60, I ((c.2.2.length : Nat) : Int)), (61, I ((m : Nat) : Int))] ∧ ss = [(w3, .row 156 y156 (c.2.2.take m)), (w1, .row 155 y155 (c.2.1.take j)), (w0, .row 153 y153 (c.1.take i)), (ww2, .var [.raw w0, .raw w1, .raw w3]), (ww1, .var [nilV, nilV, nilV])] ∧ (m ≤ c.2.2.length)) ?_ _ _ _ ⟨0, (.slice none 0 0), rfl, rfl, rfl, Nat.zero_le _⟩
      rintro kk ff ss ⟨m, w3, hk6, rfl, rfl, hm⟩
      refine VC.seq ?_
      refine VC.text ?_
      refine VO.c (.lss) ?_
      refine VO.go ?_
      refine VC.seq ?_
      refine VC.condD rfl (fun c19 => ?_) (fun c19 => ?_)
      · refine VC.skip ?_
        show VC _ _ _ _ _ _ _ _
        refine VC.seq ?_
        refine VC.block ?_
        refine VC.seq ?_
        refine VC.text ?_
        refine VO.c (.ix (j := m) rfl rfl el62 (by omega)) ?_
        refine VO.r (.ld vt109) ?_
        refine VO.cell (.alloc zt109) ?_
        intro ww13
        refine VO.setV (cs' := [St ((c.2.2[m]).1), B ((c.2.2[m]).2.1), .v (.sl .str) ((c.2.2[m]).2.2)]) vt109 .v ?_
        refine VO.shut [(12, .p y109 (c.2.2[m]))] (.cons rfl (.var m0 .refl) .nil) ?_
        refine VO.go ?_
        refine VC.drawn ?_
        refine VD.co (.faO (k := 2) m3) ?_
        refine VD.r [(w3, .row 156 y156 (c.2.2.take m)), (w1, .row 155 y155 (c.2.1.take j)), (w0, .row 153 y153 (c.1.take i)), (ww2, .var [.raw w0, .raw w1, .raw w3]), (ww1, .var [nilV, nilV, nilV])] (.ldF (k := 2) m3 vt70) (.inr ⟨rfl, rfl⟩) ?_
        refine VD.c (.fa (.l .o)) ?_
        refine VD.r [] (.ld vt9) (.inl rfl) ?_
        refine VD.c (.fa (.r (.l .o))) ?_
        refine VD.r [] (.ld vt4) (.inl rfl) ?_
        refine VD.nw [] ?_
        refine VD.c (.fa (.r (.r .o))) ?_
        refine VD.r [] (.ld vt27) (.inl rfl) ?_
        refine VD.call rfl rfl (VF.call (lWords_ok (by have := hc.u _ (List.getElem_mem (show m < c.2.2.length by omega)); omega))) ?_
        refine VD.c (.build ((c.2.2[m]).1, (c.2.2[m]).2.1, ((c.2.2[m]).2.2)) bt156) ?_
        refine VD.new (.lit [((c.2.2[m]).1, (c.2.2[m]).2.1, ((c.2.2[m]).2.2))] el70) ?_
        refine VD.mk (MakeV.app el70 el70 rfl rfl (by simp; omega)) ?_
        rintro _ _ tl14 ⟨ww14, rfl, rfl⟩
        refine VD.co (.faO (k := 2) m3) ?_
        refine VD.perm swap3 ?_
        refine VD.one m1 fun ho15 => ?_
        refine VD.mk0 (MakeV.setF (k := 2) vt70 (.raw rfl (agg_one ho15) ho15) (Nat.le_of_ble_eq_true rfl) (.inl rfl) rfl rfl) ?_
        rintro _ _ tl16 ⟨rfl, rfl⟩
        refine VD.nil ?_
        show VC _ _ _ _ _ _ _ _
        refine VC.text ?_
        refine VO.c (.add rfl rfl (by omega)) ?_
        refine VO.c (.move rfl) ?_
        refine VO.perm swap4 ?_
        refine VO.perm swap1 ?_
        refine VO.perm swap4 ?_
        refine VO.perm swap4 ?_
        refine VO.perm swap4 ?_
        refine VO.nil ?_
        refine ⟨_, [(2, .raw ww1), (3, .raw ww2), (59, .v y62 c.2.2), (60, I ((c.2.2.length : Nat) : Int)), (61, I (((m + 1) : Nat) : Int))], ?_, ⟨rfl, rfl, rfl, rfl, rfl, trivial⟩, (m + 1), ww14, rfl, rfl, (by rw [List.take_succ_eq_append_getElem (by omega)] <;> rfl), (by omega)⟩
        omega
      · refine VC.exit ?_
        show VC _ _ _ _ _ _ _ _
        refine VC.seq ?_
        refine VC.perm swap3 ?_
        refine VC.perm swap1 ?_
        refine VC.perm swap2 ?_
        refine VC.perm swap3 ?_
        refine VC.shutL [(w0, .row 153 y153 (c.1.take i)), (w1, .row 155 y155 (c.2.1.take j)), (w3, .row 156 y156 (c.2.2.take m)), (ww2, .var [.raw w0, .raw w1, .raw w3])] [(3, .p y72 ((c.1.take i), (c.2.1.take j), (c.2.2.take m)))] rfl (.cons rfl (.var m3 (.cons (.row m0) (.cons (.row m1) (.cons (.row m2) .nil)))) .nil) ?_
        refine VC.text ?_
        refine VO.r (.ld vt72) ?_
        refine VO.setV (cs' := [.v y68 (c.1.take i), .v y69 (c.2.1.take j), .v y70 (c.2.2.take m)]) vt72 .v ?_
        refine VO.go ?_
        refine VC.ret ?_
        exact VEnd.one rfl (.cell (x := ((c.1.take i), (c.2.1.take j), (c.2.2.take m))) rfl m0 vt72 .refl) (pvE (by rw [List.take_of_length_le (by omega), List.take_of_length_le (by omega), List.take_of_length_le (by omega)]))
end Go.Proofs
namespace Go.Proofs
open Go.Fs
set_option linter.unusedVariables false
set_option maxHeartbeats 2000000

/-! ## Short cases -/
theorem awakeC_ok : VF Tryz.prog OA 16 [] (B true) := VF.oracle (fun _ => rfl) fun _ _ => ⟨rfl, rfl⟩
theorem wordsE_go : ∀ {a b : List ByteArray}, a.length = b.length → (∀ i (h : i < a.length) (h2 : i < b.length), a[i] = b[i]) → a = b := fun h h2 => List.ext_getElem h h2
theorem same_no {a b : List ByteArray} (h : (a.length : Int) ≠ (b.length : Int)) : ¬ a = b := fun e => h (by rw [e])
theorem same_go {a b : List ByteArray} {j : Nat} {ha : j < a.length} {hb : j < b.length} (hi : ∀ k (h : k < a.length) (h2 : k < b.length), k < j → a[k] = b[k]) (e : ¬ a[j] ≠ b[j]) : ∀ k (h : k < a.length) (h2 : k < b.length), k < j + 1 → a[k] = b[k] := fun k h h2 h3 => by
  by_cases h4 : k < j
  · exact hi k h h2 h4
  · have : k = j := by omega
    subst this
    exact Decidable.not_not.1 e
theorem rSame_ok {a : List ByteArray} {b : List ByteArray} (ha : a.length < 1000000) (hb : b.length < 1000000) : VF Tryz.prog OA 46 [.v (.sl .str) a, .v (.sl .str) b] (B (decide (a = b))) := by
  refine VF.enter Tryz.func46 rfl (fun _ _ => rfl) rfl ?_
  show VC _ _ _ _ _ [(0, .v (.sl .str) a), (1, .v (.sl .str) b)] [] _
  refine VC.seq ?_
  refine VC.text ?_
  refine VO.c (.assign rfl) ?_
  refine VO.go ?_
  refine VC.seq ?_
  refine VC.seq ?_
  refine VC.text ?_
  refine VO.c (.move rfl) ?_
  refine VO.r (.len el27) ?_
  refine VO.c (.move rfl) ?_
  refine VO.r (.len el27) ?_
  refine VO.c (.neq) ?_
  refine VO.go ?_
  refine VC.condD rfl (fun c1 => ?_) (fun c1 => ?_)
  · refine VC.seq ?_
    refine VC.text ?_
    refine VO.c (.assign rfl) ?_
    refine VO.go ?_
    refine VC.ret ?_
    exact VEnd.one rfl evT (pvE (by exact (decide_eq_false (same_no c1)).symm))
  · refine VC.skip ?_
    show VC _ _ _ _ _ _ _ _
    refine VC.seq ?_
    refine VC.seq ?_
    refine VC.text ?_
    refine VO.c (.assign rfl) ?_
    refine VO.go ?_
    refine VC.block ?_
    refine VC.keep [(0, .v (.sl .str) a), (1, .v (.sl .str) b), (5, I ((0 : Nat) : Int))] ⟨rfl, rfl, rfl, trivial⟩ ?_
    refine VC.loop (I := fun kk ff ss => ∃ (j : Nat), kk = a.length - j ∧ ff = [(0, .v (.sl .str) a), (1, .v (.sl .str) b), (5, I ((j : Nat) : Int))] ∧ ss = [] ∧ (j ≤ a.length) ∧ (a.length = b.length) ∧ (∀ k (h : k < a.length) (h2 : k < b.length), k < j → a[k] = b[k])) ?_ _ _ _ ⟨0, rfl, rfl, rfl, Nat.zero_le _, (by omega), (by exact fun k _ _ h => absurd h (by omega))⟩
    rintro kk ff ss ⟨j, hk0, rfl, rfl, hj, hl, hi⟩
    refine VC.seq ?_
    refine VC.seq ?_
    refine VC.text ?_
    refine VO.c (.move rfl) ?_
    refine VO.c (.move rfl) ?_
    refine VO.r (.len el27) ?_
    refine VO.c (.lss) ?_
    refine VO.go ?_
    refine VC.condD rfl (fun c4 => ?_) (fun c4 => ?_)
    · refine VC.skip ?_
      show VC _ _ _ _ _ _ _ _
      refine VC.seq ?_
      refine VC.block ?_
      refine VC.seq ?_
      refine VC.drawn ?_
      refine VD.c (.move rfl) ?_
      refine VD.c (.move rfl) ?_
      refine VD.c (.ix (j := j) rfl rfl el27 (by omega)) ?_
      refine VD.r [] (.ld vt9) (.inl rfl) ?_
      refine VD.c (.move rfl) ?_
      refine VD.c (.move rfl) ?_
      refine VD.nw [] ?_
      refine VD.c (.ix (j := j) rfl rfl el27 (by omega)) ?_
      refine VD.r [] (.ld vt9) (.inl rfl) ?_
      refine VD.c (.sneq) ?_
      refine VD.go ?_
      refine VC.condD rfl (fun c6 => ?_) (fun c6 => ?_)
      · refine VC.seq ?_
        refine VC.text ?_
        refine VO.c (.assign rfl) ?_
        refine VO.go ?_
        refine VC.ret ?_
        exact VEnd.one rfl evT (pvE (by exact (decide_eq_false (fun h => c6 (List.getElem_of_eq h _))).symm))
      · refine VC.skip ?_
        show VC _ _ _ _ _ _ _ _
        refine VC.text ?_
        refine VO.c (.move rfl) ?_
        refine VO.c (.add rfl rfl (by omega)) ?_
        refine VO.c (.assign rfl) ?_
        refine VO.nil ?_
        refine ⟨_, [(0, .v (.sl .str) a), (1, .v (.sl .str) b), (5, I (((j + 1) : Nat) : Int))], ?_, ⟨rfl, rfl, rfl, trivial⟩, (j + 1), rfl, rfl, rfl, (by omega), (by omega), (by exact same_go hi c6)⟩
        omega
    · refine VC.exit ?_
      show VC _ _ _ _ _ _ _ _
      refine VC.seq ?_
      refine VC.text ?_
      refine VO.c (.assign rfl) ?_
      refine VO.go ?_
      refine VC.ret ?_
      exact VEnd.one rfl evT (pvE (by exact (decide_eq_true (wordsE_go hl (fun k h h2 => hi k h h2 (by omega)))).symm))
def vS (v : Vers) : Bool := decide (v.1.size ≤ 60)
def eS (x : Evid) : Bool := (decide (x.1.size ≤ 60) && (decide (x.2.length ≤ 8) || decide (x.2.length = 17))) && x.2.all vS
def cS (x : Clm) : Bool := (decide (x.1.size ≤ 60) && (decide (x.2.2.length ≤ 8) || decide (x.2.2.length = 17))) && shortW x.2.2
def fewB (n : Nat) : Bool := decide (n ≤ 8 ∨ n = 65)
def shortC (c : Cse) : Bool := (fewB c.1.length && (fewB c.2.1.length && fewB c.2.2.length)) && (c.1.all vS && (c.2.1.all eS && c.2.2.all cS))
theorem getD_at {α : Type} {l : List α} {i : Nat} {d : α} (h : i < l.length) : l.getD i d = l[i] := by rw [List.getD_eq_getElem?_getD, List.getElem?_eq_getElem h] <;> rfl
theorem few3 {a b c : Nat} (ha : a ≤ 8 ∨ a = 65) (hb : b ≤ 8 ∨ b = 65) (hc : c ≤ 8 ∨ c = 65) : (fewB a && (fewB b && fewB c)) = true := by
  unfold fewB
  rw [decide_eq_true ha, decide_eq_true hb, decide_eq_true hc]
  rfl
theorem shortC_few {c : Cse} (h : ¬((c.1.length ≤ 8 ∨ c.1.length = 65) ∧ (c.2.1.length ≤ 8 ∨ c.2.1.length = 65) ∧ (c.2.2.length ≤ 8 ∨ c.2.2.length = 65))) : false = shortC c := by
  symm
  unfold shortC
  rw [Bool.and_eq_false_iff]
  left
  refine Bool.eq_false_iff.2 fun hh => h ?_
  rw [Bool.and_eq_true, Bool.and_eq_true] at hh
  exact ⟨of_decide_eq_true hh.1, of_decide_eq_true hh.2.1, of_decide_eq_true hh.2.2⟩
theorem eS_yes {x : Evid} (h : x.1.size ≤ 60) (h2 : x.2.length ≤ 8 ∨ x.2.length = 17) : eS x = x.2.all vS := by
  unfold eS
  rw [decide_eq_true h]
  rcases h2 with h2 | h2
  · rw [decide_eq_true h2] <;> rfl
  · rw [decide_eq_true h2, Bool.or_true] <;> rfl
theorem eS_no {x : Evid} (h : ¬(x.1.size ≤ 60 ∧ (x.2.length ≤ 8 ∨ x.2.length = 17))) : eS x = false := by
  refine Bool.eq_false_iff.2 fun hh => h ?_
  unfold eS at hh
  rw [Bool.and_eq_true, Bool.and_eq_true, Bool.or_eq_true] at hh
  exact ⟨of_decide_eq_true hh.1.1, hh.1.2.imp of_decide_eq_true of_decide_eq_true⟩
theorem cS_yes {x : Clm} (h : x.1.size ≤ 60) (h2 : x.2.2.length ≤ 8 ∨ x.2.2.length = 17) (h3 : shortW x.2.2 = true) : cS x = true := by
  unfold cS
  rw [decide_eq_true h, h3]
  rcases h2 with h2 | h2
  · rw [decide_eq_true h2] <;> rfl
  · rw [decide_eq_true h2, Bool.or_true] <;> rfl
theorem cS_no {x : Clm} (h : (x.1.size ≤ 60 ∧ (x.2.2.length ≤ 8 ∨ x.2.2.length = 17)) → shortW x.2.2 = false) : cS x = false := by
  refine Bool.eq_false_iff.2 fun hh => ?_
  unfold cS at hh
  rw [Bool.and_eq_true, Bool.and_eq_true, Bool.or_eq_true] at hh
  have := h ⟨of_decide_eq_true hh.1.1, hh.1.2.imp of_decide_eq_true of_decide_eq_true⟩
  rw [this] at hh
  exact absurd hh.2 (by decide)
theorem cS_len {a b : Nat} (e : b = a) (h : (decide (8 < (a : Int)) && decide ((b : Int) ≠ 17)) = false) : b < 1000000 := by
  simp only [Bool.and_eq_false_iff, decide_eq_false_iff_not] at h
  omega
theorem cS_c {x : Clm} (h : (8 < (x.2.2.length : Int) ∧ (x.2.2.length : Int) ≠ 17) ∨ shortW x.2.2 = false) : (x.1.size ≤ 60 ∧ (x.2.2.length ≤ 8 ∨ x.2.2.length = 17)) → shortW x.2.2 = false := fun hq => by
  rcases h with h | h
  · omega
  · exact h
theorem cS_g {x : Clm} (h : 60 < (x.1.size : Int)) : (x.1.size ≤ 60 ∧ (x.2.2.length ≤ 8 ∨ x.2.2.length = 17)) → shortW x.2.2 = false := fun hq => by omega
theorem rFewP_ok {n : Int} : VF Tryz.prog OA 103 [I n] (B (decide (n ≤ 8 ∨ n = 65))) := by
  have h := rFew_ok (n := n)
  rwa [← Bool.decide_or] at h
theorem rShortC_ok {c : (List (ByteArray × Int)) × (List (ByteArray × (List (ByteArray × Int)))) × (List (ByteArray × Bool × (List ByteArray)))} : VF Tryz.prog OA 36 [.v y64 c] (B (shortC c)) := by
  refine VF.enter Tryz.func36 rfl (fun _ _ => rfl) rfl ?_
  show VC _ _ _ _ _ [(0, .v y64 c)] [] _
  refine VC.seq ?_
  refine VC.text ?_
  refine VO.new (.box) ?_
  refine VO.c (.assign rfl) ?_
  refine VO.go ?_
  refine VC.seq ?_
  refine VC.seq ?_
  refine VC.text ?_
  refine VO.c (.fa (.l .o)) ?_
  refine VO.r (.ld vt60) ?_
  refine VO.r (.len el60) ?_
  refine VO.call rfl rfl (VF.call (rFewP_ok )) ?_
  refine VO.c (.not) ?_
  refine VO.c (.move rfl) ?_
  refine VO.cg (r := (!(decide (((c.1.length : Nat) : Int) ≤ 8 ∨ ((c.1.length : Nat) : Int) = 65)))) (w := false) [] trivial (fun hgd => have g1_5 : (!(decide (((c.1.length : Nat) : Int) ≤ 8 ∨ ((c.1.length : Nat) : Int) = 65))) = false := (by first | exact eq_of_beq hgd | simpa using hgd); (.fa (.r (.l .o)))) ?_
  refine VO.rg (r := (!(decide (((c.1.length : Nat) : Int) ≤ 8 ∨ ((c.1.length : Nat) : Int) = 65)))) (w := false) [(13, .p y61 c.2.1)] ⟨rfl, trivial⟩ (fun hgd => have g1_5 : (!(decide (((c.1.length : Nat) : Int) ≤ 8 ∨ ((c.1.length : Nat) : Int) = 65))) = false := (by first | exact eq_of_beq hgd | simpa using hgd); (.ld vt61)) ?_
  refine VO.rg (r := (!(decide (((c.1.length : Nat) : Int) ≤ 8 ∨ ((c.1.length : Nat) : Int) = 65)))) (w := false) [(14, .v y61 c.2.1)] ⟨rfl, trivial⟩ (fun hgd => have g1_5 : (!(decide (((c.1.length : Nat) : Int) ≤ 8 ∨ ((c.1.length : Nat) : Int) = 65))) = false := (by first | exact eq_of_beq hgd | simpa using hgd); (.len el61)) ?_
  refine VO.callg (r0 := (!(decide (((c.1.length : Nat) : Int) ≤ 8 ∨ ((c.1.length : Nat) : Int) = 65)))) (w := false) [(15, I ((c.2.1.length : Nat) : Int))] ⟨rfl, trivial⟩ rfl rfl .same .refl rfl (fun hgd => have g1_5 : (!(decide (((c.1.length : Nat) : Int) ≤ 8 ∨ ((c.1.length : Nat) : Int) = 65))) = false := (by first | exact eq_of_beq hgd | simpa using hgd); VF.call (rFewP_ok )) ?_
  refine VO.cg (r := (!(decide (((c.1.length : Nat) : Int) ≤ 8 ∨ ((c.1.length : Nat) : Int) = 65)))) (w := false) [(16, B (decide (((c.2.1.length : Nat) : Int) ≤ 8 ∨ ((c.2.1.length : Nat) : Int) = 65)))] ⟨rfl, trivial⟩ (fun hgd => have g1_5 : (!(decide (((c.1.length : Nat) : Int) ≤ 8 ∨ ((c.1.length : Nat) : Int) = 65))) = false := (by first | exact eq_of_beq hgd | simpa using hgd); (.not)) ?_
  refine VO.c (.or) ?_
  refine VO.c (.move rfl) ?_
  refine VO.cg (r := ((!(decide (((c.1.length : Nat) : Int) ≤ 8 ∨ ((c.1.length : Nat) : Int) = 65))) || (!(decide (((c.2.1.length : Nat) : Int) ≤ 8 ∨ ((c.2.1.length : Nat) : Int) = 65))))) (w := false) [] trivial (fun hgd => have g1_12 : ((!(decide (((c.1.length : Nat) : Int) ≤ 8 ∨ ((c.1.length : Nat) : Int) = 65))) || (!(decide (((c.2.1.length : Nat) : Int) ≤ 8 ∨ ((c.2.1.length : Nat) : Int) = 65)))) = false := (by first | exact eq_of_beq hgd | simpa using hgd); (.fa (.r (.r .o)))) ?_
  refine VO.rg (r := ((!(decide (((c.1.length : Nat) : Int) ≤ 8 ∨ ((c.1.length : Nat) : Int) = 65))) || (!(decide (((c.2.1.length : Nat) : Int) ≤ 8 ∨ ((c.2.1.length : Nat) : Int) = 65))))) (w := false) [(20, .p y62 c.2.2)] ⟨rfl, trivial⟩ (fun hgd => have g1_12 : ((!(decide (((c.1.length : Nat) : Int) ≤ 8 ∨ ((c.1.length : Nat) : Int) = 65))) || (!(decide (((c.2.1.length : Nat) : Int) ≤ 8 ∨ ((c.2.1.length : Nat) : Int) = 65)))) = false := (by first | exact eq_of_beq hgd | simpa using hgd); (.ld vt62)) ?_
  refine VO.rg (r := ((!(decide (((c.1.length : Nat) : Int) ≤ 8 ∨ ((c.1.length : Nat) : Int) = 65))) || (!(decide (((c.2.1.length : Nat) : Int) ≤ 8 ∨ ((c.2.1.length : Nat) : Int) = 65))))) (w := false) [(21, .v y62 c.2.2)] ⟨rfl, trivial⟩ (fun hgd => have g1_12 : ((!(decide (((c.1.length : Nat) : Int) ≤ 8 ∨ ((c.1.length : Nat) : Int) = 65))) || (!(decide (((c.2.1.length : Nat) : Int) ≤ 8 ∨ ((c.2.1.length : Nat) : Int) = 65)))) = false := (by first | exact eq_of_beq hgd | simpa using hgd); (.len el62)) ?_
  refine VO.callg (r0 := ((!(decide (((c.1.length : Nat) : Int) ≤ 8 ∨ ((c.1.length : Nat) : Int) = 65))) || (!(decide (((c.2.1.length : Nat) : Int) ≤ 8 ∨ ((c.2.1.length : Nat) : Int) = 65))))) (w := false) [(22, I ((c.2.2.length : Nat) : Int))] ⟨rfl, trivial⟩ rfl rfl .same .refl rfl (fun hgd => have g1_12 : ((!(decide (((c.1.length : Nat) : Int) ≤ 8 ∨ ((c.1.length : Nat) : Int) = 65))) || (!(decide (((c.2.1.length : Nat) : Int) ≤ 8 ∨ ((c.2.1.length : Nat) : Int) = 65)))) = false := (by first | exact eq_of_beq hgd | simpa using hgd); VF.call (rFewP_ok )) ?_
  refine VO.cg (r := ((!(decide (((c.1.length : Nat) : Int) ≤ 8 ∨ ((c.1.length : Nat) : Int) = 65))) || (!(decide (((c.2.1.length : Nat) : Int) ≤ 8 ∨ ((c.2.1.length : Nat) : Int) = 65))))) (w := false) [(23, B (decide (((c.2.2.length : Nat) : Int) ≤ 8 ∨ ((c.2.2.length : Nat) : Int) = 65)))] ⟨rfl, trivial⟩ (fun hgd => have g1_12 : ((!(decide (((c.1.length : Nat) : Int) ≤ 8 ∨ ((c.1.length : Nat) : Int) = 65))) || (!(decide (((c.2.1.length : Nat) : Int) ≤ 8 ∨ ((c.2.1.length : Nat) : Int) = 65)))) = false := (by first | exact eq_of_beq hgd | simpa using hgd); (.not)) ?_
  refine VO.c (.or) ?_
  refine VO.go ?_
  refine VC.condB rfl (fun c1 => ?_) (fun c1 => ?_)
  · try simp only [Bool.and_eq_true, Bool.or_eq_true, Bool.and_eq_false_iff, Bool.or_eq_false_iff, Bool.not_eq_true', Bool.not_eq_false', decide_eq_true_eq, decide_eq_false_iff_not] at c1
    refine VC.seq ?_
    refine VC.text ?_
    refine VO.c (.assign rfl) ?_
    refine VO.go ?_
    refine VC.ret ?_
    exact VEnd.one rfl evT (pvE (by exact shortC_few (by omega)))
  · try simp only [Bool.and_eq_true, Bool.or_eq_true, Bool.and_eq_false_iff, Bool.or_eq_false_iff, Bool.not_eq_true', Bool.not_eq_false', decide_eq_true_eq, decide_eq_false_iff_not] at c1
    refine VC.skip ?_
    show VC _ _ _ _ _ _ _ _
    refine VC.seq ?_
    refine VC.seq ?_
    refine VC.text ?_
    have h3 := few3 (a := c.1.length) (b := c.2.1.length) (c := c.2.2.length) (by omega) (by omega) (by omega)
    refine VO.c (.assign rfl) ?_
    refine VO.go ?_
    refine VC.block ?_
    refine VC.keep [(1, .p y64 c), (3, I ((0 : Nat) : Int))] ⟨rfl, rfl, trivial⟩ ?_
    refine VC.loop (I := fun kk ff ss => ∃ (i : Nat), kk = c.1.length - i ∧ ff = [(1, .p y64 c), (3, I ((i : Nat) : Int))] ∧ ss = [] ∧ (i ≤ c.1.length) ∧ (shortC c = ((c.1.drop i).all vS && (c.2.1.all eS && c.2.2.all cS)))) ?_ _ _ _ ⟨0, rfl, rfl, rfl, Nat.zero_le _, (by rw [shortC, h3]; rfl)⟩
    rintro kk ff ss ⟨i, hk0, rfl, rfl, hi, hf⟩
    refine VC.seq ?_
    refine VC.seq ?_
    refine VC.text ?_
    refine VO.c (.move rfl) ?_
    refine VO.c (.fa (.l .o)) ?_
    refine VO.r (.ld vt60) ?_
    refine VO.r (.len el60) ?_
    refine VO.c (.lss) ?_
    refine VO.go ?_
    refine VC.condD rfl (fun c4 => ?_) (fun c4 => ?_)
    · refine VC.skip ?_
      show VC _ _ _ _ _ _ _ _
      refine VC.seq ?_
      refine VC.block ?_
      refine VC.seq ?_
      refine VC.text ?_
      refine VO.c (.fa (.l .o)) ?_
      refine VO.r (.ld vt60) ?_
      refine VO.c (.move rfl) ?_
      refine VO.c (.ix (j := i) rfl rfl el60 (by omega)) ?_
      refine VO.c (.fa (.l .o)) ?_
      refine VO.r (.ld vt9) ?_
      refine VO.r (.lenS) ?_
      refine VO.c (.gtr) ?_
      refine VO.go ?_
      refine VC.condD rfl (fun c6 => ?_) (fun c6 => ?_)
      · refine VC.seq ?_
        refine VC.text ?_
        refine VO.c (.assign rfl) ?_
        refine VO.go ?_
        refine VC.ret ?_
        exact VEnd.one rfl evT (pvE (by rw [hf, any_all (by omega), vS, decide_eq_false (by omega)] <;> rfl))
      · refine VC.skip ?_
        show VC _ _ _ _ _ _ _ _
        refine VC.text ?_
        refine VO.c (.move rfl) ?_
        refine VO.c (.add rfl rfl (by omega)) ?_
        refine VO.c (.assign rfl) ?_
        refine VO.nil ?_
        refine ⟨_, [(1, .p y64 c), (3, I (((i + 1) : Nat) : Int))], ?_, ⟨rfl, rfl, trivial⟩, (i + 1), rfl, rfl, rfl, (by omega), (by rw [hf, any_all (by omega), vS, decide_eq_true (by omega), Bool.true_and])⟩
        omega
    · refine VC.exit ?_
      show VC _ _ _ _ _ _ _ _
      refine VC.seq ?_
      refine VC.seq ?_
      refine VC.text ?_
      refine VO.c (.assign rfl) ?_
      refine VO.go ?_
      refine VC.block ?_
      refine VC.keep [(1, .p y64 c), (4, I ((0 : Nat) : Int))] ⟨rfl, rfl, trivial⟩ ?_
      refine VC.loop (I := fun kk ff ss => ∃ (j : Nat), kk = c.2.1.length - j ∧ ff = [(1, .p y64 c), (4, I ((j : Nat) : Int))] ∧ ss = [] ∧ (j ≤ c.2.1.length) ∧ (shortC c = ((c.2.1.drop j).all eS && c.2.2.all cS))) ?_ _ _ _ ⟨0, rfl, rfl, rfl, Nat.zero_le _, (by rw [hf, List.drop_eq_nil_of_le (by omega)]; rfl)⟩
      rintro kk ff ss ⟨j, hk2, rfl, rfl, hj, hg⟩
      refine VC.seq ?_
      refine VC.seq ?_
      refine VC.text ?_
      refine VO.c (.move rfl) ?_
      refine VO.c (.fa (.r (.l .o))) ?_
      refine VO.r (.ld vt61) ?_
      refine VO.r (.len el61) ?_
      refine VO.c (.lss) ?_
      refine VO.go ?_
      refine VC.condD rfl (fun c9 => ?_) (fun c9 => ?_)
      · refine VC.skip ?_
        show VC _ _ _ _ _ _ _ _
        refine VC.seq ?_
        refine VC.block ?_
        refine VC.seq ?_
        refine VC.seq ?_
        refine VC.text ?_
        refine VO.c (.fa (.r (.l .o))) ?_
        refine VO.r (.ld vt61) ?_
        refine VO.c (.move rfl) ?_
        refine VO.c (.ix (j := j) rfl rfl el61 (by omega)) ?_
        refine VO.c (.fa (.l .o)) ?_
        refine VO.r (.ld vt9) ?_
        refine VO.r (.lenS) ?_
        refine VO.c (.gtr) ?_
        refine VO.c (.move rfl) ?_
        refine VO.splitD (x := 56) rfl (fun g11_8 => ?_) (fun g11_8 => ?_)
        · refine VO.skip ?_
          refine VO.skip ?_
          refine VO.skip ?_
          refine VO.skip ?_
          refine VO.skip ?_
          refine VO.skip ?_
          refine VO.skip ?_
          refine VO.skip ?_
          refine VO.skip ?_
          refine VO.skip ?_
          refine VO.skip ?_
          refine VO.skip ?_
          refine VO.skip ?_
          refine VO.skip ?_
          refine VO.skip ?_
          refine VO.skip ?_
          refine VO.skip ?_
          refine VO.skip ?_
          refine VO.c (.pickT rfl rfl) ?_
          refine VO.go ?_
          refine VC.condT rfl ?_
          refine VC.seq ?_
          refine VC.keep [(1, .p y64 c), (4, I ((j : Nat) : Int))] ⟨rfl, rfl, trivial⟩ ?_
          refine VC.text ?_
          refine VO.c (.assign rfl) ?_
          refine VO.go ?_
          refine VC.ret ?_
          exact VEnd.one rfl evT (pvE (by rw [hg, any_all (by omega), eS_no (by omega)] <;> rfl))
        · refine VO.c (.fa (.r (.l .o))) ?_
          refine VO.r (.ld vt61) ?_
          refine VO.c (.move rfl) ?_
          refine VO.c (.ix (j := j) rfl rfl el61 (by omega)) ?_
          refine VO.c (.fa (.r .o)) ?_
          refine VO.r (.ld vt60) ?_
          refine VO.r (.len el60) ?_
          refine VO.c (.gtr) ?_
          refine VO.c (.move rfl) ?_
          refine VO.cg (r := decide ((8 : Int) < ((((c.2.1[j]).2).length : Nat) : Int))) (w := true) [] trivial (fun hgd => have g11_17 : (8 : Int) < ((((c.2.1[j]).2).length : Nat) : Int) := (by simpa using hgd); (.fa (.r (.l .o)))) ?_
          refine VO.rg (r := decide ((8 : Int) < ((((c.2.1[j]).2).length : Nat) : Int))) (w := true) [(66, .p y61 c.2.1)] ⟨rfl, trivial⟩ (fun hgd => have g11_17 : (8 : Int) < ((((c.2.1[j]).2).length : Nat) : Int) := (by simpa using hgd); (.ld vt61)) ?_
          refine VO.cg (r := decide ((8 : Int) < ((((c.2.1[j]).2).length : Nat) : Int))) (w := true) [] trivial (fun hgd => have g11_17 : (8 : Int) < ((((c.2.1[j]).2).length : Nat) : Int) := (by simpa using hgd); (.move rfl)) ?_
          refine VO.cg (r := decide ((8 : Int) < ((((c.2.1[j]).2).length : Nat) : Int))) (w := true) [(67, .v y61 c.2.1), (68, I ((j : Nat) : Int))] ⟨rfl, rfl, trivial⟩ (fun hgd => have g11_17 : (8 : Int) < ((((c.2.1[j]).2).length : Nat) : Int) := (by simpa using hgd); (.ixD rfl rfl (ByteArray.empty, []) el61 (by omega))) ?_
          refine VO.cg (r := decide ((8 : Int) < ((((c.2.1[j]).2).length : Nat) : Int))) (w := true) [(69, .p y96 (c.2.1.getD j (ByteArray.empty, [])))] ⟨rfl, trivial⟩ (fun hgd => have g11_17 : (8 : Int) < ((((c.2.1[j]).2).length : Nat) : Int) := (by simpa using hgd); (.fa (.r .o))) ?_
          refine VO.rg (r := decide ((8 : Int) < ((((c.2.1[j]).2).length : Nat) : Int))) (w := true) [(70, .p y60 ((c.2.1.getD j (ByteArray.empty, [])).2))] ⟨rfl, trivial⟩ (fun hgd => have g11_17 : (8 : Int) < ((((c.2.1[j]).2).length : Nat) : Int) := (by simpa using hgd); (.ld vt60)) ?_
          refine VO.rg (r := decide ((8 : Int) < ((((c.2.1[j]).2).length : Nat) : Int))) (w := true) [(71, .v y60 ((c.2.1.getD j (ByteArray.empty, [])).2))] ⟨rfl, trivial⟩ (fun hgd => have g11_17 : (8 : Int) < ((((c.2.1[j]).2).length : Nat) : Int) := (by simpa using hgd); (.len el60)) ?_
          refine VO.cg (r := decide ((8 : Int) < ((((c.2.1[j]).2).length : Nat) : Int))) (w := true) [(72, I ((((c.2.1.getD j (ByteArray.empty, [])).2).length : Nat) : Int))] ⟨rfl, trivial⟩ (fun hgd => have g11_17 : (8 : Int) < ((((c.2.1[j]).2).length : Nat) : Int) := (by simpa using hgd); (.neq)) ?_
          refine VO.c (.and) ?_
          refine VO.c (.pickF rfl rfl) ?_
          refine VO.go ?_
          refine VC.condB rfl (fun c11 => ?_) (fun c11 => ?_)
          · try simp only [Bool.and_eq_true, Bool.or_eq_true, Bool.and_eq_false_iff, Bool.or_eq_false_iff, Bool.not_eq_true', Bool.not_eq_false', decide_eq_true_eq, decide_eq_false_iff_not] at c11
            try rw [getD_at (by omega)] at c11
            refine VC.seq ?_
            refine VC.text ?_
            refine VO.c (.assign rfl) ?_
            refine VO.go ?_
            refine VC.ret ?_
            exact VEnd.one rfl evT (pvE (by rw [hg, any_all (by omega), eS_no (by omega)] <;> rfl))
          · try simp only [Bool.and_eq_true, Bool.or_eq_true, Bool.and_eq_false_iff, Bool.or_eq_false_iff, Bool.not_eq_true', Bool.not_eq_false', decide_eq_true_eq, decide_eq_false_iff_not] at c11
            try rw [getD_at (by omega)] at c11
            refine VC.skip ?_
            show VC _ _ _ _ _ _ _ _
            refine VC.seq ?_
            refine VC.text ?_
            refine VO.c (.assign rfl) ?_
            refine VO.go ?_
            refine VC.block ?_
            refine VC.keep [(1, .p y64 c), (4, I ((j : Nat) : Int)), (5, I ((0 : Nat) : Int))] ⟨rfl, rfl, rfl, trivial⟩ ?_
            refine VC.loop (I := fun kk ff ss => ∃ (k : Nat), kk = (c.2.1[j]).2.length - k ∧ ff = [(1, .p y64 c), (4, I ((j : Nat) : Int)), (5, I ((k : Nat) : Int))] ∧ ss = [] ∧ (k ≤ (c.2.1[j]).2.length) ∧ (shortC c = (((c.2.1[j]).2.drop k).all vS && ((c.2.1.drop (j + 1)).all eS && c.2.2.all cS)))) ?_ _ _ _ ⟨0, rfl, rfl, rfl, (by omega), (by rw [hg, any_all (by omega), eS_yes (by omega) (by omega)]; exact Bool.and_assoc _ _ _)⟩
            rintro kk ff ss ⟨k, hk4, rfl, rfl, hk, hh⟩
            refine VC.seq ?_
            refine VC.seq ?_
            refine VC.text ?_
            refine VO.c (.move rfl) ?_
            refine VO.c (.fa (.r (.l .o))) ?_
            refine VO.r (.ld vt61) ?_
            refine VO.c (.move rfl) ?_
            refine VO.c (.ix (j := j) rfl rfl el61 (by omega)) ?_
            refine VO.c (.fa (.r .o)) ?_
            refine VO.r (.ld vt60) ?_
            refine VO.r (.len el60) ?_
            refine VO.c (.lss) ?_
            refine VO.go ?_
            refine VC.condD rfl (fun c14 => ?_) (fun c14 => ?_)
            · refine VC.skip ?_
              show VC _ _ _ _ _ _ _ _
              refine VC.seq ?_
              refine VC.block ?_
              refine VC.seq ?_
              refine VC.text ?_
              refine VO.c (.fa (.r (.l .o))) ?_
              refine VO.r (.ld vt61) ?_
              refine VO.c (.move rfl) ?_
              refine VO.c (.ix (j := j) rfl rfl el61 (by omega)) ?_
              refine VO.c (.fa (.r .o)) ?_
              refine VO.r (.ld vt60) ?_
              refine VO.c (.move rfl) ?_
              refine VO.c (.ix (j := k) rfl rfl el60 (by omega)) ?_
              refine VO.c (.fa (.l .o)) ?_
              refine VO.r (.ld vt9) ?_
              refine VO.r (.lenS) ?_
              refine VO.c (.gtr) ?_
              refine VO.go ?_
              refine VC.condD rfl (fun c16 => ?_) (fun c16 => ?_)
              · refine VC.seq ?_
                refine VC.text ?_
                refine VO.c (.assign rfl) ?_
                refine VO.go ?_
                refine VC.ret ?_
                exact VEnd.one rfl evT (pvE (by rw [hh, any_all (by omega), vS, decide_eq_false (by omega)] <;> rfl))
              · refine VC.skip ?_
                show VC _ _ _ _ _ _ _ _
                refine VC.text ?_
                refine VO.c (.move rfl) ?_
                refine VO.c (.add rfl rfl (by omega)) ?_
                refine VO.c (.assign rfl) ?_
                refine VO.nil ?_
                refine ⟨_, [(1, .p y64 c), (4, I ((j : Nat) : Int)), (5, I (((k + 1) : Nat) : Int))], ?_, ⟨rfl, rfl, rfl, trivial⟩, (k + 1), rfl, rfl, rfl, (by omega), (by rw [hh, any_all (by omega), vS, decide_eq_true (by omega), Bool.true_and])⟩
                omega
            · refine VC.exit ?_
              show VC _ _ _ _ _ _ _ _
              refine VC.text ?_
              refine VO.c (.move rfl) ?_
              refine VO.c (.add rfl rfl (by omega)) ?_
              refine VO.c (.assign rfl) ?_
              refine VO.nil ?_
              refine ⟨_, [(1, .p y64 c), (4, I (((j + 1) : Nat) : Int))], ?_, ⟨rfl, rfl, trivial⟩, (j + 1), rfl, rfl, rfl, (by omega), (by rw [hh, List.drop_eq_nil_of_le (by omega)] <;> rfl)⟩
              omega
      · refine VC.exit ?_
        show VC _ _ _ _ _ _ _ _
        refine VC.seq ?_
        refine VC.seq ?_
        refine VC.text ?_
        refine VO.c (.assign rfl) ?_
        refine VO.go ?_
        refine VC.block ?_
        refine VC.keep [(1, .p y64 c), (6, I ((0 : Nat) : Int))] ⟨rfl, rfl, trivial⟩ ?_
        refine VC.loop (I := fun kk ff ss => ∃ (m : Nat), kk = c.2.2.length - m ∧ ff = [(1, .p y64 c), (6, I ((m : Nat) : Int))] ∧ ss = [] ∧ (m ≤ c.2.2.length) ∧ (shortC c = (c.2.2.drop m).all cS)) ?_ _ _ _ ⟨0, rfl, rfl, rfl, Nat.zero_le _, (by rw [hg, List.drop_eq_nil_of_le (by omega)]; rfl)⟩
        rintro kk ff ss ⟨m, hk6, rfl, rfl, hm, hz⟩
        refine VC.seq ?_
        refine VC.seq ?_
        refine VC.text ?_
        refine VO.c (.move rfl) ?_
        refine VO.c (.fa (.r (.r .o))) ?_
        refine VO.r (.ld vt62) ?_
        refine VO.r (.len el62) ?_
        refine VO.c (.lss) ?_
        refine VO.go ?_
        refine VC.condD rfl (fun c19 => ?_) (fun c19 => ?_)
        · refine VC.skip ?_
          show VC _ _ _ _ _ _ _ _
          refine VC.seq ?_
          refine VC.block ?_
          refine VC.seq ?_
          refine VC.text ?_
          refine VO.c (.fa (.r (.r .o))) ?_
          refine VO.r (.ld vt62) ?_
          refine VO.c (.move rfl) ?_
          refine VO.c (.ix (j := m) rfl rfl el62 (by omega)) ?_
          refine VO.c (.fa (.l .o)) ?_
          refine VO.r (.ld vt9) ?_
          refine VO.r (.lenS) ?_
          refine VO.c (.gtr) ?_
          refine VO.c (.move rfl) ?_
          refine VO.splitD (x := 114) rfl (fun g21_8 => ?_) (fun g21_8 => ?_)
          · refine VO.skip ?_
            refine VO.skip ?_
            refine VO.skip ?_
            refine VO.skip ?_
            refine VO.skip ?_
            refine VO.skip ?_
            refine VO.skip ?_
            refine VO.skip ?_
            refine VO.skip ?_
            refine VO.skip ?_
            refine VO.skip ?_
            refine VO.skip ?_
            refine VO.skip ?_
            refine VO.skip ?_
            refine VO.skip ?_
            refine VO.skip ?_
            refine VO.skip ?_
            refine VO.skip ?_
            refine VO.c (.pickT rfl rfl) ?_
            refine VO.c (.move rfl) ?_
            refine VO.skip ?_
            refine VO.skip ?_
            refine VO.skip ?_
            refine VO.skip ?_
            refine VO.skip ?_
            refine VO.skip ?_
            refine VO.skip ?_
            refine VO.skip ?_
            refine VO.c (.pickT rfl rfl) ?_
            refine VO.go ?_
            refine VC.condT rfl ?_
            refine VC.seq ?_
            refine VC.keep [(1, .p y64 c), (6, I ((m : Nat) : Int))] ⟨rfl, rfl, trivial⟩ ?_
            refine VC.text ?_
            refine VO.c (.assign rfl) ?_
            refine VO.go ?_
            refine VC.ret ?_
            exact VEnd.one rfl evT (pvE (by first | (rw [hz, any_all (by omega), cS_no (cS_c c21)]; rfl) | (rw [hz, any_all (by omega), cS_no (cS_g g21_8)]; rfl)))
          · refine VO.c (.fa (.r (.r .o))) ?_
            refine VO.r (.ld vt62) ?_
            refine VO.c (.move rfl) ?_
            refine VO.c (.ix (j := m) rfl rfl el62 (by omega)) ?_
            refine VO.c (.fa (.r (.r .o))) ?_
            refine VO.r (.ld vt27) ?_
            refine VO.r (.len el27) ?_
            refine VO.c (.gtr) ?_
            refine VO.c (.move rfl) ?_
            refine VO.cg (r := decide ((8 : Int) < ((((c.2.2[m]).2.2).length : Nat) : Int))) (w := true) [] trivial (fun hgd => have g21_17 : (8 : Int) < ((((c.2.2[m]).2.2).length : Nat) : Int) := (by first | exact eq_of_beq hgd | simpa using hgd); (.fa (.r (.r .o)))) ?_
            refine VO.rg (r := decide ((8 : Int) < ((((c.2.2[m]).2.2).length : Nat) : Int))) (w := true) [(124, .p y62 c.2.2)] ⟨rfl, trivial⟩ (fun hgd => have g21_17 : (8 : Int) < ((((c.2.2[m]).2.2).length : Nat) : Int) := (by first | exact eq_of_beq hgd | simpa using hgd); (.ld vt62)) ?_
            refine VO.cg (r := decide ((8 : Int) < ((((c.2.2[m]).2.2).length : Nat) : Int))) (w := true) [] trivial (fun hgd => have g21_17 : (8 : Int) < ((((c.2.2[m]).2.2).length : Nat) : Int) := (by first | exact eq_of_beq hgd | simpa using hgd); (.move rfl)) ?_
            refine VO.cg (r := decide ((8 : Int) < ((((c.2.2[m]).2.2).length : Nat) : Int))) (w := true) [(125, .v y62 c.2.2), (126, I ((m : Nat) : Int))] ⟨rfl, rfl, trivial⟩ (fun hgd => have g21_17 : (8 : Int) < ((((c.2.2[m]).2.2).length : Nat) : Int) := (by first | exact eq_of_beq hgd | simpa using hgd); (.ixD rfl rfl (ByteArray.empty, false, []) el62 (by omega))) ?_
            refine VO.cg (r := decide ((8 : Int) < ((((c.2.2[m]).2.2).length : Nat) : Int))) (w := true) [(127, .p y109 (c.2.2.getD m (ByteArray.empty, false, [])))] ⟨rfl, trivial⟩ (fun hgd => have g21_17 : (8 : Int) < ((((c.2.2[m]).2.2).length : Nat) : Int) := (by first | exact eq_of_beq hgd | simpa using hgd); (.fa (.r (.r .o)))) ?_
            refine VO.rg (r := decide ((8 : Int) < ((((c.2.2[m]).2.2).length : Nat) : Int))) (w := true) [(128, .p (.sl .str) ((c.2.2.getD m (ByteArray.empty, false, [])).2.2))] ⟨rfl, trivial⟩ (fun hgd => have g21_17 : (8 : Int) < ((((c.2.2[m]).2.2).length : Nat) : Int) := (by first | exact eq_of_beq hgd | simpa using hgd); (.ld vt27)) ?_
            refine VO.rg (r := decide ((8 : Int) < ((((c.2.2[m]).2.2).length : Nat) : Int))) (w := true) [(129, .v (.sl .str) ((c.2.2.getD m (ByteArray.empty, false, [])).2.2))] ⟨rfl, trivial⟩ (fun hgd => have g21_17 : (8 : Int) < ((((c.2.2[m]).2.2).length : Nat) : Int) := (by first | exact eq_of_beq hgd | simpa using hgd); (.len el27)) ?_
            refine VO.cg (r := decide ((8 : Int) < ((((c.2.2[m]).2.2).length : Nat) : Int))) (w := true) [(130, I ((((c.2.2.getD m (ByteArray.empty, false, [])).2.2).length : Nat) : Int))] ⟨rfl, trivial⟩ (fun hgd => have g21_17 : (8 : Int) < ((((c.2.2[m]).2.2).length : Nat) : Int) := (by first | exact eq_of_beq hgd | simpa using hgd); (.neq)) ?_
            refine VO.c (.and) ?_
            refine VO.c (.pickF rfl rfl) ?_
            refine VO.c (.move rfl) ?_
            refine VO.cg (r := ((decide ((8 : Int) < ((((c.2.2[m]).2.2).length : Nat) : Int))) && (decide (((((c.2.2.getD m (ByteArray.empty, false, [])).2.2).length : Nat) : Int) ≠ (17 : Int))))) (w := false) [] trivial (fun hgd => have g21_28 : ((decide ((8 : Int) < ((((c.2.2[m]).2.2).length : Nat) : Int))) && (decide (((((c.2.2.getD m (ByteArray.empty, false, [])).2.2).length : Nat) : Int) ≠ (17 : Int)))) = false := (by first | exact eq_of_beq hgd | simpa using hgd); (.fa (.r (.r .o)))) ?_
            refine VO.rg (r := ((decide ((8 : Int) < ((((c.2.2[m]).2.2).length : Nat) : Int))) && (decide (((((c.2.2.getD m (ByteArray.empty, false, [])).2.2).length : Nat) : Int) ≠ (17 : Int))))) (w := false) [(135, .p y62 c.2.2)] ⟨rfl, trivial⟩ (fun hgd => have g21_28 : ((decide ((8 : Int) < ((((c.2.2[m]).2.2).length : Nat) : Int))) && (decide (((((c.2.2.getD m (ByteArray.empty, false, [])).2.2).length : Nat) : Int) ≠ (17 : Int)))) = false := (by first | exact eq_of_beq hgd | simpa using hgd); (.ld vt62)) ?_
            refine VO.cg (r := ((decide ((8 : Int) < ((((c.2.2[m]).2.2).length : Nat) : Int))) && (decide (((((c.2.2.getD m (ByteArray.empty, false, [])).2.2).length : Nat) : Int) ≠ (17 : Int))))) (w := false) [] trivial (fun hgd => have g21_28 : ((decide ((8 : Int) < ((((c.2.2[m]).2.2).length : Nat) : Int))) && (decide (((((c.2.2.getD m (ByteArray.empty, false, [])).2.2).length : Nat) : Int) ≠ (17 : Int)))) = false := (by first | exact eq_of_beq hgd | simpa using hgd); (.move rfl)) ?_
            refine VO.cg (r := ((decide ((8 : Int) < ((((c.2.2[m]).2.2).length : Nat) : Int))) && (decide (((((c.2.2.getD m (ByteArray.empty, false, [])).2.2).length : Nat) : Int) ≠ (17 : Int))))) (w := false) [(136, .v y62 c.2.2), (137, I ((m : Nat) : Int))] ⟨rfl, rfl, trivial⟩ (fun hgd => have g21_28 : ((decide ((8 : Int) < ((((c.2.2[m]).2.2).length : Nat) : Int))) && (decide (((((c.2.2.getD m (ByteArray.empty, false, [])).2.2).length : Nat) : Int) ≠ (17 : Int)))) = false := (by first | exact eq_of_beq hgd | simpa using hgd); (.ixD rfl rfl (ByteArray.empty, false, []) el62 (by omega))) ?_
            refine VO.cg (r := ((decide ((8 : Int) < ((((c.2.2[m]).2.2).length : Nat) : Int))) && (decide (((((c.2.2.getD m (ByteArray.empty, false, [])).2.2).length : Nat) : Int) ≠ (17 : Int))))) (w := false) [(138, .p y109 (c.2.2.getD m (ByteArray.empty, false, [])))] ⟨rfl, trivial⟩ (fun hgd => have g21_28 : ((decide ((8 : Int) < ((((c.2.2[m]).2.2).length : Nat) : Int))) && (decide (((((c.2.2.getD m (ByteArray.empty, false, [])).2.2).length : Nat) : Int) ≠ (17 : Int)))) = false := (by first | exact eq_of_beq hgd | simpa using hgd); (.fa (.r (.r .o)))) ?_
            refine VO.rg (r := ((decide ((8 : Int) < ((((c.2.2[m]).2.2).length : Nat) : Int))) && (decide (((((c.2.2.getD m (ByteArray.empty, false, [])).2.2).length : Nat) : Int) ≠ (17 : Int))))) (w := false) [(139, .p (.sl .str) ((c.2.2.getD m (ByteArray.empty, false, [])).2.2))] ⟨rfl, trivial⟩ (fun hgd => have g21_28 : ((decide ((8 : Int) < ((((c.2.2[m]).2.2).length : Nat) : Int))) && (decide (((((c.2.2.getD m (ByteArray.empty, false, [])).2.2).length : Nat) : Int) ≠ (17 : Int)))) = false := (by first | exact eq_of_beq hgd | simpa using hgd); (.ld vt27)) ?_
            refine VO.callg (r0 := ((decide ((8 : Int) < ((((c.2.2[m]).2.2).length : Nat) : Int))) && (decide (((((c.2.2.getD m (ByteArray.empty, false, [])).2.2).length : Nat) : Int) ≠ (17 : Int))))) (w := false) [(140, .v (.sl .str) ((c.2.2.getD m (ByteArray.empty, false, [])).2.2))] ⟨rfl, trivial⟩ rfl rfl .same .refl rfl (fun hgd => have g21_28 : ((decide ((8 : Int) < ((((c.2.2[m]).2.2).length : Nat) : Int))) && (decide (((((c.2.2.getD m (ByteArray.empty, false, [])).2.2).length : Nat) : Int) ≠ (17 : Int)))) = false := (by first | exact eq_of_beq hgd | simpa using hgd); VF.call (rShort_ok (cS_len (by rw [getD_at (by omega)]) g21_28))) ?_
            refine VO.cg (r := ((decide ((8 : Int) < ((((c.2.2[m]).2.2).length : Nat) : Int))) && (decide (((((c.2.2.getD m (ByteArray.empty, false, [])).2.2).length : Nat) : Int) ≠ (17 : Int))))) (w := false) [(141, B (shortW ((c.2.2.getD m (ByteArray.empty, false, [])).2.2)))] ⟨rfl, trivial⟩ (fun hgd => have g21_28 : ((decide ((8 : Int) < ((((c.2.2[m]).2.2).length : Nat) : Int))) && (decide (((((c.2.2.getD m (ByteArray.empty, false, [])).2.2).length : Nat) : Int) ≠ (17 : Int)))) = false := (by first | exact eq_of_beq hgd | simpa using hgd); (.not)) ?_
            refine VO.c (.or) ?_
            refine VO.go ?_
            refine VC.condB rfl (fun c21 => ?_) (fun c21 => ?_)
            · try simp only [Bool.and_eq_true, Bool.or_eq_true, Bool.and_eq_false_iff, Bool.or_eq_false_iff, Bool.not_eq_true', Bool.not_eq_false', decide_eq_true_eq, decide_eq_false_iff_not] at c21
              try simp only [getD_at (show m < c.2.2.length by omega)] at c21
              refine VC.seq ?_
              refine VC.text ?_
              refine VO.c (.assign rfl) ?_
              refine VO.go ?_
              refine VC.ret ?_
              exact VEnd.one rfl evT (pvE (by first | (rw [hz, any_all (by omega), cS_no (cS_c c21)]; rfl) | (rw [hz, any_all (by omega), cS_no (cS_g g21_8)]; rfl)))
            · try simp only [Bool.and_eq_true, Bool.or_eq_true, Bool.and_eq_false_iff, Bool.or_eq_false_iff, Bool.not_eq_true', Bool.not_eq_false', decide_eq_true_eq, decide_eq_false_iff_not] at c21
              try simp only [getD_at (show m < c.2.2.length by omega)] at c21
              refine VC.skip ?_
              show VC _ _ _ _ _ _ _ _
              refine VC.text ?_
              refine VO.c (.move rfl) ?_
              refine VO.c (.add rfl rfl (by omega)) ?_
              refine VO.c (.assign rfl) ?_
              refine VO.nil ?_
              refine ⟨_, [(1, .p y64 c), (6, I (((m + 1) : Nat) : Int))], ?_, ⟨rfl, rfl, trivial⟩, (m + 1), rfl, rfl, rfl, (by omega), (by rw [hz, any_all (by omega), cS_yes (by omega) (by omega) c21.2, Bool.true_and])⟩
              omega
        · refine VC.exit ?_
          show VC _ _ _ _ _ _ _ _
          refine VC.seq ?_
          refine VC.text ?_
          refine VO.c (.assign rfl) ?_
          refine VO.go ?_
          refine VC.ret ?_
          exact VEnd.one rfl evT (pvE (by rw [hz, List.drop_eq_nil_of_le (by omega)] <;> rfl))
end Go.Proofs
namespace Go.Proofs
open Go.Fs
set_option linter.unusedVariables false
set_option maxHeartbeats 2000000

theorem shortC_ok {c : Cse} (h : shortC c = true) : CseOk c := by
  unfold shortC at h
  simp only [Bool.and_eq_true] at h
  obtain ⟨⟨h1, h2, h3⟩, h4, h5, h6⟩ := h
  have h1 := of_decide_eq_true h1
  have h2 := of_decide_eq_true h2
  have h3 := of_decide_eq_true h3
  refine ⟨by omega, by omega, by omega, fun x hx => ?_, fun x hx => ?_⟩
  · have h7 := List.all_eq_true.1 h5 x hx
    unfold eS at h7
    simp only [Bool.and_eq_true, Bool.or_eq_true, decide_eq_true_eq] at h7
    omega
  · have h7 := List.all_eq_true.1 h6 x hx
    unfold cS at h7
    simp only [Bool.and_eq_true, Bool.or_eq_true, decide_eq_true_eq] at h7
    omega
theorem openE_R {c : Cse} (h : caseE c = 0) : openE c = opnR c c.2.2.length := by
  unfold openE opnE opnR
  congr 1
  refine List.filter_congr fun x hx => ?_
  show (!inM (byM c (validE c)) x.1) = (!inM (byM c (validR c)) x.1)
  rw [validE_R h]
theorem hasC_in {c : Cse} {s : ByteArray} : hasC c s = decide (0 ≤ claimE c.2.2 s) := by
  unfold hasC
  rw [Bool.eq_iff_iff, List.any_eq_true, decide_eq_true_eq, claim_in]
  constructor
  · rintro ⟨x, hx, he⟩; exact ⟨x, hx, of_decide_eq_true he⟩
  · rintro ⟨x, hx, he⟩; exact ⟨x, hx, decide_eq_true he⟩
theorem two_same {c : Cse} {s : ByteArray} : twoE c s = rTwo c s := by
  unfold rTwo
  by_cases h : caseE c = 0
  · rw [if_neg (fun h2 => h2 h)]
    unfold twoE
    rw [hasC_in]
    by_cases h2 : 0 ≤ claimE c.2.2 s
    · rw [decide_eq_true h2, if_neg (show ¬ claimE c.2.2 s < 0 by omega), h] <;> rfl
    · rw [decide_eq_false h2, if_pos (show claimE c.2.2 s < 0 by omega), h] <;> rfl
  · rw [if_pos h]
    unfold twoE
    rw [firstE_two, if_neg h]
theorem no_beq {p q : Bool} (h : p = q) (g : (p == q) = false) : False := by
  subst h
  cases p <;> cases g
theorem rTwo_ok {c : Cse} {s : ByteArray} (h : rTwo c s = 0) : caseE c = 0 ∧ 0 ≤ claimE c.2.2 s := by
  unfold rTwo at h
  by_cases h1 : caseE c = 0
  · rw [if_neg (fun h2 => h2 h1)] at h
    refine ⟨h1, ?_⟩
    by_cases h3 : claimE c.2.2 s < 0
    · rw [if_pos h3] at h; cases h
    · omega
  · rw [if_pos h1] at h; exact absurd h h1
theorem law4_ok {c : (List (ByteArray × Int)) × (List (ByteArray × (List (ByteArray × Int)))) × (List (ByteArray × Bool × (List ByteArray)))} {s : ByteArray} : VF Tryz.prog OA 6 [.v y64 c, St s] (B true) := by
  refine VF.enter Tryz.func6 rfl (fun _ _ => rfl) rfl ?_
  show VC _ _ _ _ _ [(0, .v y64 c), (1, St s)] [] _
  refine VC.seq ?_
  refine VC.text ?_
  refine VO.new (.box) ?_
  refine VO.c (.assign rfl) ?_
  refine VO.go ?_
  refine VC.seq ?_
  refine VC.seq ?_
  refine VC.text ?_
  refine VO.r (.ld vt64) ?_
  refine VO.call rfl rfl (VF.call (rShortC_ok )) ?_
  refine VO.c (.not) ?_
  refine VO.c (.move rfl) ?_
  refine VO.cg (r := (!(shortC c))) (w := false) [] trivial (fun hgd => have g1_3 : (!(shortC c)) = false := (by simpa using hgd); (.move rfl)) ?_
  refine VO.rg (r := (!(shortC c))) (w := false) [(19, St s)] ⟨rfl, trivial⟩ (fun hgd => have g1_3 : (!(shortC c)) = false := (by simpa using hgd); (.lenS)) ?_
  refine VO.cg (r := (!(shortC c))) (w := false) [(20, I ((s.size : Nat) : Int))] ⟨rfl, trivial⟩ (fun hgd => have g1_3 : (!(shortC c)) = false := (by simpa using hgd); (.gtr)) ?_
  refine VO.c (.or) ?_
  refine VO.go ?_
  refine VC.condB rfl (fun c1 => ?_) (fun c1 => ?_)
  · try simp only [Bool.and_eq_true, Bool.or_eq_true, Bool.and_eq_false_iff, Bool.or_eq_false_iff, Bool.not_eq_true', Bool.not_eq_false', decide_eq_true_eq, decide_eq_false_iff_not] at c1
    refine VC.seq ?_
    refine VC.text ?_
    refine VO.call rfl rfl (VF.call (awakeC_ok )) ?_
    refine VO.c (.assign rfl) ?_
    refine VO.go ?_
    refine VC.ret ?_
    exact VEnd.one rfl evT (pvE (by rfl))
  · try simp only [Bool.and_eq_true, Bool.or_eq_true, Bool.and_eq_false_iff, Bool.or_eq_false_iff, Bool.not_eq_true', Bool.not_eq_false', decide_eq_true_eq, decide_eq_false_iff_not] at c1
    have hc := shortC_ok c1.1
    have hcl := hc.l
    have hce := hc.e
    have hvl := validE_len (c := c)
    have hvr := validR_len (c := c)
    have hol := opnE_len (c := c) (i := c.2.2.length)
    have hor := opnR_len (c := c) (i := c.2.2.length)
    refine VC.skip ?_
    show VC _ _ _ _ _ _ _ _
    refine VC.seq ?_
    refine VC.text ?_
    refine VO.r (.ld vt64) ?_
    refine VO.call rfl rfl (VF.call (lGiven_ok (by first | assumption | omega | simp))) ?_
    refine VO.call rfl rfl (VF.call (sFresh_ok (by first | assumption | omega | simp))) ?_
    refine VO.c (.move rfl) ?_
    refine VO.c (.extract) ?_
    refine VO.c (.extract) ?_
    refine VO.c (.assign rfl) ?_
    refine VO.c (.assign rfl) ?_
    refine VO.go ?_
    refine VC.seq ?_
    refine VC.text ?_
    refine VO.r (.ld vt64) ?_
    refine VO.call rfl rfl (VF.call (lGiven_ok (by first | assumption | omega | simp))) ?_
    refine VO.c (.move rfl) ?_
    refine VO.call rfl rfl (VF.call (sHolds_ok (by first | assumption | omega | simp))) ?_
    refine VO.c (.move rfl) ?_
    refine VO.c (.extract) ?_
    refine VO.c (.extract) ?_
    refine VO.c (.assign rfl) ?_
    refine VO.c (.assign rfl) ?_
    refine VO.go ?_
    refine VC.seq ?_
    refine VC.text ?_
    refine VO.r (.ld vt64) ?_
    refine VO.call rfl rfl (VF.call (lGiven_ok (by first | assumption | omega | simp))) ?_
    refine VO.call rfl rfl (VF.call (sOpenT_ok (by first | assumption | omega | simp))) ?_
    refine VO.c (.move rfl) ?_
    refine VO.c (.extract) ?_
    refine VO.c (.extract) ?_
    refine VO.c (.assign rfl) ?_
    refine VO.c (.assign rfl) ?_
    refine VO.go ?_
    refine VC.seq ?_
    refine VC.keep [(1, St s), (2, .p y64 c), (5, .v (.sl .str) (if caseE c = 0 then validE c else [])), (6, I (caseE c)), (7, B (if twoE c s = 0 then holdsE c s else false)), (8, I (twoE c s)), (9, .v (.sl .str) (if caseE c = 0 then openE c else [])), (10, I (caseE c))] ⟨rfl, rfl, rfl, rfl, rfl, rfl, rfl, rfl, trivial⟩ ?_
    refine VC.drawn ?_
    refine VD.r [] (.ld vt64) (.inl rfl) ?_
    refine VD.call rfl rfl (VF.call (rCase_ok (by first | assumption | omega | simp))) ?_
    refine VD.r [] (.ld vt64) (.inl rfl) ?_
    refine VD.c (.move rfl) ?_
    refine VD.call rfl rfl (VF.call (rCheckClaim_ok (by first | assumption | omega | simp))) ?_
    refine VD.c (.assign rfl) ?_
    refine VD.nw [] ?_
    refine VD.c (.assign rfl) ?_
    refine VD.go ?_
    refine VC.seq ?_
    refine VC.text ?_
    refine VO.c (.assign rfl) ?_
    refine VO.c (.assign rfl) ?_
    refine VO.go ?_
    refine VC.seq ?_
    refine VC.seq ?_
    refine VC.text ?_
    refine VO.c (.move rfl) ?_
    refine VO.c (.eql) ?_
    refine VO.go ?_
    refine VC.condD rfl (fun c8 => ?_) (fun c8 => ?_)
    · have hK := (case_known c8).2
      have hk := case_claims c8
      have f5 : (if caseE c = 0 then validE c else []) = validR c := by rw [if_pos c8]; exact validE_R c8
      have f9 : (if caseE c = 0 then openE c else []) = opnR c c.2.2.length := by rw [if_pos c8]; exact openE_R c8
      have l5 : (if caseE c = 0 then validE c else []).length < 1000000 := by rw [f5]; omega
      have l9 : (if caseE c = 0 then openE c else []).length < 1000000 := by rw [f9]; omega
      refine VC.drawn ?_
      refine VD.r [] (.ld vt64) (.inl rfl) ?_
      refine VD.call rfl rfl (VF.call (rFresh_ok (by first | assumption | omega | simp) (by first | assumption | omega | simp))) ?_
      refine VD.r [] (.ld vt64) (.inl rfl) ?_
      refine VD.call rfl rfl (VF.call (rOpen_ok (by first | assumption | omega | simp) (by first | assumption | omega | simp) (by first | assumption | omega | simp))) ?_
      refine VD.c (.assign rfl) ?_
      refine VD.c (.assign rfl) ?_
      refine VD.go ?_
      refine VC.seq ?_
      refine VC.text ?_
      refine VO.r (.ld vt64) ?_
      refine VO.call rfl rfl (VF.call (lGiven_ok (by first | assumption | omega | simp))) ?_
      refine VO.call rfl rfl (VF.call (sCase_ok (by first | assumption | omega | simp))) ?_
      refine VO.c (.move rfl) ?_
      refine VO.c (.eql) ?_
      refine VO.c (.move rfl) ?_
      refine VO.splitD (x := 59) rfl (fun g10_5 => ?_) (fun g10_5 => ?_)
      · refine VO.c (.move rfl) ?_
        refine VO.c (.move rfl) ?_
        refine VO.call rfl rfl (VF.call (rSame_ok (by first | assumption | omega | simp) (by first | assumption | omega | simp))) ?_
        refine VO.c (.pickT rfl rfl) ?_
        refine VO.c (.move rfl) ?_
        refine VO.splitB (x := 64) rfl (fun g10_10 => ?_) (fun g10_10 => ?_)
        · try simp only [Bool.and_eq_true, Bool.or_eq_true, Bool.and_eq_false_iff, Bool.or_eq_false_iff, Bool.not_eq_true', Bool.not_eq_false', decide_eq_true_eq, decide_eq_false_iff_not] at g10_10
          refine VO.c (.move rfl) ?_
          refine VO.c (.move rfl) ?_
          refine VO.c (.eql) ?_
          refine VO.c (.pickT rfl rfl) ?_
          refine VO.c (.move rfl) ?_
          refine VO.splitD (x := 69) rfl (fun g10_15 => ?_) (fun g10_15 => ?_)
          · refine VO.c (.move rfl) ?_
            refine VO.c (.move rfl) ?_
            refine VO.c (.eql) ?_
            refine VO.c (.move rfl) ?_
            refine VO.splitD (x := 73) rfl (fun g10_19 => ?_) (fun g10_19 => ?_)
            · have hr := rTwo_ok g10_19
              have hkk := case_claims hr.1
              have hKK := (case_known hr.1).2
              have hn := hr.2
              have f7 : (if twoE c s = 0 then holdsE c s else false) = byR c (validR c) s := by
                rw [two_same, if_pos g10_19]
                show inM (byM c (validE c)) s = inM (byM c (validR c)) s
                rw [validE_R hr.1]
              refine VO.r (.ld vt64) ?_
              refine VO.c (.move rfl) ?_
              refine VO.call rfl rfl (VF.call (rHolds_ok (by first | assumption | omega | simp) (by first | assumption | omega | simp) (by first | assumption | omega | simp) (by first | assumption | omega | simp))) ?_
              refine VO.c (.pickT rfl rfl) ?_
              refine VO.c (.beql) ?_
              refine VO.c (.pickT rfl rfl) ?_
              refine VO.c (.move rfl) ?_
              refine VO.splitB (x := 80) rfl (fun g10_26 => ?_) (fun g10_26 => ?_)
              · refine VO.c (.move rfl) ?_
                refine VO.c (.move rfl) ?_
                refine VO.c (.eql) ?_
                refine VO.c (.pickT rfl rfl) ?_
                refine VO.c (.move rfl) ?_
                refine VO.splitD (x := 85) rfl (fun g10_31 => ?_) (fun g10_31 => ?_)
                · refine VO.c (.move rfl) ?_
                  refine VO.c (.move rfl) ?_
                  refine VO.call rfl rfl (VF.call (rSame_ok (by first | assumption | omega | simp) (by first | assumption | omega | simp))) ?_
                  refine VO.c (.pickT rfl rfl) ?_
                  refine VO.c (.move rfl) ?_
                  refine VO.splitB (x := 90) rfl (fun g10_36 => ?_) (fun g10_36 => ?_)
                  · try simp only [Bool.and_eq_true, Bool.or_eq_true, Bool.and_eq_false_iff, Bool.or_eq_false_iff, Bool.not_eq_true', Bool.not_eq_false', decide_eq_true_eq, decide_eq_false_iff_not] at g10_36
                    refine VO.c (.move rfl) ?_
                    refine VO.c (.move rfl) ?_
                    refine VO.c (.eql) ?_
                    refine VO.c (.pickT rfl rfl) ?_
                    refine VO.c (.move rfl) ?_
                    refine VO.splitD (x := 95) rfl (fun g10_41 => ?_) (fun g10_41 => ?_)
                    · refine VO.call rfl rfl (VF.call (awakeC_ok )) ?_
                      refine VO.c (.pickT rfl rfl) ?_
                      refine VO.c (.assign rfl) ?_
                      refine VO.go ?_
                      refine VC.ret ?_
                      exact VEnd.one rfl evT (pvE (by rfl))
                    · exact absurd rfl g10_41
                  · try simp only [Bool.and_eq_true, Bool.or_eq_true, Bool.and_eq_false_iff, Bool.or_eq_false_iff, Bool.not_eq_true', Bool.not_eq_false', decide_eq_true_eq, decide_eq_false_iff_not] at g10_36
                    exact absurd f9 g10_36
                · exact absurd two_same g10_31
              · exact (no_beq f7 g10_26).elim
            · have f7 : (if twoE c s = 0 then holdsE c s else false) = false := by rw [two_same, if_neg g10_19]
              refine VO.skip ?_
              refine VO.skip ?_
              refine VO.skip ?_
              refine VO.c (.pickF rfl rfl) ?_
              refine VO.c (.beql) ?_
              refine VO.c (.pickT rfl rfl) ?_
              refine VO.c (.move rfl) ?_
              refine VO.splitB (x := 80) rfl (fun g10_26 => ?_) (fun g10_26 => ?_)
              · refine VO.c (.move rfl) ?_
                refine VO.c (.move rfl) ?_
                refine VO.c (.eql) ?_
                refine VO.c (.pickT rfl rfl) ?_
                refine VO.c (.move rfl) ?_
                refine VO.splitD (x := 85) rfl (fun g10_31 => ?_) (fun g10_31 => ?_)
                · refine VO.c (.move rfl) ?_
                  refine VO.c (.move rfl) ?_
                  refine VO.call rfl rfl (VF.call (rSame_ok (by first | assumption | omega | simp) (by first | assumption | omega | simp))) ?_
                  refine VO.c (.pickT rfl rfl) ?_
                  refine VO.c (.move rfl) ?_
                  refine VO.splitB (x := 90) rfl (fun g10_36 => ?_) (fun g10_36 => ?_)
                  · try simp only [Bool.and_eq_true, Bool.or_eq_true, Bool.and_eq_false_iff, Bool.or_eq_false_iff, Bool.not_eq_true', Bool.not_eq_false', decide_eq_true_eq, decide_eq_false_iff_not] at g10_36
                    refine VO.c (.move rfl) ?_
                    refine VO.c (.move rfl) ?_
                    refine VO.c (.eql) ?_
                    refine VO.c (.pickT rfl rfl) ?_
                    refine VO.c (.move rfl) ?_
                    refine VO.splitD (x := 95) rfl (fun g10_41 => ?_) (fun g10_41 => ?_)
                    · refine VO.call rfl rfl (VF.call (awakeC_ok )) ?_
                      refine VO.c (.pickT rfl rfl) ?_
                      refine VO.c (.assign rfl) ?_
                      refine VO.go ?_
                      refine VC.ret ?_
                      exact VEnd.one rfl evT (pvE (by rfl))
                    · exact absurd rfl g10_41
                  · try simp only [Bool.and_eq_true, Bool.or_eq_true, Bool.and_eq_false_iff, Bool.or_eq_false_iff, Bool.not_eq_true', Bool.not_eq_false', decide_eq_true_eq, decide_eq_false_iff_not] at g10_36
                    exact absurd f9 g10_36
                · exact absurd two_same g10_31
              · exact (no_beq f7 g10_26).elim
          · exact absurd rfl g10_15
        · try simp only [Bool.and_eq_true, Bool.or_eq_true, Bool.and_eq_false_iff, Bool.or_eq_false_iff, Bool.not_eq_true', Bool.not_eq_false', decide_eq_true_eq, decide_eq_false_iff_not] at g10_10
          exact absurd f5 g10_10
      · exact absurd rfl g10_5
    · have f5 : (if caseE c = 0 then validE c else []) = [] := if_neg c8
      have f9 : (if caseE c = 0 then openE c else []) = [] := if_neg c8
      have l5 : (if caseE c = 0 then validE c else []).length < 1000000 := by rw [f5]; exact Nat.zero_lt_succ _
      have l9 : (if caseE c = 0 then openE c else []).length < 1000000 := by rw [f9]; exact Nat.zero_lt_succ _
      refine VC.skip ?_
      show VC _ _ _ _ _ _ _ _
      refine VC.seq ?_
      refine VC.text ?_
      refine VO.r (.ld vt64) ?_
      refine VO.call rfl rfl (VF.call (lGiven_ok (by first | assumption | omega | simp))) ?_
      refine VO.call rfl rfl (VF.call (sCase_ok (by first | assumption | omega | simp))) ?_
      refine VO.c (.move rfl) ?_
      refine VO.c (.eql) ?_
      refine VO.c (.move rfl) ?_
      refine VO.splitD (x := 59) rfl (fun g10_5 => ?_) (fun g10_5 => ?_)
      · refine VO.c (.move rfl) ?_
        refine VO.c (.move rfl) ?_
        refine VO.callC rfl rfl .same (.cons .same (.cons .nil .nil)) rfl (VF.call (rSame_ok (by first | assumption | omega | simp) (by first | assumption | omega | simp))) ?_
        refine VO.c (.pickT rfl rfl) ?_
        refine VO.c (.move rfl) ?_
        refine VO.splitB (x := 64) rfl (fun g10_10 => ?_) (fun g10_10 => ?_)
        · try simp only [Bool.and_eq_true, Bool.or_eq_true, Bool.and_eq_false_iff, Bool.or_eq_false_iff, Bool.not_eq_true', Bool.not_eq_false', decide_eq_true_eq, decide_eq_false_iff_not] at g10_10
          refine VO.c (.move rfl) ?_
          refine VO.c (.move rfl) ?_
          refine VO.c (.eql) ?_
          refine VO.c (.pickT rfl rfl) ?_
          refine VO.c (.move rfl) ?_
          refine VO.splitD (x := 69) rfl (fun g10_15 => ?_) (fun g10_15 => ?_)
          · refine VO.c (.move rfl) ?_
            refine VO.c (.move rfl) ?_
            refine VO.c (.eql) ?_
            refine VO.c (.move rfl) ?_
            refine VO.splitD (x := 73) rfl (fun g10_19 => ?_) (fun g10_19 => ?_)
            · have hr := rTwo_ok g10_19
              have hkk := case_claims hr.1
              have hKK := (case_known hr.1).2
              have hn := hr.2
              have f7 : (if twoE c s = 0 then holdsE c s else false) = byR c (validR c) s := by
                rw [two_same, if_pos g10_19]
                show inM (byM c (validE c)) s = inM (byM c (validR c)) s
                rw [validE_R hr.1]
              refine VO.r (.ld vt64) ?_
              refine VO.c (.move rfl) ?_
              refine VO.call rfl rfl (VF.call (rHolds_ok (by first | assumption | omega | simp) (by first | assumption | omega | simp) (by first | assumption | omega | simp) (by first | assumption | omega | simp))) ?_
              refine VO.c (.pickT rfl rfl) ?_
              refine VO.c (.beql) ?_
              refine VO.c (.pickT rfl rfl) ?_
              refine VO.c (.move rfl) ?_
              refine VO.splitB (x := 80) rfl (fun g10_26 => ?_) (fun g10_26 => ?_)
              · refine VO.c (.move rfl) ?_
                refine VO.c (.move rfl) ?_
                refine VO.c (.eql) ?_
                refine VO.c (.pickT rfl rfl) ?_
                refine VO.c (.move rfl) ?_
                refine VO.splitD (x := 85) rfl (fun g10_31 => ?_) (fun g10_31 => ?_)
                · refine VO.c (.move rfl) ?_
                  refine VO.c (.move rfl) ?_
                  refine VO.callC rfl rfl .same (.cons .same (.cons .nil .nil)) rfl (VF.call (rSame_ok (by first | assumption | omega | simp) (by first | assumption | omega | simp))) ?_
                  refine VO.c (.pickT rfl rfl) ?_
                  refine VO.c (.move rfl) ?_
                  refine VO.splitB (x := 90) rfl (fun g10_36 => ?_) (fun g10_36 => ?_)
                  · try simp only [Bool.and_eq_true, Bool.or_eq_true, Bool.and_eq_false_iff, Bool.or_eq_false_iff, Bool.not_eq_true', Bool.not_eq_false', decide_eq_true_eq, decide_eq_false_iff_not] at g10_36
                    refine VO.c (.move rfl) ?_
                    refine VO.c (.move rfl) ?_
                    refine VO.c (.eql) ?_
                    refine VO.c (.pickT rfl rfl) ?_
                    refine VO.c (.move rfl) ?_
                    refine VO.splitD (x := 95) rfl (fun g10_41 => ?_) (fun g10_41 => ?_)
                    · refine VO.call rfl rfl (VF.call (awakeC_ok )) ?_
                      refine VO.c (.pickT rfl rfl) ?_
                      refine VO.c (.assign rfl) ?_
                      refine VO.go ?_
                      refine VC.ret ?_
                      exact VEnd.one rfl evT (pvE (by rfl))
                    · exact absurd rfl g10_41
                  · try simp only [Bool.and_eq_true, Bool.or_eq_true, Bool.and_eq_false_iff, Bool.or_eq_false_iff, Bool.not_eq_true', Bool.not_eq_false', decide_eq_true_eq, decide_eq_false_iff_not] at g10_36
                    exact absurd f9 g10_36
                · exact absurd two_same g10_31
              · exact (no_beq f7 g10_26).elim
            · have f7 : (if twoE c s = 0 then holdsE c s else false) = false := by rw [two_same, if_neg g10_19]
              refine VO.skip ?_
              refine VO.skip ?_
              refine VO.skip ?_
              refine VO.c (.pickF rfl rfl) ?_
              refine VO.c (.beql) ?_
              refine VO.c (.pickT rfl rfl) ?_
              refine VO.c (.move rfl) ?_
              refine VO.splitB (x := 80) rfl (fun g10_26 => ?_) (fun g10_26 => ?_)
              · refine VO.c (.move rfl) ?_
                refine VO.c (.move rfl) ?_
                refine VO.c (.eql) ?_
                refine VO.c (.pickT rfl rfl) ?_
                refine VO.c (.move rfl) ?_
                refine VO.splitD (x := 85) rfl (fun g10_31 => ?_) (fun g10_31 => ?_)
                · refine VO.c (.move rfl) ?_
                  refine VO.c (.move rfl) ?_
                  refine VO.callC rfl rfl .same (.cons .same (.cons .nil .nil)) rfl (VF.call (rSame_ok (by first | assumption | omega | simp) (by first | assumption | omega | simp))) ?_
                  refine VO.c (.pickT rfl rfl) ?_
                  refine VO.c (.move rfl) ?_
                  refine VO.splitB (x := 90) rfl (fun g10_36 => ?_) (fun g10_36 => ?_)
                  · try simp only [Bool.and_eq_true, Bool.or_eq_true, Bool.and_eq_false_iff, Bool.or_eq_false_iff, Bool.not_eq_true', Bool.not_eq_false', decide_eq_true_eq, decide_eq_false_iff_not] at g10_36
                    refine VO.c (.move rfl) ?_
                    refine VO.c (.move rfl) ?_
                    refine VO.c (.eql) ?_
                    refine VO.c (.pickT rfl rfl) ?_
                    refine VO.c (.move rfl) ?_
                    refine VO.splitD (x := 95) rfl (fun g10_41 => ?_) (fun g10_41 => ?_)
                    · refine VO.call rfl rfl (VF.call (awakeC_ok )) ?_
                      refine VO.c (.pickT rfl rfl) ?_
                      refine VO.c (.assign rfl) ?_
                      refine VO.go ?_
                      refine VC.ret ?_
                      exact VEnd.one rfl evT (pvE (by rfl))
                    · exact absurd rfl g10_41
                  · try simp only [Bool.and_eq_true, Bool.or_eq_true, Bool.and_eq_false_iff, Bool.or_eq_false_iff, Bool.not_eq_true', Bool.not_eq_false', decide_eq_true_eq, decide_eq_false_iff_not] at g10_36
                    exact absurd f9 g10_36
                · exact absurd two_same g10_31
              · exact (no_beq f7 g10_26).elim
          · exact absurd rfl g10_15
        · try simp only [Bool.and_eq_true, Bool.or_eq_true, Bool.and_eq_false_iff, Bool.or_eq_false_iff, Bool.not_eq_true', Bool.not_eq_false', decide_eq_true_eq, decide_eq_false_iff_not] at g10_10
          exact absurd f5 g10_10
      · exact absurd rfl g10_5
end Go.Proofs
namespace Go.Fs
open Go.RowKit (Below)
variable {P : Program}
def orcB (fi fj fc : FuncId) (T : TypeId) : FuncId → List Value → Heap → Option (Value × Heap) := fun f xs h =>
  bif Nat.beq f fc then
    match xs with
    | [.pointer (some ⟨b, 0, none⟩)] =>
      match h.get b with
      | some (.row e [p, v] true false) =>
        bif Nat.beq e T then
          match p with
          | .pointer none => some (.tuple #[], h.set b (.row e [.pointer (some ⟨b, 0, none⟩), v] true false))
          | .pointer (some ⟨b', 0, none⟩) => bif Nat.beq b' b then some (.tuple #[], h) else none
          | _ => none
        else none
      | _ => none
    | _ => none
  else orcS fi fj f xs h
theorem orcB_sound {B : Nat} {w0 : World} {fi fj fc : FuncId} {T : TypeId} (hS : CallSound P B w0 (orcS fi fj)) (hc : Enters P fc)
    (hF : ∀ (b : Nat) (w : World), w.cell? ⟨b, 0, none⟩ = some (.pointer none) → w.shape? b = some (T, 2) → w.frozen? ⟨b, 0, none⟩ = false →
      Calls P fc #[.pointer (some ⟨b, 0, none⟩)] w fun e w' => e = .returned (.tuple #[]) ∧ w' = w.setCell ⟨b, 0, none⟩ (.pointer (some ⟨b, 0, none⟩)))
    (hU : ∀ (b : Nat) (w : World), w.cell? ⟨b, 0, none⟩ = some (.pointer (some ⟨b, 0, none⟩)) → Calls P fc #[.pointer (some ⟨b, 0, none⟩)] w fun e w' => e = .returned (.tuple #[]) ∧ w' = w) :
    CallSound P B w0 (orcB fi fj fc T) := by
  intro f xs h v h' hf
  unfold orcB at hf
  cases hb : Nat.beq f fc with
  | false =>
    rw [hb] at hf
    exact hS f xs h v h' hf
  | true =>
    have := nbeq hb
    subst this
    rw [hb] at hf
    simp only [cond_true] at hf
    split at hf
    · rename_i b
      split at hf
      · rename_i e p u hg
        obtain ⟨he, hf2⟩ := bif_some hf
        obtain rfl := nbeq he
        refine ⟨hc, fun ρ S w args' hr ha nn => ?_⟩
        obtain ⟨hsb, cur, k1, k2, k3, k4, k5, k6, k7⟩ := hr.objs b _ hg
        have hcl : cur.length = 2 := (k6 rfl).symm
        match cur, hcl with
        | [p', u'], _ =>
        have hp : VR ρ S p p' := k7 0 (by simp)
        have hu : VR ρ S u u' := k7 1 (by simp)
        have hat : (ρ b).at 0 = ⟨(ρ b).block, 0, none⟩ := by unfold Loc.at; rw [k2]
        have harg : args' = [.pointer (some ⟨(ρ b).block, 0, none⟩)] := by
          have h1 := ha.1
          match args', h1 with
          | [a], _ =>
            have h2 : VR ρ S (.pointer (some ⟨b, 0, none⟩)) a := ha.2 0 (by simp)
            rw [h2.ptr_inv.2, hat]
        subst harg
        have hcell : w.cell? ⟨(ρ b).block, 0, none⟩ = some p' := by simp [World.cell?, k1]
        split at hf2
        · simp only [Option.some.injEq, Prod.mk.injEq] at hf2
          obtain ⟨rfl, rfl⟩ := hf2
          obtain rfl := hp.eq_of_af0 rfl
          have hC : CallsIn Fence.wide nn P f #[.pointer (some ⟨(ρ b).block, 0, none⟩)] w _ := callsIn_wide.2 (hF (ρ b).block w hcell (by simp [World.shape?, k1]) (by simp [World.frozen?, k1]))
          refine hC.mono fun e2 w' hret => ?_
          obtain ⟨rfl, rfl⟩ := hret
          refine ⟨ρ, Moved.set hr hg rfl rfl rfl rfl rfl (by simp [World.setCell]) (fun k hk => ?_) ?_, VR.tuple' LR.nil⟩
          · simp only [World.setCell, Array.getElem?_modify]
            rw [if_neg (fun e0 => hk e0.symm)]
          · refine ⟨[.pointer (some ⟨(ρ b).block, 0, none⟩), u'], ?_, k2, k3, k4, Nat.le_refl _, fun _ => rfl, fun i hi => ?_⟩
            · simp only [World.setCell, Array.getElem?_modify, if_pos rfl, k1]
              simp
            · match i, hi with
              | 0, _ => show VR ρ S (.pointer (some ⟨b, 0, none⟩)) (.pointer (some ⟨(ρ b).block, 0, none⟩)); rw [← hat]; exact .ptr b 0 hsb
              | 1, _ => exact hu
        · rename_i b'
          obtain ⟨hbb, hf3⟩ := bif_some hf2
          obtain rfl := nbeq hbb
          simp only [Option.some.injEq, Prod.mk.injEq] at hf3
          obtain ⟨rfl, rfl⟩ := hf3
          have hp2 := hp.ptr_inv.2
          rw [hat] at hp2
          subst hp2
          have hC : CallsIn Fence.wide nn P f #[.pointer (some ⟨(ρ b').block, 0, none⟩)] w _ := callsIn_wide.2 (hU (ρ b').block w hcell)
          refine hC.mono fun e2 w' hret => ?_
          obtain ⟨rfl, rfl⟩ := hret
          exact ⟨ρ, Moved.same hr, VR.tuple' LR.nil⟩
        · cases hf2
      · cases hf
    · cases hf
end Go.Fs
namespace Go.Fs
open Go.RowKit (Below)
variable {P : Program} {B : Nat} {w0 : World}

def fsStepX (P : Program) (orc : FuncId → List Value → Heap → Option (Value × Heap)) (rec : Rec) : Rec := fun rnd c fr h =>
  match c with
  | .region _ ops true => match drawnX P { next := h.next, low := h.next, objs := h.objs } (fsOp P (callOf P orc rec) (fsYield rec)) ops fr.n ⟨fr.t, { next := h.next, low := h.next, objs := h.objs }, [], [], 0, false⟩ with
    | some s => some (.normal, { t := s.t, n := fr.n, marks := fr.marks }, { next := s.h.next, low := min h.low s.h.low, objs := s.h.objs })
    | none => none
  | c => fsStep P orc rec rnd c fr h
def fsCodeX (P : Program) (orc : FuncId → List Value → Heap → Option (Value × Heap)) : Nat → Rec
  | 0 => fun _ _ _ _ => none
  | n + 1 => fsStepX P orc (fsCodeX P orc n)

theorem HR.low {ρ : Ren} {S : Nat → Prop} {h : Heap} {w : World} (hr : HR P ρ S B w0 h w) (l : Nat) : HR P ρ S B w0 { next := h.next, low := l, objs := h.objs } w :=
  { objs := hr.objs, inj := hr.inj, base := hr.base, ro := hr.ro, ids := hr.ids, pos := hr.pos, below := hr.below, size := hr.size }
theorem Moved.lowered {ρ ρ' : Ren} {S : Nat → Prop} {h h' : Heap} {w w' : World} {l : Nat} (m : Moved P B w0 ρ ρ' S { next := h.next, low := l, objs := h.objs } h' w w') :
    Moved P B w0 ρ ρ' S h { next := h'.next, low := min h.low h'.low, objs := h'.objs } w w' where
  agree := m.agree
  next := m.next
  hr := m.hr.low _
  frame := ⟨m.frame.os, m.frame.tape, m.frame.output, m.frame.size, m.frame.block⟩
  low := Nat.min_le_left _ _
  keep := fun i hi hl => m.keep i hi (Nat.lt_of_lt_of_le hl (Nat.min_le_right _ _))
  old := m.old
  fresh := fun i o ho hi => by
    obtain ⟨h1, h2⟩ := m.fresh i o ho hi
    refine ⟨h1, ?_⟩
    rcases h2 with h2 | ⟨j, oj, h3, h4, h5, h6, h7⟩
    · exact .inl h2
    · exact .inr ⟨j, oj, h3, h4, h5, Nat.le_trans (Nat.min_le_right _ _) h6, h7⟩
theorem stepX_sound (hP : ProgOk P) {orc : FuncId → List Value → Heap → Option (Value × Heap)} (horc : CallSound P B w0 orc) {m : Nat} {rec : Rec} (hrec : SoundR P B w0 m rec) : SoundR P B w0 (m + 1) (fsStepX P orc rec) := by
  have hcs : CallSnd P B w0 (callOf P orc rec) := call_sound hP horc hrec
  have hys : YieldSound P B w0 (fsYield rec) := yield_sound hrec
  have hold := step_sound hP horc hrec
  intro rnd c fr h e fr' h' hok hf
  cases c with
  | region id ops draw =>
    cases draw with
    | false => exact hold rnd _ fr h e fr' h' hok hf
    | true =>
      intro ρ S w a nn Q hr ht hm hs k
      simp only [fsStepX] at hf
      split at hf
      · rename_i s hrun
        simp only [Option.some.injEq, Prod.mk.injEq] at hf
        obtain ⟨rfl, rfl, rfl⟩ := hf
        refine wpIn_region_draw fun t => ?_
        rw [hP.mixed]
        exact drawn_wpX (h0 := { next := h.next, low := h.next, objs := h.objs }) (call := callOf P orc rec) (yield := fsYield rec) hcs hys hok hrun ((hr.drew _).low _) ht (fun ρ1 w1 a1 m1 ht1 hd1 => k _ _ _ ⟨(Moved.ofDrew m1).lowered, ht1, by rw [hd1]; exact hm.mono fun b hb => ⟨.inl hb, m1.agree b hb⟩⟩) t
      · cases hf
  | _ => exact hold rnd _ fr h e fr' h' hok hf

theorem codeX_sound (hP : ProgOk P) {orc : FuncId → List Value → Heap → Option (Value × Heap)} (horc : CallSound P B w0 orc) : ∀ m, SoundR P B w0 m (fsCodeX P orc m)
  | 0 => fun rnd c fr h e fr' h' _ hf => by cases hf
  | m + 1 => stepX_sound hP horc (codeX_sound hP horc m)
theorem fsX_calls (hP : ProgOk P) {orc : FuncId → List Value → Heap → Option (Value × Heap)} (horc : CallSound P B w0 orc) (m : Nat) : CallSound P B w0 (fsEnter P (fsCodeX P orc m)) := enter_sound hP (codeX_sound hP horc m)
theorem fsX_closed (hP : ProgOk P) {w : World} {orc : FuncId → List Value → Heap → Option (Value × Heap)} (horc : CallSound P w.heap.size w orc) {m : Nat} {f : FuncId} {args : List Value} {v : Value} (ha : args.all af = true)
    (hf : (fsEnter P (fsCodeX P orc m) f args ⟨1, 1, []⟩).map (·.1) = some v) (hv : af v = true) :
    Calls P f args.toArray w fun | .returned v', w' => v' = v ∧ Below w.heap.size w w' | _, _ => False := by
  obtain ⟨⟨v0, h0⟩, h1, h2⟩ := Option.map_eq_some_iff.1 hf
  simp only at h2
  subst h2
  have hr : HR P (fun _ => ⟨0, 0, 0, 0⟩) (fun _ => False) w.heap.size w ⟨1, 1, []⟩ w :=
    { objs := fun i o hi => (by cases hi), inj := fun i j oi oj hi => (by cases hi), base := fun i o hi => (by cases hi), ro := fun i o hi => (by cases hi), ids := fun b hb => hb.elim, pos := by decide,
      below := Below.refl _ _, size := Nat.le_refl _ }
  have hc := ((fsX_calls hP horc m) f args _ _ _ h1).2 _ _ w args hr ⟨rfl, fun i hi => .of_af (List.all_eq_true.1 ha _ (mem_getD hi))⟩ 0
  refine Calls.mono (callsIn_wide.1 hc) fun e w' he => ?_
  cases e with
  | returned v' =>
    obtain ⟨ρ', m1, hv1⟩ := he
    exact ⟨hv1.eq_of_af hv, m1.hr.below⟩
  | panicked c => exact he.elim
  | outgrown => exact he.elim
theorem awakeX_calls (hP : ProgOk P) {B : Nat} {w0 : World} {O : FuncId → List Value → Heap → Option (Value × Heap)} {fa : FuncId} (hS : ∀ w, Below B w0 w → CallSound P w.heap.size w O) {m : Nat}
    (hrun : (fsEnter P (fsCodeX P O m) fa [] ⟨1, 1, []⟩).map (·.1) = some (.bool true)) (w : World) (hw : Below B w0 w) :
    Calls P fa #[] w fun | .returned v', w' => v' = .bool true ∧ Below w.heap.size w w' | _, _ => False :=
  fsX_closed hP (hS w hw) (args := []) rfl hrun rfl
end Go.Fs
namespace Go.Fs
variable {P : Program} {orc : FuncId → List Value → Heap → Option (Value × Heap)}
def runPre (P : Program) (orc : FuncId → List Value → Heap → Option (Value × Heap)) : Nat → Nat → Code → Fr → Heap → Option (Nat × Code × Fr × Heap)
  | 0, n, c, fr, h => some (n, c, fr, h)
  | k + 1, n, c, fr, h => match n, c with
    | n + 1, .seq a b => match fsCodeX P orc n none a fr h with
      | some (.normal, fr1, h1) => runPre P orc k n b fr1 h1
      | _ => none
    | _, _ => none
theorem run_via : ∀ {k n : Nat} {c : Code} {fr : Fr} {h : Heap} {n' : Nat} {c' : Code} {fr' : Fr} {h' : Heap}, runPre P orc k n c fr h = some (n', c', fr', h') → fsCodeX P orc n none c fr h = fsCodeX P orc n' none c' fr' h'
  | 0, n, c, fr, h, n', c', fr', h', hr => by
    simp only [runPre, Option.some.injEq, Prod.mk.injEq] at hr
    obtain ⟨rfl, rfl, rfl, rfl⟩ := hr
    rfl
  | k + 1, n, c, fr, h, n', c', fr', h', hr => by
    simp only [runPre] at hr
    split at hr
    · rename_i n a b
      split at hr
      · rename_i fr1 h1 ha
        rw [← run_via hr]
        show fsStep P orc (fsCodeX P orc n) none (.seq a b) fr h = _
        simp only [fsStep, ha]
      · cases hr
    · cases hr
def endV (P : Program) (fn : Func) (h : Heap) (x : Ex × Fr × Heap) : Option Value :=
  bif x.1.goes then
    match dropMarks x.2.1.marks x.2.2 with
    | some h2 => (fsResults P x.2.1.t h2 fn.results.toList).map tupled
    | none => none
  else none
theorem enter_map {rec : Rec} {f : FuncId} {args : List Value} {h : Heap} {fn : Func} {c : Code} (hf : P.funcs[f]? = some fn) (hc : fn.body = some c) (hn : (Nat.blt 4000 fn.ntmps || Nat.blt fn.ntmps args.length) = false) :
    (fsEnter P rec f args h).map (·.1) = (rec none c ⟨fillTr .leaf 0 args, fn.ntmps, []⟩ { next := h.next, low := h.next, objs := h.objs }).bind (endV P fn h) := by
  unfold fsEnter fsEnterK endV
  simp only [hf, hc, hn, cond_false]
  cases rec none c ⟨fillTr .leaf 0 args, fn.ntmps, []⟩ { next := h.next, low := h.next, objs := h.objs } with
  | none => rfl
  | some x =>
    obtain ⟨e, fr, h1⟩ := x
    simp only [Option.bind_some]
    cases e.goes with
    | false => rfl
    | true =>
      simp only [cond_true]
      cases dropMarks fr.marks h1 with
      | none => rfl
      | some h2 =>
        simp only
        cases fsResults P fr.t h2 fn.results.toList with
        | none => rfl
        | some vs =>
          simp only [Option.map_some]
          generalize (!false && (af (tupled vs) && Nat.ble h.next h2.low)) = q
          cases q <;> rfl
def sufx : Nat → Code → Code
  | 0, c => c
  | k + 1, .seq _ b => sufx k b
  | _ + 1, c => c
def rfOf : Code → Option (Array Tmp × Code × Code)
  | .rangeFunc _ ps a b => some (ps, a, b)
  | .seq a b => (rfOf a).or (rfOf b)
  | .cond _ a b => (rfOf a).or (rfOf b)
  | .block _ b => rfOf b
  | .loop b => rfOf b
  | .scope b => rfOf b
  | _ => none
def rfIn (fn : Func) : Array Tmp × Code × Code := (fn.body.bind rfOf).getD (#[], .skip, .skip)
end Go.Fs
