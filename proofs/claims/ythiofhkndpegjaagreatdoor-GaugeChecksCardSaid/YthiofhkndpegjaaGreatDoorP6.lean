/- Parts of the proof: an evaluator of the model, what it is sound for, and contracts of functions. No condition. -/
import Derived.Test.YthiofhkndpegjaaGreatDoorP5
import Derived.Test.YthiofhkndpegjaaGreatDoorP3
import Derived.ChangeArms
import Derived.Carry
import Derived.RowKit
import Derived.OpenShut
import Derived.Test.YthiofhkndpegjaaGreatDoorP2
set_option linter.all false
namespace Go.Proofs
open Go.Fs Ieee
set_option linter.unusedVariables false
set_option maxHeartbeats 2000000
abbrev y53 : Ty := (.sl (.flt .f32))
abbrev y55 : Ty := (.pair .str (.pair (.int .i64) (.pair (.sl (.flt .f32)) (.sl (.pair (.int .i64) (.int .i64))))))
abbrev y65 : Ty := (.pair .str (.pair (.int .i64) (.pair (.sl (.flt .f32)) (.sl (.pair (.int .i64) (.int .i64))))))
theorem vt9 : ValT Tryz.prog 9 .str := valT_of (by kernel_rfl)
theorem vt22AP : ValT Tryz.prog 22 y22 := valT_of (by kernel_rfl)
theorem vt53 : ValT Tryz.prog 53 y53 := valT_of (by kernel_rfl)
theorem vt59 : ValT Tryz.prog 59 (.flt .f32) := valT_of (by kernel_rfl)
theorem el53 : ElT Tryz.prog 53 59 (.flt .f32) := elT_of (by kernel_rfl)
abbrev Rec1 := ByteArray × Int × List Nat × List (Int × Int)
def idxE {α : Type} (F : α → Bool) : List α → Int → Int
  | [], _ => -1
  | x :: l, k => if F x = true then k else idxE F l (k + 1)
theorem idxE_drop {α : Type} {F : α → Bool} {l : List α} {j : Nat} (hj : j < l.length) : idxE F (l.drop j) (j : Nat) = if F l[j] = true then ((j : Nat) : Int) else idxE F (l.drop (j + 1)) ((j + 1 : Nat) : Int) := by
  rw [List.drop_eq_getElem_cons hj] <;> rfl
theorem idxE_end {α : Type} {F : α → Bool} {l : List α} {j : Nat} {k : Int} (hj : l.length ≤ j) : idxE F (l.drop j) k = -1 := by rw [List.drop_eq_nil_of_le hj] <;> rfl
theorem idxE_any {α : Type} {F : α → Bool} : ∀ {l : List α} {k : Int}, 0 ≤ k → ((0 ≤ idxE F l k) ↔ l.any F = true)
  | [], k, _ => by simp [idxE]
  | x :: l, k, h => by
    unfold idxE
    rw [List.any_cons]
    by_cases hx : F x = true
    · rw [if_pos hx, hx]; simp [h]
    rw [if_neg hx, idxE_any (l := l) (by omega)]; simp [hx]
theorem zIndexFl_ok {F : Nat → Bool} {l : List Nat} {f : PV} (hl : l.length < 1000000) (hf : ∀ x ∈ l, VCall Tryz.prog OA f [.v (.flt .f32) x] (B (F x))) : VF Tryz.prog OA 137 [.v y53 l, f] (I (idxE F l 0)) := by
  refine VF.enter Tryz.func137 rfl (fun _ _ => rfl) rfl ?_
  show VC _ _ _ _ _ [(0, .v y53 l), (1, f)] [] _
  refine VC.seq (VC.text ?_)
  refine VO.c (.assign rfl) ?_
  refine VO.go (VC.seq (VC.seq (VC.text ?_)))
  refine VO.c (.move rfl) ?_
  refine VO.r (.len el53) ?_
  refine VO.c (.move rfl) ?_
  refine VO.go (VC.block ?_)
  refine VC.keep [(0, .v y53 l), (1, f), (7, I ((l.length : Nat) : Int)), (8, I ((0 : Nat) : Int))] ⟨rfl, rfl, rfl, rfl, trivial⟩ ?_
  refine VC.loop (I := fun kk ff ss => ∃ (j : Nat), kk = l.length - j ∧ ff = [(0, .v y53 l), (1, f), (7, I ((l.length : Nat) : Int)), (8, I ((j : Nat) : Int))] ∧ ss = [] ∧ (j ≤ l.length) ∧ (idxE F l 0 = idxE F (l.drop j) (j : Nat))) ?_ _ _ _ ⟨0, rfl, rfl, rfl, Nat.zero_le _, (by rfl)⟩
  rintro kk ff ss ⟨j, hk0, rfl, rfl, hj, hi⟩
  refine VC.seq (VC.text ?_)
  refine VO.c (.lss) ?_
  refine VO.go (VC.seq ?_)
  refine VC.condD rfl (fun c2 => ?_) (fun c2 => ?_)
  · refine VC.skip (VC.seq (VC.block (VC.seq (VC.text ?_))))
    refine VO.c (.move rfl) ?_
    refine VO.c (.assign rfl) ?_
    refine VO.go (VC.seq (VC.text ?_))
    refine VO.c (.move rfl) ?_
    refine VO.c (.move rfl) ?_
    refine VO.c (.move rfl) ?_
    refine VO.c (.ix (j := j) rfl rfl el53 (by omega)) ?_
    refine VO.r (.ld vt59) ?_
    refine VO.call rfl rfl ((hf _ (List.getElem_mem _)) ) ?_
    refine VO.go ?_
    refine VC.condB rfl (fun c4 => ?_) (fun c4 => ?_)
    · refine VC.seq (VC.text ?_)
      refine VO.c (.move rfl) ?_
      refine VO.c (.assign rfl) ?_
      refine VO.go ?_
      refine VC.ret ?_
      exact VEnd.one rfl evT (pvI (by rw [hi, idxE_drop (by omega), if_pos c4]))
    refine VC.skip (VC.text ?_)
    refine VO.c (.add rfl rfl (by omega)) ?_
    refine VO.c (.move rfl) ?_
    refine VO.nil ?_
    refine ⟨_, [(0, .v y53 l), (1, f), (7, I ((l.length : Nat) : Int)), (8, I (((j + 1) : Nat) : Int))], ?_, ⟨rfl, rfl, rfl, rfl, trivial⟩, (j + 1), rfl, rfl, rfl, (by omega), (by rw [hi, idxE_drop (by omega), if_neg (by rw [c4]; decide)])⟩
    omega
  refine VC.exit (VC.seq (VC.text ?_))
  refine VO.c (.assign rfl) ?_
  refine VO.go ?_
  refine VC.ret ?_
  exact VEnd.one rfl evT (pvI (by rw [hi, idxE_end (by omega)]))
theorem zContFl_ok {F : Nat → Bool} {l : List Nat} {f : PV} (hl : l.length < 1000000) (hf : ∀ x ∈ l, VCall Tryz.prog OA f [.v (.flt .f32) x] (B (F x))) : VF Tryz.prog OA 94 [.v y53 l, f] (B (l.any F)) := by
  refine VF.enter Tryz.func94 rfl (fun _ _ => rfl) rfl ?_
  show VC _ _ _ _ _ [(0, .v y53 l), (1, f)] [] _
  refine VC.seq (VC.text ?_)
  refine VO.c (.assign rfl) ?_
  refine VO.go (VC.seq (VC.text ?_))
  refine VO.c (.move rfl) ?_
  refine VO.c (.move rfl) ?_
  refine VO.call rfl rfl (VF.call (zIndexFl_ok (F := F) hl hf)) ?_
  refine VO.c (.geq) ?_
  refine VO.c (.assign rfl) ?_
  refine VO.go ?_
  refine VC.ret ?_
  exact VEnd.one rfl evT (pvE (by have h9 := idxE_any (F := F) (l := l) (k := 0) (by omega); cases h8 : l.any F <;> simp_all))
theorem zIndexSp_ok {F : Int × Int → Bool} {l : List (Int × Int)} {f : PV} (hl : l.length < 1000000) (hf : ∀ x ∈ l, VCall Tryz.prog OA f [.v y39 x] (B (F x))) : VF Tryz.prog OA 136 [.v y22 l, f] (I (idxE F l 0)) := by
  refine VF.enter Tryz.func136 rfl (fun _ _ => rfl) rfl ?_
  show VC _ _ _ _ _ [(0, .v y22 l), (1, f)] [] _
  refine VC.seq (VC.text ?_)
  refine VO.c (.assign rfl) ?_
  refine VO.go (VC.seq (VC.seq (VC.text ?_)))
  refine VO.c (.move rfl) ?_
  refine VO.r (.len el22) ?_
  refine VO.c (.move rfl) ?_
  refine VO.go (VC.block ?_)
  refine VC.keep [(0, .v y22 l), (1, f), (7, I ((l.length : Nat) : Int)), (8, I ((0 : Nat) : Int))] ⟨rfl, rfl, rfl, rfl, trivial⟩ ?_
  refine VC.loop (I := fun kk ff ss => ∃ (j : Nat), kk = l.length - j ∧ ff = [(0, .v y22 l), (1, f), (7, I ((l.length : Nat) : Int)), (8, I ((j : Nat) : Int))] ∧ ss = [] ∧ (j ≤ l.length) ∧ (idxE F l 0 = idxE F (l.drop j) (j : Nat))) ?_ _ _ _ ⟨0, rfl, rfl, rfl, Nat.zero_le _, (by rfl)⟩
  rintro kk ff ss ⟨j, hk0, rfl, rfl, hj, hi⟩
  refine VC.seq (VC.text ?_)
  refine VO.c (.lss) ?_
  refine VO.go (VC.seq ?_)
  refine VC.condD rfl (fun c2 => ?_) (fun c2 => ?_)
  · refine VC.skip (VC.seq (VC.block (VC.seq (VC.text ?_))))
    refine VO.c (.move rfl) ?_
    refine VO.c (.assign rfl) ?_
    refine VO.go (VC.seq (VC.text ?_))
    refine VO.c (.move rfl) ?_
    refine VO.c (.move rfl) ?_
    refine VO.c (.move rfl) ?_
    refine VO.c (.ix (j := j) rfl rfl el22 (by omega)) ?_
    refine VO.r (.ld vt39) ?_
    refine VO.call rfl rfl ((hf _ (List.getElem_mem _)) ) ?_
    refine VO.go ?_
    refine VC.condB rfl (fun c4 => ?_) (fun c4 => ?_)
    · refine VC.seq (VC.text ?_)
      refine VO.c (.move rfl) ?_
      refine VO.c (.assign rfl) ?_
      refine VO.go ?_
      refine VC.ret ?_
      exact VEnd.one rfl evT (pvI (by rw [hi, idxE_drop (by omega), if_pos c4]))
    refine VC.skip (VC.text ?_)
    refine VO.c (.add rfl rfl (by omega)) ?_
    refine VO.c (.move rfl) ?_
    refine VO.nil ?_
    refine ⟨_, [(0, .v y22 l), (1, f), (7, I ((l.length : Nat) : Int)), (8, I (((j + 1) : Nat) : Int))], ?_, ⟨rfl, rfl, rfl, rfl, trivial⟩, (j + 1), rfl, rfl, rfl, (by omega), (by rw [hi, idxE_drop (by omega), if_neg (by rw [c4]; decide)])⟩
    omega
  refine VC.exit (VC.seq (VC.text ?_))
  refine VO.c (.assign rfl) ?_
  refine VO.go ?_
  refine VC.ret ?_
  exact VEnd.one rfl evT (pvI (by rw [hi, idxE_end (by omega)]))
theorem zContSp_ok {F : Int × Int → Bool} {l : List (Int × Int)} {f : PV} (hl : l.length < 1000000) (hf : ∀ x ∈ l, VCall Tryz.prog OA f [.v y39 x] (B (F x))) : VF Tryz.prog OA 91 [.v y22 l, f] (B (l.any F)) := by
  refine VF.enter Tryz.func91 rfl (fun _ _ => rfl) rfl ?_
  show VC _ _ _ _ _ [(0, .v y22 l), (1, f)] [] _
  refine VC.seq (VC.text ?_)
  refine VO.c (.assign rfl) ?_
  refine VO.go (VC.seq (VC.text ?_))
  refine VO.c (.move rfl) ?_
  refine VO.c (.move rfl) ?_
  refine VO.call rfl rfl (VF.call (zIndexSp_ok (F := F) hl hf)) ?_
  refine VO.c (.geq) ?_
  refine VO.c (.assign rfl) ?_
  refine VO.go ?_
  refine VC.ret ?_
  exact VEnd.one rfl evT (pvE (by have h9 := idxE_any (F := F) (l := l) (k := 0) (by omega); cases h8 : l.any F <;> simp_all))
def lvlsE (l : List Nat) : Int := firstE (l.map lvlE)
theorem lvls_drop {l : List Nat} {j : Nat} (hj : j < l.length) : lvlsE (l.drop j) = if lvlE l[j] = 0 then lvlsE (l.drop (j + 1)) else lvlE l[j] := by
  unfold lvlsE
  rw [List.drop_eq_getElem_cons hj] <;> rfl
theorem lvls_end {l : List Nat} {j : Nat} (hj : l.length ≤ j) : lvlsE (l.drop j) = 0 := by rw [List.drop_eq_nil_of_le hj] <;> rfl
theorem gLvls_ok {l : List Nat} (hl : l.length < 1000000) : VF Tryz.prog OA 90 [.v y53 l] (I (lvlsE l)) := by
  refine VF.enter Tryz.func90 rfl (fun _ _ => rfl) rfl ?_
  show VC _ _ _ _ _ [(0, .v y53 l)] [] _
  refine VC.seq (VC.text ?_)
  refine VO.c (.assign rfl) ?_
  refine VO.go ?_
  refine VC.scope ?_
  refine VC.seq (VC.text ?_)
  refine VO.c (.assign rfl) ?_
  refine VO.go (VC.seq ?_)
  refine VC.label ?_
  refine VC.seq (VC.seq (VC.text ?_))
  refine VO.c (.move rfl) ?_
  refine VO.r (.len el53) ?_
  refine VO.c (.move rfl) ?_
  refine VO.go (VC.block ?_)
  refine VC.keep [(3, I 0), (6, .v y53 l), (7, I ((l.length : Nat) : Int)), (8, I ((0 : Nat) : Int))] ⟨rfl, rfl, rfl, rfl, trivial⟩ ?_
  refine VC.loop (I := fun kk ff ss => ∃ (j : Nat), kk = l.length - j ∧ ff = [(3, I 0), (6, .v y53 l), (7, I ((l.length : Nat) : Int)), (8, I ((j : Nat) : Int))] ∧ ss = [] ∧ (j ≤ l.length) ∧ (lvlsE l = lvlsE (l.drop j))) ?_ _ _ _ ⟨0, rfl, rfl, rfl, Nat.zero_le _, (by rfl)⟩
  rintro kk ff ss ⟨j, hk0, rfl, rfl, hj, hf⟩
  refine VC.seq (VC.text ?_)
  refine VO.c (.lss) ?_
  refine VO.go (VC.seq ?_)
  refine VC.condD rfl (fun c3 => ?_) (fun c3 => ?_)
  · refine VC.skip (VC.seq (VC.block (VC.seq (VC.text ?_))))
    refine VO.c (.ix (j := j) rfl rfl el53 (by omega)) ?_
    refine VO.r (.ld vt59) ?_
    refine VO.c (.assign rfl) ?_
    refine VO.go (VC.seq (VC.text ?_))
    refine VO.c (.move rfl) ?_
    refine VO.call rfl rfl (VF.call (gLv_ok )) ?_
    refine VO.c (.assign rfl) ?_
    refine VO.go (VC.seq (VC.text ?_))
    refine VO.c (.move rfl) ?_
    refine VO.c (.neq) ?_
    refine VO.go ?_
    refine VC.condD rfl (fun c6 => ?_) (fun c6 => ?_)
    · refine VC.exit (VC.seq (VC.text ?_))
      refine VO.c (.move rfl) ?_
      refine VO.c (.assign rfl) ?_
      refine VO.go ?_
      refine VC.ret ?_
      exact VEnd.one rfl evT (pvI (by first | (rw [hf, lvls_drop (by omega), if_neg c6]; done) | rw [hf, lvls_end (by omega)]))
    refine VC.skip (VC.text ?_)
    refine VO.c (.add rfl rfl (by omega)) ?_
    refine VO.c (.move rfl) ?_
    refine VO.nil ?_
    refine ⟨_, [(3, I 0), (6, .v y53 l), (7, I ((l.length : Nat) : Int)), (8, I (((j + 1) : Nat) : Int))], ?_, ⟨slI rfl (by simpa using c6), rfl, rfl, rfl, trivial⟩, (j + 1), rfl, rfl, rfl, (by omega), (by rw [hf, lvls_drop (by omega), if_pos (by simpa using c6)])⟩
    omega
  refine VC.exit (VC.seq (VC.text ?_))
  refine VO.c (.move rfl) ?_
  refine VO.c (.assign rfl) ?_
  refine VO.go ?_
  refine VC.ret ?_
  exact VEnd.one rfl evT (pvI (by first | (rw [hf, lvls_drop (by omega), if_neg c6]; done) | rw [hf, lvls_end (by omega)]))
def nzE (x : Nat) : Bool := fcmpE .neq .f32 x 0
def beyB (r : Rec1) : Bool := r.2.2.2.any fun s => decide ((r.2.2.1.length : Int) < s.2)
def fillB (r : Rec1) : Bool := r.2.2.2.any fun s => ((r.2.2.1.take s.2.toNat).drop s.1.toNat).any nzE
def headE (r : Rec1) : Int := firstE [whenE (!nameB r.1) 8, rangeE r.2.1 0 100000, whenE (decide ((4096 : Int) < (r.2.2.1.length : Nat))) 5]
def bodyE (r : Rec1) : Int := firstE [lvlsE r.2.2.1, spansE r.2.2.2]
def recE (r : Rec1) : Int := if headE r ≠ 0 then headE r else if bodyE r ≠ 0 then bodyE r else if beyB r = true then 14 else whenE (fillB r) 1
theorem gRec1_ok {s : Int × Int} {r : ByteArray × Int × (List Nat) × (List (Int × Int))} : VF Tryz.prog OA 92 [.v y39 s, .p y65 r] (B (decide ((r.2.2.1.length : Int) < s.2))) := by
  refine VF.enter Tryz.func92 rfl (fun _ _ => rfl) rfl ?_
  show VC _ _ _ _ _ [(0, .v y39 s), (1, .p y65 r)] [] _
  refine VC.seq (VC.text ?_)
  refine VO.new (.box) ?_
  refine VO.c (.assign rfl) ?_
  refine VO.go (VC.seq (VC.text ?_))
  refine VO.c (.fa (.r .o)) ?_
  refine VO.r (.ld vt3) ?_
  refine VO.c (.fa (.r (.r (.l .o)))) ?_
  refine VO.r (.ld vt53) ?_
  refine VO.r (.len el53) ?_
  refine VO.c (.gtr) ?_
  refine VO.c (.assign rfl) ?_
  refine VO.go ?_
  refine VC.ret ?_
  exact VEnd.one rfl evT (pvE (by rfl))
theorem gRec21_ok {x : Nat} : VF Tryz.prog OA 95 [.v (.flt .f32) x] (B (nzE x)) := by
  refine VF.enter Tryz.func95 rfl (fun _ _ => rfl) rfl ?_
  show VC _ _ _ _ _ [(0, .v (.flt .f32) x)] [] _
  refine VC.seq (VC.text ?_)
  refine VO.c (.assign rfl) ?_
  refine VO.go (VC.seq (VC.text ?_))
  refine VO.c (.move rfl) ?_
  refine VO.c (.fcmp .neq) ?_
  refine VO.c (.assign rfl) ?_
  refine VO.go ?_
  refine VC.ret ?_
  exact VEnd.one rfl evT (pvE (by rfl))
theorem gRec2_ok {s : Int × Int} {r : ByteArray × Int × (List Nat) × (List (Int × Int))} (hs : 0 ≤ s.1 ∧ s.1 ≤ s.2 ∧ s.2 ≤ (r.2.2.1.length : Nat)) (hl : r.2.2.1.length < 1000000) : VF Tryz.prog OA 93 [.v y39 s, .p y65 r] (B (((r.2.2.1.take s.2.toNat).drop s.1.toNat).any nzE)) := by
  refine VF.enter Tryz.func93 rfl (fun _ _ => rfl) rfl ?_
  show VC _ _ _ _ _ [(0, .v y39 s), (1, .p y65 r)] [] _
  refine VC.seq (VC.text ?_)
  refine VO.new (.box) ?_
  refine VO.c (.assign rfl) ?_
  refine VO.go (VC.seq (VC.text ?_))
  refine VO.c (.fa (.r (.r (.l .o)))) ?_
  refine VO.r (.ld vt53) ?_
  refine VO.c (.fa (.l .o)) ?_
  refine VO.r (.ld vt3) ?_
  refine VO.c (.fa (.r .o)) ?_
  refine VO.r (.ld vt3) ?_
  refine VO.r (.cut rfl rfl rfl el53 (by exact hs)) ?_
  refine VO.call rfl rfl (VF.call (zContFl_ok (F := nzE) (by simp; omega) (fun _ _ => VF.call gRec21_ok))) ?_
  refine VO.c (.assign rfl) ?_
  refine VO.go ?_
  refine VC.ret ?_
  exact VEnd.one rfl evT (pvE (by rfl))
theorem bey_f {r : Rec1} (h : beyB r = false) : ∀ s ∈ r.2.2.2, s.2 ≤ (r.2.2.1.length : Nat) := fun s hs => by
  have := List.any_eq_false.1 h s hs
  simp at this
  omega
theorem bodyE_zero {r : Rec1} : bodyE r = 0 ↔ lvlsE r.2.2.1 = 0 ∧ spansE r.2.2.2 = 0 := by
  unfold bodyE
  rw [firstE_zero]; simp
theorem gRec_ok {r : ByteArray × Int × (List Nat) × (List (Int × Int))} (hl : r.2.2.1.length < 1000000) (hg : r.2.2.2.length < 1000000) : VF Tryz.prog OA 43 [.v y65 r] (I (recE r)) := by
  refine VF.enter Tryz.func43 rfl (fun _ _ => rfl) rfl ?_
  show VC _ _ _ _ _ [(0, .v y65 r)] [] _
  refine VC.seq (VC.text ?_)
  refine VO.new (.box) ?_
  refine VO.c (.assign rfl) ?_
  refine VO.go (VC.seq (VC.seq (VC.drawn ?_)))
  refine VD.c (.fa (.l .o)) ?_
  refine VD.r [] (.ld vt9) (.inl rfl) ?_
  refine VD.call rfl rfl (VF.call (gName_ok )) ?_
  refine VD.c (.not) ?_
  refine VD.call rfl rfl (VF.call (gWhen_ok )) ?_
  refine VD.c (.fa (.r (.l .o))) ?_
  refine VD.nw [] ?_
  refine VD.r [] (.ld vt3) (.inl rfl) ?_
  refine VD.call rfl rfl (VF.call (gWithin_ok )) ?_
  refine VD.c (.fa (.r (.r (.l .o)))) ?_
  refine VD.r [] (.ld vt53) (.inl rfl) ?_
  refine VD.r [] (.len el53) (.inl rfl) ?_
  refine VD.c (.gtr) ?_
  refine VD.call rfl rfl (VF.call (gWhen_ok )) ?_
  refine VD.nw [] ?_
  refine VD.new (.lit [whenE (!(nameB r.1)) (8 : Int), rangeE r.2.1 (0 : Int) (100000 : Int), whenE (decide ((4096 : Int) < ((r.2.2.1.length : Nat) : Int))) (5 : Int)] el164) ?_
  refine VD.callO rfl rfl (VF.call (gFirst_ok (by first | assumption | omega | simp))) ?_
  rw [show firstE [whenE (!nameB r.1) 8, rangeE r.2.1 0 100000, whenE (decide ((4096 : Int) < (r.2.2.1.length : Nat))) 5] = headE r from rfl]
  refine VD.c (.assign rfl) ?_
  refine VD.go (VC.seq (VC.text ?_))
  refine VO.c (.move rfl) ?_
  refine VO.c (.neq) ?_
  refine VO.go ?_
  refine VC.condD rfl (fun c2 => ?_) (fun c2 => ?_)
  · refine VC.seq (VC.text ?_)
    refine VO.c (.move rfl) ?_
    refine VO.c (.assign rfl) ?_
    refine VO.go ?_
    refine VC.ret ?_
    exact VEnd.one rfl evT (pvI (by rw [recE, if_pos c2]))
  refine VC.skip (VC.seq (VC.seq (VC.drawn ?_)))
  refine VD.c (.fa (.r (.r (.l .o)))) ?_
  refine VD.r [] (.ld vt53) (.inl rfl) ?_
  refine VD.call rfl rfl (VF.call (gLvls_ok (by first | assumption | omega | simp))) ?_
  refine VD.c (.fa (.r (.r (.r .o)))) ?_
  refine VD.r [] (.ld vt22AP) (.inl rfl) ?_
  refine VD.call rfl rfl (VF.call (gSpans_ok (by first | assumption | omega | simp))) ?_
  refine VD.nw [] ?_
  refine VD.new (.lit [lvlsE r.2.2.1, spansE r.2.2.2] el164) ?_
  refine VD.callO rfl rfl (VF.call (gFirst_ok (by first | assumption | omega | simp))) ?_
  rw [show firstE [lvlsE r.2.2.1, spansE r.2.2.2] = bodyE r from rfl]
  refine VD.c (.assign rfl) ?_
  refine VD.go (VC.seq (VC.text ?_))
  refine VO.c (.move rfl) ?_
  refine VO.c (.neq) ?_
  refine VO.go ?_
  refine VC.condD rfl (fun c5 => ?_) (fun c5 => ?_)
  · refine VC.seq ?_
    refine VC.keep [(1, .p y65 r), (4, I (bodyE r))] ⟨rfl, rfl, trivial⟩ ?_
    refine VC.text ?_
    refine VO.c (.move rfl) ?_
    refine VO.c (.assign rfl) ?_
    refine VO.go ?_
    refine VC.ret ?_
    exact VEnd.one rfl evT (pvI (by rw [recE, if_neg c2, if_pos c5]))
  have hb0 := bodyE_zero.1 (Classical.not_not.1 c5)
  have hcan := (spans_canon hb0.2).1.1
  refine VC.skip (VC.seq ?_)
  refine VC.keep [(1, .p y65 r)] ⟨rfl, trivial⟩ ?_
  refine VC.text ?_
  refine VO.c (.fa (.r (.r (.r .o)))) ?_
  refine VO.r (.ld vt22AP) ?_
  refine VO.c (.func) ?_
  refine VO.call rfl rfl (VF.call (zContSp_ok (F := fun s => decide ((r.2.2.1.length : Int) < s.2)) hg (fun _ _ => VF.clo gRec1_ok))) ?_
  rw [show (r.2.2.2.any fun s => decide ((r.2.2.1.length : Int) < s.2)) = beyB r from rfl]
  refine VO.c (.assign rfl) ?_
  refine VO.go (VC.seq (VC.seq (VC.text ?_)))
  refine VO.c (.move rfl) ?_
  refine VO.go ?_
  refine VC.condB rfl (fun c8 => ?_) (fun c8 => ?_)
  · refine VC.seq (VC.text ?_)
    refine VO.c (.assign rfl) ?_
    refine VO.go ?_
    refine VC.ret ?_
    exact VEnd.one rfl evT (pvI (by rw [recE, if_neg c2, if_neg c5, if_pos c8]))
  have hbf := bey_f c8
  have hsp : ∀ s ∈ r.2.2.2, 0 ≤ s.1 ∧ s.1 ≤ s.2 ∧ s.2 ≤ (r.2.2.1.length : Nat) := fun s hs => by have := hcan s hs; have := hbf s hs; omega
  refine VC.skip (VC.seq (VC.text ?_))
  refine VO.c (.fa (.r (.r (.r .o)))) ?_
  refine VO.r (.ld vt22AP) ?_
  refine VO.c (.func) ?_
  refine VO.call rfl rfl (VF.call (zContSp_ok (F := fun s => ((r.2.2.1.take s.2.toNat).drop s.1.toNat).any nzE) hg (fun s hs => VF.clo (gRec2_ok (hsp s hs) hl)))) ?_
  refine VO.c (.assign rfl) ?_
  refine VO.go (VC.seq (VC.text ?_))
  refine VO.c (.move rfl) ?_
  refine VO.call rfl rfl (VF.call (gWhen_ok )) ?_
  refine VO.c (.assign rfl) ?_
  refine VO.go ?_
  refine VC.ret ?_
  exact VEnd.one rfl evT (pvI (by rw [recE, if_neg c2, if_neg c5, if_neg (by rw [c8]; decide)] <;> rfl))
theorem head_two {r : Rec1} : headE r = if firstE [whenE (!nameB r.1) 8, rangeE r.2.1 0 100000] = 0 then whenE (decide ((4096 : Int) < (r.2.2.1.length : Nat))) 5 else firstE [whenE (!nameB r.1) 8, rangeE r.2.1 0 100000] := by
  unfold headE
  show (if _ = 0 then (if _ = 0 then (if _ = 0 then 0 else _) else _) else _) = if (if _ = 0 then (if _ = 0 then 0 else _) else _) = 0 then _ else (if _ = 0 then (if _ = 0 then 0 else _) else _)
  split
  · split
    · rw [if_pos rfl]
      split
      · rename_i h; exact h.symm
      rfl
    rename_i h; first | rfl | (rw [if_neg h]; done)
  rename_i h; first | rfl | (rw [if_neg h]; done)
theorem body_lv {r : Rec1} (h : lvlsE r.2.2.1 ≠ 0) : bodyE r = lvlsE r.2.2.1 := by
  unfold bodyE
  show (if _ = 0 then _ else _) = _
  rw [if_neg h]
theorem body_sp {r : Rec1} (h : lvlsE r.2.2.1 = 0) : bodyE r = spansE r.2.2.2 := by
  unfold bodyE
  show (if _ = 0 then (if _ = 0 then 0 else _) else _) = _
  rw [if_pos h]
  split
  · rename_i h2; exact h2.symm
  rfl
theorem fill_t {r : Rec1} (hsp : ∀ s ∈ r.2.2.2, 0 ≤ s.1 ∧ s.1 ≤ s.2 ∧ s.2 ≤ (r.2.2.1.length : Nat)) {i : Nat} (hi : i < r.2.2.1.length) (h1 : nzE r.2.2.1[i] = true) (h2 : Sp.inL r.2.2.2 i = true) : fillB r = true := by
  obtain ⟨s, hs, h3⟩ := List.any_eq_true.1 h2
  simp only [Bool.and_eq_true, decide_eq_true_eq] at h3
  have h4 := hsp s hs
  refine List.any_eq_true.2 ⟨s, hs, List.any_eq_true.2 ⟨r.2.2.1[i], ?_, h1⟩⟩
  refine List.mem_iff_getElem.2 ⟨i - s.1.toNat, by rw [List.length_drop, List.length_take]; omega, ?_⟩
  rw [List.getElem_drop, List.getElem_take]
  simp only [show s.1.toNat + (i - s.1.toNat) = i by omega]
theorem fill_f {r : Rec1} (h : ∀ i (hi : i < r.2.2.1.length), ¬ (nzE r.2.2.1[i] = true ∧ Sp.inL r.2.2.2 i = true)) (hsp : ∀ s ∈ r.2.2.2, 0 ≤ s.1 ∧ s.1 ≤ s.2 ∧ s.2 ≤ (r.2.2.1.length : Nat)) : fillB r = false := by
  refine List.any_eq_false.2 fun s hs => ?_
  rw [Bool.not_eq_true]
  refine List.any_eq_false.2 fun x hx => ?_
  obtain ⟨k, hk, rfl⟩ := List.mem_iff_getElem.1 hx
  rw [List.length_drop, List.length_take] at hk
  rw [List.getElem_drop, List.getElem_take]
  have h4 := hsp s hs
  intro h1
  refine h (s.1.toNat + k) (by omega) ⟨h1, List.any_eq_true.2 ⟨s, hs, ?_⟩⟩
  simp only [Bool.and_eq_true, decide_eq_true_eq]
  omega
theorem rRec_ok {r : ByteArray × Int × (List Nat) × (List (Int × Int))} (hl : r.2.2.1.length < 1000000) (hg : r.2.2.2.length < 1000000) : VF Tryz.prog OA 45 [.v y55 r] (I (recE r)) := by
  refine VF.enter Tryz.func45 rfl (fun _ _ => rfl) rfl ?_
  show VC _ _ _ _ _ [(0, .v y55 r)] [] _
  refine VC.seq (VC.text ?_)
  refine VO.new (.box) ?_
  refine VO.c (.assign rfl) ?_
  refine VO.go (VC.seq (VC.seq (VC.drawn ?_)))
  refine VD.c (.fa (.l .o)) ?_
  refine VD.r [] (.ld vt9) (.inl rfl) ?_
  refine VD.call rfl rfl (VF.call (rNameE_ok )) ?_
  refine VD.c (.fa (.r (.l .o))) ?_
  refine VD.r [] (.ld vt3) (.inl rfl) ?_
  refine VD.call rfl rfl (VF.call (rCheckRange_ok )) ?_
  refine VD.nw [] ?_
  refine VD.new (.lit [whenE (!nameB r.1) 8, rangeE r.2.1 (0 : Int) (100000 : Int)] el37) ?_
  refine VD.callO rfl rfl (VF.call (rFirst_ok (by first | assumption | omega | simp))) ?_
  refine VD.c (.assign rfl) ?_
  refine VD.go (VC.seq (VC.text ?_))
  refine VO.c (.move rfl) ?_
  refine VO.c (.neq) ?_
  refine VO.go ?_
  refine VC.condD rfl (fun c2 => ?_) (fun c2 => ?_)
  · refine VC.seq (VC.text ?_)
    refine VO.c (.move rfl) ?_
    refine VO.c (.assign rfl) ?_
    refine VO.go ?_
    refine VC.ret ?_
    exact VEnd.one rfl evT (pvI (by rw [recE, head_two, if_neg c2, if_pos c2]))
  have ha0 := Classical.not_not.1 c2
  refine VC.skip (VC.seq (VC.seq (VC.text ?_)))
  refine VO.c (.fa (.r (.r (.l .o)))) ?_
  refine VO.r (.ld vt53) ?_
  refine VO.r (.len el53) ?_
  refine VO.c (.gtr) ?_
  refine VO.go ?_
  refine VC.condD rfl (fun c4 => ?_) (fun c4 => ?_)
  · refine VC.seq (VC.text ?_)
    refine VO.c (.assign rfl) ?_
    refine VO.go ?_
    refine VC.ret ?_
    exact VEnd.one rfl evT (pvI (by rw [recE, head_two, if_pos ha0, decide_eq_true c4] <;> rfl))
  have hh : headE r = 0 := by rw [head_two, if_pos ha0, decide_eq_false c4] <;> rfl
  refine VC.skip (VC.seq (VC.seq (VC.text ?_)))
  refine VO.c (.assign rfl) ?_
  refine VO.go (VC.block ?_)
  refine VC.keep [(1, .p y55 r), (4, I ((0 : Nat) : Int))] ⟨rfl, rfl, trivial⟩ ?_
  refine VC.loop (I := fun kk ff ss => ∃ (j : Nat), kk = r.2.2.1.length - j ∧ ff = [(1, .p y55 r), (4, I ((j : Nat) : Int))] ∧ ss = [] ∧ (j ≤ r.2.2.1.length) ∧ (lvlsE r.2.2.1 = lvlsE (r.2.2.1.drop j))) ?_ _ _ _ ⟨0, rfl, rfl, rfl, Nat.zero_le _, (by rfl)⟩
  rintro kk ff ss ⟨j, hk0, rfl, rfl, hj, hf⟩
  refine VC.seq (VC.seq (VC.text ?_))
  refine VO.c (.move rfl) ?_
  refine VO.c (.fa (.r (.r (.l .o)))) ?_
  refine VO.r (.ld vt53) ?_
  refine VO.r (.len el53) ?_
  refine VO.c (.lss) ?_
  refine VO.go ?_
  refine VC.condD rfl (fun c7 => ?_) (fun c7 => ?_)
  · refine VC.skip (VC.seq (VC.block (VC.seq (VC.text ?_))))
    refine VO.c (.fa (.r (.r (.l .o)))) ?_
    refine VO.r (.ld vt53) ?_
    refine VO.c (.move rfl) ?_
    refine VO.c (.ix (j := j) rfl rfl el53 (by omega)) ?_
    refine VO.r (.ld vt59) ?_
    refine VO.call rfl rfl (VF.call (rLv_ok )) ?_
    refine VO.c (.assign rfl) ?_
    refine VO.go (VC.seq (VC.text ?_))
    refine VO.c (.move rfl) ?_
    refine VO.c (.neq) ?_
    refine VO.go ?_
    refine VC.condD rfl (fun c10 => ?_) (fun c10 => ?_)
    · refine VC.seq (VC.text ?_)
      refine VO.c (.move rfl) ?_
      refine VO.c (.assign rfl) ?_
      refine VO.go ?_
      refine VC.ret ?_
      exact VEnd.one rfl evT (pvI (by rw [recE, if_neg (fun h => h hh), body_lv (by rw [hf, lvls_drop (by omega), if_neg c10]; exact c10), hf, lvls_drop (by omega), if_neg c10, if_pos c10]))
    refine VC.skip (VC.text ?_)
    refine VO.c (.move rfl) ?_
    refine VO.c (.add rfl rfl (by omega)) ?_
    refine VO.c (.assign rfl) ?_
    refine VO.nil ?_
    refine ⟨_, [(1, .p y55 r), (4, I (((j + 1) : Nat) : Int))], ?_, ⟨rfl, rfl, trivial⟩, (j + 1), rfl, rfl, rfl, (by omega), (by rw [hf, lvls_drop (by omega), if_pos (by simpa using c10)])⟩
    omega
  have hlv : lvlsE r.2.2.1 = 0 := by rw [hf, lvls_end (by omega)]
  refine VC.exit (VC.seq (VC.seq (VC.text ?_)))
  refine VO.c (.fa (.r (.r (.r .o)))) ?_
  refine VO.r (.ld vt22AP) ?_
  refine VO.call rfl rfl (VF.call (rSpans_ok (by first | assumption | omega | simp))) ?_
  refine VO.c (.assign rfl) ?_
  refine VO.go (VC.seq (VC.text ?_))
  refine VO.c (.move rfl) ?_
  refine VO.c (.neq) ?_
  refine VO.go ?_
  refine VC.condD rfl (fun c13 => ?_) (fun c13 => ?_)
  · refine VC.seq (VC.text ?_)
    refine VO.c (.move rfl) ?_
    refine VO.c (.assign rfl) ?_
    refine VO.go ?_
    refine VC.ret ?_
    exact VEnd.one rfl evT (pvI (by rw [recE, if_neg (fun h => h hh), body_sp hlv, if_pos c13]))
  have hs0 := Classical.not_not.1 c13
  have hb0 : bodyE r = 0 := bodyE_zero.2 ⟨hlv, hs0⟩
  have hcan := (spans_canon hs0).1.1
  refine VC.skip (VC.seq (VC.seq (VC.text ?_)))
  refine VO.c (.assign rfl) ?_
  refine VO.go (VC.block ?_)
  refine VC.keep [(1, .p y55 r), (7, I ((0 : Nat) : Int))] ⟨rfl, rfl, trivial⟩ ?_
  refine VC.loop (I := fun kk ff ss => ∃ (k : Nat), kk = r.2.2.2.length - k ∧ ff = [(1, .p y55 r), (7, I ((k : Nat) : Int))] ∧ ss = [] ∧ (k ≤ r.2.2.2.length) ∧ (∀ q (h : q < r.2.2.2.length), q < k → ¬ (r.2.2.1.length : Int) < r.2.2.2[q].2)) ?_ _ _ _ ⟨0, rfl, rfl, rfl, Nat.zero_le _, (by exact fun q _ h => absurd h (by omega))⟩
  rintro kk ff ss ⟨k, hk2, rfl, rfl, hk, hi⟩
  refine VC.seq (VC.seq (VC.text ?_))
  refine VO.c (.move rfl) ?_
  refine VO.c (.fa (.r (.r (.r .o)))) ?_
  refine VO.r (.ld vt22AP) ?_
  refine VO.r (.len el22) ?_
  refine VO.c (.lss) ?_
  refine VO.go ?_
  refine VC.condD rfl (fun c16 => ?_) (fun c16 => ?_)
  · refine VC.skip (VC.seq (VC.block (VC.seq (VC.drawn ?_))))
    refine VD.c (.fa (.r (.r (.r .o)))) ?_
    refine VD.r [] (.ld vt22AP) (.inl rfl) ?_
    refine VD.c (.move rfl) ?_
    refine VD.c (.ix (j := k) rfl rfl el22 (by omega)) ?_
    refine VD.c (.fa (.r .o)) ?_
    refine VD.r [] (.ld vt3) (.inl rfl) ?_
    refine VD.nw [] ?_
    refine VD.c (.fa (.r (.r (.l .o)))) ?_
    refine VD.r [] (.ld vt53) (.inl rfl) ?_
    refine VD.r [] (.len el53) (.inl rfl) ?_
    refine VD.c (.gtr) ?_
    refine VD.go ?_
    refine VC.condD rfl (fun c18 => ?_) (fun c18 => ?_)
    · refine VC.seq (VC.text ?_)
      refine VO.c (.assign rfl) ?_
      refine VO.go ?_
      refine VC.ret ?_
      exact VEnd.one rfl evT (pvI (by rw [recE, if_neg (fun h => h hh), if_neg (fun h => h hb0), if_pos (show beyB r = true from List.any_eq_true.2 ⟨_, List.getElem_mem (show k < r.2.2.2.length by omega), decide_eq_true c18⟩)]))
    refine VC.skip (VC.text ?_)
    refine VO.c (.move rfl) ?_
    refine VO.c (.add rfl rfl (by omega)) ?_
    refine VO.c (.assign rfl) ?_
    refine VO.nil ?_
    refine ⟨_, [(1, .p y55 r), (7, I (((k + 1) : Nat) : Int))], ?_, ⟨rfl, rfl, trivial⟩, (k + 1), rfl, rfl, rfl, (by omega), (by exact fun q h h3 => if e : q = k then (by subst e; exact c18) else hi q h (by omega))⟩
    omega
  have hbe : beyB r = false := List.any_eq_false.2 fun s hs => by
    obtain ⟨q, hq, rfl⟩ := List.mem_iff_getElem.1 hs
    simpa using hi q hq (by omega)
  have hbf := bey_f hbe
  have hsp : ∀ s ∈ r.2.2.2, 0 ≤ s.1 ∧ s.1 ≤ s.2 ∧ s.2 ≤ (r.2.2.1.length : Nat) := fun s hs => by have := hcan s hs; have := hbf s hs; omega
  refine VC.exit (VC.seq (VC.seq (VC.text ?_)))
  refine VO.c (.assign rfl) ?_
  refine VO.go (VC.block ?_)
  refine VC.keep [(1, .p y55 r), (8, I ((0 : Nat) : Int))] ⟨rfl, rfl, trivial⟩ ?_
  refine VC.loop (I := fun kk ff ss => ∃ (i : Nat), kk = r.2.2.1.length - i ∧ ff = [(1, .p y55 r), (8, I ((i : Nat) : Int))] ∧ ss = [] ∧ (i ≤ r.2.2.1.length) ∧ (∀ q (h : q < r.2.2.1.length), q < i → ¬ (nzE r.2.2.1[q] = true ∧ Sp.inL r.2.2.2 q = true))) ?_ _ _ _ ⟨0, rfl, rfl, rfl, Nat.zero_le _, (by exact fun q _ h => absurd h (by omega))⟩
  rintro kk ff ss ⟨i, hk4, rfl, rfl, hi4, hno⟩
  refine VC.seq (VC.seq (VC.text ?_))
  refine VO.c (.move rfl) ?_
  refine VO.c (.fa (.r (.r (.l .o)))) ?_
  refine VO.r (.ld vt53) ?_
  refine VO.r (.len el53) ?_
  refine VO.c (.lss) ?_
  refine VO.go ?_
  refine VC.condD rfl (fun c21 => ?_) (fun c21 => ?_)
  · refine VC.skip (VC.seq (VC.block (VC.seq (VC.text ?_))))
    refine VO.c (.fa (.r (.r (.l .o)))) ?_
    refine VO.r (.ld vt53) ?_
    refine VO.c (.move rfl) ?_
    refine VO.c (.ix (j := i) rfl rfl el53 (by omega)) ?_
    refine VO.r (.ld vt59) ?_
    refine VO.c (.fcmp .neq) ?_
    refine VO.c (.move rfl) ?_
    refine VO.cg (r := (fcmpE .neq .f32 (r.2.2.1[i]) (0 : Nat))) (w := true) [] trivial (fun hgd => have g23_6 : (fcmpE .neq .f32 (r.2.2.1[i]) (0 : Nat)) = true := (by simpa using hgd); (.fa (.r (.r (.r .o))))) ?_
    refine VO.rg (r := (fcmpE .neq .f32 (r.2.2.1[i]) (0 : Nat))) (w := true) [(77, .p y22 r.2.2.2)] ⟨rfl, trivial⟩ (fun hgd => have g23_6 : (fcmpE .neq .f32 (r.2.2.1[i]) (0 : Nat)) = true := (by simpa using hgd); (.ld vt22AP)) ?_
    refine VO.cg (r := (fcmpE .neq .f32 (r.2.2.1[i]) (0 : Nat))) (w := true) [] trivial (fun hgd => have g23_6 : (fcmpE .neq .f32 (r.2.2.1[i]) (0 : Nat)) = true := (by simpa using hgd); (.move rfl)) ?_
    refine VO.callg (r0 := (fcmpE .neq .f32 (r.2.2.1[i]) (0 : Nat))) (w := true) [(78, .v y22 r.2.2.2), (79, I ((i : Nat) : Int))] ⟨rfl, rfl, trivial⟩ rfl rfl .same .refl rfl (fun hgd => have g23_6 : (fcmpE .neq .f32 (r.2.2.1[i]) (0 : Nat)) = true := (by simpa using hgd); VF.call (rHas_ok (by first | assumption | omega | simp))) ?_
    refine VO.c (.and) ?_
    refine VO.go ?_
    refine VC.condB rfl (fun c23 => ?_) (fun c23 => ?_)
    · try simp only [Bool.and_eq_true, Bool.or_eq_true, Bool.and_eq_false_iff, Bool.or_eq_false_iff, Bool.not_eq_true', Bool.not_eq_false', decide_eq_true_eq, decide_eq_false_iff_not] at c23
      refine VC.seq (VC.text ?_)
      refine VO.c (.assign rfl) ?_
      refine VO.go ?_
      refine VC.ret ?_
      exact VEnd.one rfl evT (pvI (by rw [recE, if_neg (fun h => h hh), if_neg (fun h => h hb0), if_neg (by rw [hbe]; decide), fill_t hsp (show i < r.2.2.1.length by omega) c23.1 c23.2] <;> rfl))
    try simp only [Bool.and_eq_true, Bool.or_eq_true, Bool.and_eq_false_iff, Bool.or_eq_false_iff, Bool.not_eq_true', Bool.not_eq_false', decide_eq_true_eq, decide_eq_false_iff_not] at c23
    have hnq : ¬ (nzE r.2.2.1[i] = true ∧ Sp.inL r.2.2.2 i = true) := fun h2 => by
      rcases c23 with h | h
      · exact absurd (h2.1.symm.trans h) (by decide)
      rw [h2.2] at h; cases h
    refine VC.skip (VC.text ?_)
    refine VO.c (.move rfl) ?_
    refine VO.c (.add rfl rfl (by omega)) ?_
    refine VO.c (.assign rfl) ?_
    refine VO.nil ?_
    refine ⟨_, [(1, .p y55 r), (8, I (((i + 1) : Nat) : Int))], ?_, ⟨rfl, rfl, trivial⟩, (i + 1), rfl, rfl, rfl, (by omega), (by exact fun q h h3 => if e : q = i then (by subst e; exact hnq) else hno q h (by omega))⟩
    omega
  refine VC.exit (VC.seq (VC.text ?_))
  refine VO.c (.assign rfl) ?_
  refine VO.go ?_
  refine VC.ret ?_
  exact VEnd.one rfl evT (pvI (by rw [recE, if_neg (fun h => h hh), if_neg (fun h => h hb0), if_neg (by rw [hbe]; decide), fill_f (fun q h => hno q h (by omega)) hsp] <;> rfl))
end Go.Proofs
namespace Go.Fs
section
variable {P : Program} {orc : FuncId → List Value → Heap → Option (Value × Heap)} {fl : VL} {σ : Sto} {T : TypeId} {x y z : Operand} {κ ν : Ty} {kvs : List (κ.den × ν.den)} {k : κ.den} {w : Value} [DecidableEq κ.den] {ops : Array Oper} {n : Nat} {l : List Oper} {K : VL → Sto → Prop} {ty : TypeId} {pos : String} {after : Array Edge} {g : Option (Nat × Bool)}
theorem MakeV.mins {u : ν.den} (hT : MapT P T κ ν) (hx : evV fl x = some (.raw w)) (hy : evV fl y = some (.v κ k)) (hz : evV fl z = some (.v ν u)) :
    MakeV P fl ((w, .mp κ ν kvs) :: σ) (.insert T x y z) fun v σ' => v = .raw undef ∧ σ' = (w, .mp κ ν (Fs.mset kvs k u)) :: σ :=
  ⟨rfl, fun S0 h t L => by
    obtain ⟨uu, h', v, σ', h1, h2, h3, h4⟩ := (MakeV.mput hT hx hy hz).2 S0 h t L
    exact ⟨uu, h', v, σ', h1, h2, h3, fun d ty pos after g => h4 d ty pos after g⟩⟩
theorem VO.mins {u : ν.den} (hT : MapT P T κ ν) (hk : VO P orc ops n l fl ((w, .mp κ ν (Fs.mset kvs k u)) :: σ) K) (hx : evV fl x = some (.raw w) := by rfl) (hy : evV fl y = some (.v κ k) := by rfl) (hz : evV fl z = some (.v ν u) := by rfl) (hw : wantV ops fl g = some true := by rfl) :
    VO P orc ops n (⟨none, .insert T x y z, ty, pos, after, g⟩ :: l) fl ((w, .mp κ ν kvs) :: σ) K :=
  VO.mk0 (MakeV.mins hT hx hy hz) (by rintro _ _ ⟨rfl, rfl⟩; exact hk) hw
end
end Go.Fs
namespace Go.Fs
variable {P : Program} {h : Heap} {S : List Nat} {σ : Sto} {t : Tr} {fl : VL} {x : Operand} {T e : TypeId} {τ : Ty}
end Go.Fs
namespace Go.Fs
variable {P : Program} {σ : Sto} {fl : VL} {x y : Operand} {T T' : TypeId} {p q : Bool}
end Go.Fs
namespace Go.Proofs
open Go.Fs Ieee
set_option linter.unusedVariables false
set_option maxHeartbeats 2000000
abbrev y56 : Ty := (.sl (.pair .str (.pair (.int .i64) (.int .i64))))
abbrev y69 : Ty := (.sl (.pair .str (.pair (.int .i64) (.int .i64))))
abbrev y108 : Ty := (.pair .str (.pair (.int .i64) (.int .i64)))
abbrev y126 : Ty := (.pair .str (.pair (.int .i64) (.int .i64)))
abbrev y148 : Ty := (.mp .str (.pair .fn .fn))
abbrev y153 : Ty := (.pair .fn .fn)
theorem vt108 : ValT Tryz.prog 108 y108 := valT_of (by kernel_rfl)
theorem vt126 : ValT Tryz.prog 126 y126 := valT_of (by kernel_rfl)
theorem vt150 : ValT Tryz.prog 150 .fn := valT_of (by kernel_rfl)
theorem vt153 : ValT Tryz.prog 153 y153 := valT_of (by kernel_rfl)
theorem el56 : ElT Tryz.prog 56 108 y108 := elT_of (by kernel_rfl)
theorem el69 : ElT Tryz.prog 69 126 y126 := elT_of (by kernel_rfl)
theorem zt126 : ZerT Tryz.prog 126 y126 := zerT_of (z := .agg #[.string ByteArray.empty, .int .i64 0, .int .i64 0]) (by kernel_rfl) rfl rfl
theorem zt153 : ZerT Tryz.prog 153 y153 := zerT_of (z := .agg #[.nilFunc, .nilFunc]) (by kernel_rfl) rfl rfl
theorem bt153 : BldT Tryz.prog 153 y153 [(0, 1), (1, 1)] := bldT_of zt153 rfl (by kernel_rfl)
theorem mt148 : MapT Tryz.prog 148 .str y153 := ⟨9, 153, by kernel_rfl, keyStr (by kernel_rfl), zt153⟩
abbrev Rul1 := ByteArray × Int × Int
def sRange : ByteArray := ⟨#[114, 97, 110, 103, 101]⟩
def sJump : ByteArray := ⟨#[106, 117, 109, 112]⟩
def sStuck : ByteArray := ⟨#[115, 116, 117, 99, 107]⟩
def ruleE (x : Rul1) : Int := if x.1 = sRange then firstE [rangeE x.2.1 (-1024) 1024, rangeE x.2.2 x.2.1 1024] else if x.1 = sJump then firstE [rangeE x.2.1 0 2048, rangeE x.2.2 0 0] else if x.1 = sStuck then firstE [rangeE x.2.1 1 4096, rangeE x.2.2 0 0] else 13
def rulesE (l : List Rul1) : Int := if 8 < (l.length : Int) then 5 else firstE (l.map ruleE)
theorem map_drop {α : Type} {f : α → Int} {l : List α} {j : Nat} (hj : j < l.length) : firstE ((l.drop j).map f) = if f l[j] = 0 then firstE ((l.drop (j + 1)).map f) else f l[j] := by
  rw [List.drop_eq_getElem_cons hj] <;> rfl
theorem map_end {α : Type} {f : α → Int} {l : List α} {j : Nat} (hj : l.length ≤ j) : firstE ((l.drop j).map f) = 0 := by rw [List.drop_eq_nil_of_le hj] <;> rfl
theorem rRule_ok {x : ByteArray × Int × Int} : VF Tryz.prog OA 99 [.v y108 x] (I (ruleE x)) := by
  refine VF.enter Tryz.func99 rfl (fun _ _ => rfl) rfl ?_
  show VC _ _ _ _ _ [(0, .v y108 x)] [] _
  refine VC.seq (VC.text ?_)
  refine VO.new (.box) ?_
  refine VO.c (.assign rfl) ?_
  refine VO.go (VC.seq (VC.seq (VC.text ?_)))
  refine VO.c (.fa (.l .o)) ?_
  refine VO.r (.ld vt9) ?_
  refine VO.c (.seql) ?_
  refine VO.go ?_
  refine VC.condD rfl (fun c1 => ?_) (fun c1 => ?_)
  · refine VC.seq (VC.drawn ?_)
    refine VD.c (.fa (.r (.l .o))) ?_
    refine VD.r [] (.ld vt3) (.inl rfl) ?_
    refine VD.call rfl rfl (VF.call (rCheckRange_ok )) ?_
    refine VD.c (.fa (.r (.r .o))) ?_
    refine VD.r [] (.ld vt3) (.inl rfl) ?_
    refine VD.c (.fa (.r (.l .o))) ?_
    refine VD.nw [] ?_
    refine VD.r [] (.ld vt3) (.inl rfl) ?_
    refine VD.call rfl rfl (VF.call (rCheckRange_ok )) ?_
    refine VD.new (.lit [rangeE x.2.1 (-1024 : Int) (1024 : Int), rangeE x.2.2 x.2.1 (1024 : Int)] el37) ?_
    refine VD.callO rfl rfl (VF.call (rFirst_ok (by first | assumption | omega | simp))) ?_
    refine VD.c (.assign rfl) ?_
    refine VD.go ?_
    refine VC.ret ?_
    exact VEnd.one rfl evT (pvI (by rw [ruleE, if_pos (show x.1 = sRange from c1)]))
  refine VC.skip (VC.seq (VC.seq (VC.text ?_)))
  refine VO.c (.fa (.l .o)) ?_
  refine VO.r (.ld vt9) ?_
  refine VO.c (.seql) ?_
  refine VO.go ?_
  refine VC.condD rfl (fun c3 => ?_) (fun c3 => ?_)
  · refine VC.seq (VC.drawn ?_)
    refine VD.c (.fa (.r (.l .o))) ?_
    refine VD.r [] (.ld vt3) (.inl rfl) ?_
    refine VD.call rfl rfl (VF.call (rCheckRange_ok )) ?_
    refine VD.c (.fa (.r (.r .o))) ?_
    refine VD.r [] (.ld vt3) (.inl rfl) ?_
    refine VD.call rfl rfl (VF.call (rCheckRange_ok )) ?_
    refine VD.nw [] ?_
    refine VD.new (.lit [rangeE x.2.1 (0 : Int) (2048 : Int), rangeE x.2.2 (0 : Int) (0 : Int)] el37) ?_
    refine VD.callO rfl rfl (VF.call (rFirst_ok (by first | assumption | omega | simp))) ?_
    refine VD.c (.assign rfl) ?_
    refine VD.go ?_
    refine VC.ret ?_
    exact VEnd.one rfl evT (pvI (by rw [ruleE, if_neg (show ¬ x.1 = sRange from c1), if_pos (show x.1 = sJump from c3)]))
  refine VC.skip (VC.seq (VC.seq (VC.text ?_)))
  refine VO.c (.fa (.l .o)) ?_
  refine VO.r (.ld vt9) ?_
  refine VO.c (.seql) ?_
  refine VO.go ?_
  refine VC.condD rfl (fun c5 => ?_) (fun c5 => ?_)
  · refine VC.seq (VC.drawn ?_)
    refine VD.c (.fa (.r (.l .o))) ?_
    refine VD.r [] (.ld vt3) (.inl rfl) ?_
    refine VD.call rfl rfl (VF.call (rCheckRange_ok )) ?_
    refine VD.c (.fa (.r (.r .o))) ?_
    refine VD.r [] (.ld vt3) (.inl rfl) ?_
    refine VD.call rfl rfl (VF.call (rCheckRange_ok )) ?_
    refine VD.nw [] ?_
    refine VD.new (.lit [rangeE x.2.1 (1 : Int) (4096 : Int), rangeE x.2.2 (0 : Int) (0 : Int)] el37) ?_
    refine VD.callO rfl rfl (VF.call (rFirst_ok (by first | assumption | omega | simp))) ?_
    refine VD.c (.assign rfl) ?_
    refine VD.go ?_
    refine VC.ret ?_
    exact VEnd.one rfl evT (pvI (by rw [ruleE, if_neg (show ¬ x.1 = sRange from c1), if_neg (show ¬ x.1 = sJump from c3), if_pos (show x.1 = sStuck from c5)]))
  refine VC.skip (VC.seq (VC.text ?_))
  refine VO.c (.assign rfl) ?_
  refine VO.go ?_
  refine VC.ret ?_
  exact VEnd.one rfl evT (pvI (by rw [ruleE, if_neg (show ¬ x.1 = sRange from c1), if_neg (show ¬ x.1 = sJump from c3), if_neg (show ¬ x.1 = sStuck from c5)]))
theorem rRules_ok {l : List (ByteArray × Int × Int)} (hl : l.length < 1000000) : VF Tryz.prog OA 48 [.v y56 l] (I (rulesE l)) := by
  refine VF.enter Tryz.func48 rfl (fun _ _ => rfl) rfl ?_
  show VC _ _ _ _ _ [(0, .v y56 l)] [] _
  refine VC.seq (VC.text ?_)
  refine VO.c (.assign rfl) ?_
  refine VO.go (VC.seq (VC.seq (VC.text ?_)))
  refine VO.c (.move rfl) ?_
  refine VO.r (.len el56) ?_
  refine VO.c (.gtr) ?_
  refine VO.go ?_
  refine VC.condD rfl (fun c1 => ?_) (fun c1 => ?_)
  · refine VC.seq (VC.text ?_)
    refine VO.c (.assign rfl) ?_
    refine VO.go ?_
    refine VC.ret ?_
    exact VEnd.one rfl evT (pvI (by exact (if_pos c1).symm))
  refine VC.skip (VC.seq (VC.seq (VC.text ?_)))
  refine VO.c (.assign rfl) ?_
  refine VO.go (VC.block ?_)
  refine VC.keep [(0, .v y56 l), (3, I ((0 : Nat) : Int))] ⟨rfl, rfl, trivial⟩ ?_
  refine VC.loop (I := fun kk ff ss => ∃ (j : Nat), kk = l.length - j ∧ ff = [(0, .v y56 l), (3, I ((j : Nat) : Int))] ∧ ss = [] ∧ (j ≤ l.length) ∧ (rulesE l = firstE ((l.drop j).map ruleE))) ?_ _ _ _ ⟨0, rfl, rfl, rfl, Nat.zero_le _, (by exact if_neg c1)⟩
  rintro kk ff ss ⟨j, hk0, rfl, rfl, hj, hf⟩
  refine VC.seq (VC.seq (VC.text ?_))
  refine VO.c (.move rfl) ?_
  refine VO.c (.move rfl) ?_
  refine VO.r (.len el56) ?_
  refine VO.c (.lss) ?_
  refine VO.go ?_
  refine VC.condD rfl (fun c4 => ?_) (fun c4 => ?_)
  · refine VC.skip (VC.seq (VC.block (VC.seq (VC.text ?_))))
    refine VO.c (.move rfl) ?_
    refine VO.c (.move rfl) ?_
    refine VO.c (.ix (j := j) rfl rfl el56 (by omega)) ?_
    refine VO.r (.ld vt108) ?_
    refine VO.call rfl rfl (VF.call (rRule_ok )) ?_
    refine VO.c (.assign rfl) ?_
    refine VO.go (VC.seq (VC.text ?_))
    refine VO.c (.move rfl) ?_
    refine VO.c (.neq) ?_
    refine VO.go ?_
    refine VC.condD rfl (fun c7 => ?_) (fun c7 => ?_)
    · refine VC.seq (VC.text ?_)
      refine VO.c (.move rfl) ?_
      refine VO.c (.assign rfl) ?_
      refine VO.go ?_
      refine VC.ret ?_
      exact VEnd.one rfl evT (pvI (by rw [hf, map_drop (by omega), if_neg c7]))
    refine VC.skip (VC.text ?_)
    refine VO.c (.move rfl) ?_
    refine VO.c (.add rfl rfl (by omega)) ?_
    refine VO.c (.assign rfl) ?_
    refine VO.nil ?_
    refine ⟨_, [(0, .v y56 l), (3, I (((j + 1) : Nat) : Int))], ?_, ⟨rfl, rfl, trivial⟩, (j + 1), rfl, rfl, rfl, (by omega), (by rw [hf, map_drop (by omega), if_pos (by simpa using c7)])⟩
    omega
  refine VC.exit (VC.seq (VC.text ?_))
  refine VO.c (.assign rfl) ?_
  refine VO.go ?_
  refine VC.ret ?_
  exact VEnd.one rfl evT (pvI (by rw [hf, map_end (by omega)]))
theorem gK1_ok {x : ByteArray × Int × Int} : VF Tryz.prog OA 138 [.v y126 x] (I (firstE [rangeE x.2.1 (-1024) 1024, rangeE x.2.2 x.2.1 1024])) := by
  refine VF.enter Tryz.func138 rfl (fun _ _ => rfl) rfl ?_
  show VC _ _ _ _ _ [(0, .v y126 x)] [] _
  refine VC.seq (VC.text ?_)
  refine VO.new (.box) ?_
  refine VO.c (.assign rfl) ?_
  refine VO.go (VC.seq (VC.drawn ?_))
  refine VD.c (.fa (.r (.l .o))) ?_
  refine VD.r [] (.ld vt3) (.inl rfl) ?_
  refine VD.call rfl rfl (VF.call (gWithin_ok )) ?_
  refine VD.c (.fa (.r (.r .o))) ?_
  refine VD.r [] (.ld vt3) (.inl rfl) ?_
  refine VD.c (.fa (.r (.l .o))) ?_
  refine VD.nw [] ?_
  refine VD.r [] (.ld vt3) (.inl rfl) ?_
  refine VD.call rfl rfl (VF.call (gWithin_ok )) ?_
  refine VD.new (.lit [rangeE x.2.1 (-1024 : Int) (1024 : Int), rangeE x.2.2 x.2.1 (1024 : Int)] el164) ?_
  refine VD.callO rfl rfl (VF.call (gFirst_ok (by first | assumption | omega | simp))) ?_
  refine VD.c (.assign rfl) ?_
  refine VD.go ?_
  refine VC.ret ?_
  exact VEnd.one rfl evT (pvI (by rfl))
theorem gK3_ok {x : ByteArray × Int × Int} : VF Tryz.prog OA 140 [.v y126 x] (I (firstE [rangeE x.2.1 0 2048, rangeE x.2.2 0 0])) := by
  refine VF.enter Tryz.func140 rfl (fun _ _ => rfl) rfl ?_
  show VC _ _ _ _ _ [(0, .v y126 x)] [] _
  refine VC.seq (VC.text ?_)
  refine VO.new (.box) ?_
  refine VO.c (.assign rfl) ?_
  refine VO.go (VC.seq (VC.drawn ?_))
  refine VD.c (.fa (.r (.l .o))) ?_
  refine VD.r [] (.ld vt3) (.inl rfl) ?_
  refine VD.call rfl rfl (VF.call (gWithin_ok )) ?_
  refine VD.c (.fa (.r (.r .o))) ?_
  refine VD.r [] (.ld vt3) (.inl rfl) ?_
  refine VD.call rfl rfl (VF.call (gWithin_ok )) ?_
  refine VD.nw [] ?_
  refine VD.new (.lit [rangeE x.2.1 (0 : Int) (2048 : Int), rangeE x.2.2 (0 : Int) (0 : Int)] el164) ?_
  refine VD.callO rfl rfl (VF.call (gFirst_ok (by first | assumption | omega | simp))) ?_
  refine VD.c (.assign rfl) ?_
  refine VD.go ?_
  refine VC.ret ?_
  exact VEnd.one rfl evT (pvI (by rfl))
theorem gK5_ok {x : ByteArray × Int × Int} : VF Tryz.prog OA 142 [.v y126 x] (I (firstE [rangeE x.2.1 1 4096, rangeE x.2.2 0 0])) := by
  refine VF.enter Tryz.func142 rfl (fun _ _ => rfl) rfl ?_
  show VC _ _ _ _ _ [(0, .v y126 x)] [] _
  refine VC.seq (VC.text ?_)
  refine VO.new (.box) ?_
  refine VO.c (.assign rfl) ?_
  refine VO.go (VC.seq (VC.drawn ?_))
  refine VD.c (.fa (.r (.l .o))) ?_
  refine VD.r [] (.ld vt3) (.inl rfl) ?_
  refine VD.call rfl rfl (VF.call (gWithin_ok )) ?_
  refine VD.c (.fa (.r (.r .o))) ?_
  refine VD.r [] (.ld vt3) (.inl rfl) ?_
  refine VD.call rfl rfl (VF.call (gWithin_ok )) ?_
  refine VD.nw [] ?_
  refine VD.new (.lit [rangeE x.2.1 (1 : Int) (4096 : Int), rangeE x.2.2 (0 : Int) (0 : Int)] el164) ?_
  refine VD.callO rfl rfl (VF.call (gFirst_ok (by first | assumption | omega | simp))) ?_
  refine VD.c (.assign rfl) ?_
  refine VD.go ?_
  refine VC.ret ?_
  exact VEnd.one rfl evT (pvI (by rfl))
def kindsM : List (ByteArray × Option Nat × Option Nat) := mset (mset (mset [] sRange (some 138, some 139)) sJump (some 140, some 141)) sStuck (some 142, some 143)
theorem kinds_get (k : ByteArray) : mget kindsM k = if k = sRange then some (some 138, some 139) else if k = sJump then some (some 140, some 141) else if k = sStuck then some (some 142, some 143) else none := by
  have e : kindsM = [(sRange, (some 138, some 139)), (sJump, (some 140, some 141)), (sStuck, (some 142, some 143))] := by decide
  rw [e] <;> rfl
theorem gKinds_ok  : VF Tryz.prog OA 98 [] (.v y148 kindsM) := by
  refine VF.enter Tryz.func98 rfl (fun _ _ => rfl) rfl ?_
  show VC _ _ _ _ _ [] [] _
  refine VC.seq (VC.text ?_)
  refine VO.c (.assign rfl) ?_
  refine VO.go (VC.seq (VC.text ?_))
  refine VO.cell (.mkMap .str y153) ?_
  intro ww1
  refine VO.c (.buildF (some 138, some 139) bt153 (.fn (.fn .nil))) ?_
  refine VO.mins mt148 ?_
  refine VO.c (.buildF (some 140, some 141) bt153 (.fn (.fn .nil))) ?_
  refine VO.mins mt148 ?_
  refine VO.c (.buildF (some 142, some 143) bt153 (.fn (.fn .nil))) ?_
  refine VO.mins mt148 ?_
  refine VO.c (.move rfl) ?_
  refine VO.c (.assign rfl) ?_
  refine VO.go ?_
  refine VC.ret ?_
  exact VEnd.one rfl (evC (.mp m0)) (pvE (by rfl))
theorem kind_fn {x : Rul1} (h : (mget kindsM x.1).isSome = true) : ∃ g, ((mget kindsM x.1).getD (none, none)).1 = some g ∧ VF Tryz.prog OA g [.v y126 x] (I (ruleE x)) := by
  rw [kinds_get] at h ⊢
  unfold ruleE
  by_cases h1 : x.1 = sRange
  · rw [if_pos h1, if_pos h1]; exact ⟨138, rfl, gK1_ok⟩
  rw [if_neg h1, if_neg h1]
  by_cases h2 : x.1 = sJump
  · rw [if_pos h2, if_pos h2]; exact ⟨140, rfl, gK3_ok⟩
  rw [if_neg h2, if_neg h2]
  by_cases h3 : x.1 = sStuck
  · rw [if_pos h3, if_pos h3]; exact ⟨142, rfl, gK5_ok⟩
  rw [if_neg h1, if_neg h2, if_neg h3] at h; cases h
theorem kind_no {x : Rul1} (h : (mget kindsM x.1).isSome = false) : ruleE x = 13 := by
  rw [kinds_get] at h
  unfold ruleE
  by_cases h1 : x.1 = sRange
  · rw [if_pos h1] at h; cases h
  rw [if_neg h1] at h ⊢
  by_cases h2 : x.1 = sJump
  · rw [if_pos h2] at h; cases h
  rw [if_neg h2] at h ⊢
  by_cases h3 : x.1 = sStuck
  · rw [if_pos h3] at h; cases h
  rw [if_neg h3]
theorem gRules_ok {l : List (ByteArray × Int × Int)} (hl : l.length < 1000000) : VF Tryz.prog OA 46 [.v y69 l] (I (rulesE l)) := by
  refine VF.enter Tryz.func46 rfl (fun _ _ => rfl) rfl ?_
  show VC _ _ _ _ _ [(0, .v y69 l)] [] _
  refine VC.seq (VC.text ?_)
  refine VO.c (.assign rfl) ?_
  refine VO.go (VC.seq (VC.seq (VC.text ?_)))
  refine VO.c (.move rfl) ?_
  refine VO.r (.len el69) ?_
  refine VO.c (.gtr) ?_
  refine VO.go ?_
  refine VC.condD rfl (fun c1 => ?_) (fun c1 => ?_)
  · refine VC.seq (VC.text ?_)
    refine VO.c (.assign rfl) ?_
    refine VO.go ?_
    refine VC.ret ?_
    exact VEnd.one rfl evT (pvI (by exact (if_pos c1).symm))
  refine VC.skip (VC.seq (VC.text ?_))
  refine VO.call rfl rfl (VF.call (gKinds_ok )) ?_
  refine VO.c (.assign rfl) ?_
  refine VO.go (VC.seq (VC.seq (VC.text ?_)))
  refine VO.c (.move rfl) ?_
  refine VO.r (.len el69) ?_
  refine VO.c (.move rfl) ?_
  refine VO.go (VC.block ?_)
  refine VC.keep [(3, .v y148 kindsM), (13, .v y69 l), (14, I ((l.length : Nat) : Int)), (15, I ((0 : Nat) : Int))] ⟨rfl, rfl, rfl, rfl, trivial⟩ ?_
  refine VC.loop (I := fun kk ff ss => ∃ (j : Nat), kk = l.length - j ∧ ff = [(3, .v y148 kindsM), (13, .v y69 l), (14, I ((l.length : Nat) : Int)), (15, I ((j : Nat) : Int))] ∧ ss = [] ∧ (j ≤ l.length) ∧ (rulesE l = firstE ((l.drop j).map ruleE))) ?_ _ _ _ ⟨0, rfl, rfl, rfl, Nat.zero_le _, (by exact if_neg c1)⟩
  rintro kk ff ss ⟨j, hk0, rfl, rfl, hj, hf⟩
  refine VC.seq (VC.text ?_)
  refine VO.c (.lss) ?_
  refine VO.go (VC.seq ?_)
  refine VC.condD rfl (fun c5 => ?_) (fun c5 => ?_)
  · refine VC.skip (VC.seq (VC.block (VC.seq (VC.text ?_))))
    refine VO.c (.ix (j := j) rfl rfl el69 (by omega)) ?_
    refine VO.r (.ld vt126) ?_
    refine VO.cell (.alloc zt126) ?_
    intro ww2
    refine VO.setV (cs' := [St ((l[j]).1), I ((l[j]).2.1), I ((l[j]).2.2)]) vt126 .v ?_
    refine VO.shut [(5, .p y126 (l[j]))] (.cons rfl (.var m0 .refl) .nil) ?_
    refine VO.go (VC.seq (VC.text ?_))
    refine VO.c (.move rfl) ?_
    refine VO.c (.fa (.l .o)) ?_
    refine VO.r (.ld vt9) ?_
    refine VO.r (.lookOk mt148) ?_
    refine VO.c (.move rfl) ?_
    refine VO.c (.extract) ?_
    refine VO.c (.extract) ?_
    refine VO.cell (.alloc zt153) ?_
    intro ww3
    refine VO.setV (cs' := [.v .fn (((mget kindsM ((l[j]).1)).getD (none, none)).1), .v .fn (((mget kindsM ((l[j]).1)).getD (none, none)).2)]) vt153 .v ?_
    refine VO.shut [(6, .p y153 ((mget kindsM ((l[j]).1)).getD (none, none)))] (.cons rfl (.var m0 .refl) .nil) ?_
    refine VO.c (.assign rfl) ?_
    refine VO.go (VC.seq (VC.seq (VC.text ?_)))
    refine VO.c (.move rfl) ?_
    refine VO.c (.not) ?_
    refine VO.go ?_
    refine VC.condB rfl (fun c8 => ?_) (fun c8 => ?_)
    · try simp only [Bool.and_eq_true, Bool.or_eq_true, Bool.and_eq_false_iff, Bool.or_eq_false_iff, Bool.not_eq_true', Bool.not_eq_false', decide_eq_true_eq, decide_eq_false_iff_not] at c8
      refine VC.seq (VC.text ?_)
      refine VO.c (.assign rfl) ?_
      refine VO.go ?_
      refine VC.ret ?_
      exact VEnd.one rfl evT (pvI (by rw [hf, map_drop (by omega), kind_no c8] <;> rfl))
    try simp only [Bool.and_eq_true, Bool.or_eq_true, Bool.and_eq_false_iff, Bool.or_eq_false_iff, Bool.not_eq_true', Bool.not_eq_false', decide_eq_true_eq, decide_eq_false_iff_not] at c8
    obtain ⟨g, hg, hv⟩ := kind_fn c8
    refine VC.skip (VC.seq (VC.text ?_))
    refine VO.c (.fa (.l .o)) ?_
    refine VO.r (.ld vt150) ?_
    refine VO.r (.ld vt126) ?_
    refine VO.callF rfl (hg) rfl (VF.call hv) ?_
    refine VO.c (.assign rfl) ?_
    refine VO.go (VC.seq (VC.text ?_))
    refine VO.c (.move rfl) ?_
    refine VO.c (.neq) ?_
    refine VO.go ?_
    refine VC.condD rfl (fun c11 => ?_) (fun c11 => ?_)
    · refine VC.seq (VC.text ?_)
      refine VO.c (.move rfl) ?_
      refine VO.c (.assign rfl) ?_
      refine VO.go ?_
      refine VC.ret ?_
      exact VEnd.one rfl evT (pvI (by rw [hf, map_drop (by omega), if_neg c11]))
    refine VC.skip (VC.text ?_)
    refine VO.c (.add rfl rfl (by omega)) ?_
    refine VO.c (.move rfl) ?_
    refine VO.nil ?_
    refine ⟨_, [(3, .v y148 kindsM), (13, .v y69 l), (14, I ((l.length : Nat) : Int)), (15, I (((j + 1) : Nat) : Int))], ?_, ⟨rfl, rfl, rfl, rfl, trivial⟩, (j + 1), rfl, rfl, rfl, (by omega), (by rw [hf, map_drop (by omega), if_pos (by simpa using c11)])⟩
    omega
  refine VC.exit (VC.seq (VC.text ?_))
  refine VO.c (.assign rfl) ?_
  refine VO.go ?_
  refine VC.ret ?_
  exact VEnd.one rfl evT (pvI (by rw [hf, map_end (by omega)]))
end Go.Proofs
namespace Go.Fs
open Go.RowKit (Below)
variable {P : Program} {H : Type} {enc : TypeId × Value → H} {w : World} {base : Nat} {sp : Nat → Bool} {held : Bool}

def fsB (P : Program) (ty : TypeId → Ty → Bool) : List Field → Nat → Ty → Bool
  | [f], off, .pair a .unit => Nat.beq f.offset off && Nat.beq (P.cellsOf f.type) a.size && ty f.type a
  | [f], off, τ => Nat.beq f.offset off && Nat.beq (P.cellsOf f.type) τ.size && ty f.type τ
  | f :: fs, off, .pair a b => Nat.beq f.offset off && Nat.beq (P.cellsOf f.type) a.size && ty f.type a && fsB P ty fs (off + a.size) b
  | _, _, _ => false
def arrFs (P : Program) (m : Nat) (e : TypeId) : List Field := (List.range m).map fun i => { name := "", type := e, offset := i * P.cellsOf e, embedded := false, tag := "", pkgPath := "", byteOffset := 0 }
def tyB (P : Program) : Nat → TypeId → Ty → Bool
  | 0, _, _ => false
  | n + 1, t, τ =>
    match P.underlying t, τ with
    | some (.int k), .int k' => decide (k = k')
    | some .bool, .bool => true
    | some .string, .str => true
    | some (.float k), .flt k' => decide (k = k')
    | some (.slice te), .sl e => Nat.beq (P.cellsOf te) e.size && Nat.blt 0 e.size && tyB P n te e
    | some (.struct fs), .pair a b => Nat.beq (P.cellsOf t) (Ty.pair a b).size && fsB P (tyB P n) fs.toList 0 (.pair a b)
    | some (.array m e), .pair a b => Nat.beq (P.cellsOf t) (Ty.pair a b).size && fsB P (tyB P n) (arrFs P m e) 0 (.pair a b)
    | _, _ => false

def Wf : (τ : Ty) → τ.den → Prop
  | .int k, n => (Lit.int k n).wf = true
  | .bool, _ => True
  | .str, s => s.size ≤ maxLen
  | .flt k, n => (Lit.float k n).wf = true
  | .sl e, xs => List.length xs ≤ maxLen ∧ ∀ x ∈ (xs : List e.den), Wf e x
  | .pair a b, x => Wf a x.1 ∧ Wf b x.2
  | .unit, _ => True
  | .mp _ _, _ => True
  | .fn, _ => True
  | .hnd, _ => True

structure Got (P : Program) (w : World) (ρ : Ren) (S : Nat → Prop) (h : Heap) (ρ' : Ren) (S' : Nat → Prop) (h' : Heap) : Prop where
  hr : HR P ρ' S' w.heap.size (wz w) h' w
  agree : ∀ b, S b → S' b ∧ ρ' b = ρ b
  aft : After h h'
theorem Got.refl {ρ : Ren} {S : Nat → Prop} {h : Heap} (hr : HR P ρ S w.heap.size (wz w) h w) : Got P w ρ S h ρ S h := ⟨hr, fun _ hb => ⟨hb, rfl⟩, After.refl h⟩
theorem Got.trans {ρ ρ1 ρ2 : Ren} {S S1 S2 : Nat → Prop} {h h1 h2 : Heap} (a : Got P w ρ S h ρ1 S1 h1) (b : Got P w ρ1 S1 h1 ρ2 S2 h2) : Got P w ρ S h ρ2 S2 h2 :=
  ⟨b.hr, fun i hi => let ⟨h3, h4⟩ := a.agree i hi; let ⟨h5, h6⟩ := b.agree i h3; ⟨h5, h6.trans h4⟩, a.aft.trans b.aft⟩
theorem Got.ok {ρ ρ1 : Ren} {S S1 : Nat → Prop} {h h1 : Heap} (a : Got P w ρ S h ρ1 S1 h1) : HOk h1 := fun b o hg => (a.hr.ids b (a.hr.objs b o hg).1).1
theorem Got.row {ρ : Ren} {S : Nat → Prop} {h : Heap} (hr : HR P ρ S w.heap.size (wz w) h w) {te : TypeId} {cs : List Value} {a : Addr} (ha : a.block < w.heap.size) (hc : ∀ i, i < cs.length → ∃ v, w.cell? ⟨a.block, a.off + i, none⟩ = some v ∧ VR ρ S (cs.getD i undef) v) :
    Got P w ρ S h (fun b => if b = h.next then (.clean a.block a.off 0 (P.cellsOf te)) else ρ b) (fun b => S b ∨ b = h.next) (h.push (.row te cs false false)) := by
  have hag : ∀ b, S b → (S b ∨ b = h.next) ∧ (fun b => if b = h.next then (Loc.clean a.block a.off 0 (P.cellsOf te)) else ρ b) b = ρ b := fun b hb => by
    have := (hr.ids b hb).1
    exact ⟨.inl hb, by simp only; rw [if_neg (by omega)]⟩
  have hold : ∀ i o, (h.push (.row te cs false false)).get i = some o → (i = h.next ∧ o = .row te cs false false) ∨ (i ≠ h.next ∧ h.get i = some o) := fun i o hg => by
    rw [Heap.get_push] at hg
    by_cases hi : i = h.next
    · rw [if_pos hi] at hg; exact .inl ⟨hi, (Option.some.inj hg).symm⟩
    rw [if_neg hi] at hg; exact .inr ⟨hi, hg⟩
  refine ⟨⟨fun i o hg => ?_, fun i j oi oj hi hj oi1 oj1 he => ?_, fun i o hg ho => ?_, fun i o hg ho => ?_, fun b hb => ?_, Nat.succ_pos _, z_below (Below.refl _ _), Nat.zero_le _, Nat.le_refl _⟩, hag, After.push h _⟩
  · rcases hold i o hg with ⟨rfl, rfl⟩ | ⟨hi, hg'⟩
    · refine ⟨.inr rfl, ?_⟩
      simp only [if_true]
      refine ⟨rfl, fun i hi => ?_⟩
      obtain ⟨v, h1, h2⟩ := hc i hi
      exact ⟨v, h1, h2.mono hag⟩
    obtain ⟨h1, h2⟩ := hr.objs i o hg'
    refine ⟨.inl h1, ?_⟩
    simp only [if_neg hi]
    exact h2.mono hag
  · rcases hold i oi hi with ⟨rfl, rfl⟩ | ⟨hi', hgi⟩
    · cases oi1
    rcases hold j oj hj with ⟨rfl, rfl⟩ | ⟨hj', hgj⟩
    · cases oj1
    simp only [if_neg hi', if_neg hj'] at he
    exact hr.inj i j oi oj hgi hgj oi1 oj1 he
  · rcases hold i o hg with ⟨rfl, rfl⟩ | ⟨hi, hg'⟩
    · cases ho
    simp only [if_neg hi]; exact hr.base i o hg' ho
  · rcases hold i o hg with ⟨rfl, rfl⟩ | ⟨hi, hg'⟩
    · simp only [if_true]; exact ha
    simp only [if_neg hi]; exact hr.ro i o hg' ho
  have hn : (h.push (.row te cs false false)).next = h.next + 1 := rfl
  rw [hn]
  rcases hb with hb | rfl
  · have := hr.ids b hb; exact ⟨by omega, this.2⟩
  have := hr.pos; exact ⟨by omega, by omega⟩

theorem trod_float {fuel : Nat} {t : TypeId} {cs : List Value} {x : DataW H × List MemPlace} {k : FloatKind} (ht : P.underlying t = some (.float k)) (h : DataW.trod enc P w base sp held fuel t cs = some x) : ∃ n, cs = [.float k n] ∧ (Lit.float k n).wf = true := by
  cases fuel with
  | zero => simp [DataW.trod] at h
  | succ n =>
    unfold DataW.trod at h
    rw [ht] at h
    split at h <;> simp_all

theorem mapM_all {α β : Type} (f : α → Option β) : ∀ (l : List α) (r : List β), l.mapM f = some r → l.length = r.length ∧ ∀ i (hi : i < l.length) (hr : i < r.length), f l[i] = some r[i]
  | [], r, h => by
    simp only [List.mapM_nil] at h
    obtain rfl := Option.some.inj h
    exact ⟨rfl, fun i hi => absurd hi (by simp)⟩
  | a :: l, r, h => by
    rw [List.mapM_cons] at h
    cases hf : f a with
    | none => rw [hf] at h; cases h
    | some b =>
      rw [hf] at h
      cases hl : l.mapM f with
      | none => rw [hl] at h; cases h
      | some bs =>
        rw [hl] at h
        obtain rfl := Option.some.inj h
        obtain ⟨h1, h2⟩ := mapM_all f l bs hl
        refine ⟨by simp [h1], fun i hi hr => ?_⟩
        cases i with
        | zero => exact hf
        | succ i => exact h2 i (by simpa using hi) (by simpa using hr)
theorem cells_some {a : Addr} {n : Nat} {cs : List Value} (h : w.cells? base a n = some cs) : cs.length = n ∧ ∀ i, i < n → w.cell? (a.add i) = some (cs.getD i undef) := by
  unfold World.cells? at h
  split at h
  · obtain ⟨h1, h2⟩ := mapM_all _ _ _ h
    rw [List.length_range] at h1
    refine ⟨h1.symm, fun i hi => ?_⟩
    have := h2 i (by simpa using hi) (by omega)
    rw [List.getElem_range] at this
    rw [this]
    simp [List.getD, show i < cs.length by omega]
  cases h
theorem cell_some {a : Addr} {v : Value} (h : w.cell? a = some v) : a.spot = none ∧ a.block < w.heap.size := by
  unfold World.cell? at h
  split at h
  · rename_i c _ _ hb
    refine ⟨?_, (Array.getElem?_eq_some_iff.1 hb).1⟩
    cases hs : a.spot with
    | none => rfl
    | some s => rw [hs] at h; cases h
  cases h

def Tells (P : Program) (w : World) (τ : Ty) (cs : List Value) : Prop := ∀ (ρ : Ren) (S : Nat → Prop) (h : Heap), HR P ρ S w.heap.size (wz w) h w →
  ∃ ρ' S' h' cs' x, Got P w ρ S h ρ' S' h' ∧ LR ρ' S' cs' cs ∧ RepC h' [] τ cs' x ∧ Wf τ x

theorem LR.one {ρ : Ren} {S : Nat → Prop} {v v' : Value} (h : VR ρ S v v') : LR ρ S [v] [v'] := LR.cons h LR.nil
theorem tells_elems {e : Ty} (a : Addr) (len : Nat) (hcs : ∀ i, i < len → ∃ cs, (∀ j, j < e.size → w.cell? (a.add (i * e.size + j)) = some (cs.getD j undef)) ∧ cs.length = e.size ∧ Tells P w e cs) :
    ∀ (ρ : Ren) (S : Nat → Prop) (h : Heap), HR P ρ S w.heap.size (wz w) h w → ∃ ρ' S' h' rs xs, Got P w ρ S h ρ' S' h' ∧ rs.length = len * e.size ∧ List.length xs = len ∧ (∀ i, i < len * e.size → ∃ v, w.cell? (a.add i) = some v ∧ VR ρ' S' (rs.getD i undef) v) ∧
      Elems h' [] e rs xs ∧ ∀ x ∈ (xs : List e.den), Wf e x := by
  induction len with
  | zero =>
    intro ρ S h hr
    exact ⟨ρ, S, h, [], [], Got.refl hr, by simp, rfl, fun i hi => by omega, Elems.nil, fun x hx => by cases hx⟩
  | succ n ih =>
    intro ρ S h hr
    obtain ⟨ρ1, S1, h1, rs, xs, g1, l1, l2, c1, e1, w1⟩ := ih (fun i hi => hcs i (by omega)) ρ S h hr
    obtain ⟨cs, k1, k2, k3⟩ := hcs n (by omega)
    obtain ⟨ρ2, S2, h2, cs', x, g2, lr, rc, wf⟩ := k3 ρ1 S1 h1 g1.hr
    have hN : Goes h1 [] h2 [] := g2.aft.nx g1.ok
    have hl : cs'.length = e.size := rc.len
    have hel : Elems h2 [] e cs' [x] := by
      refine ⟨by simpa using hl, fun i hi => ?_⟩
      obtain rfl : i = 0 := by simpa using hi
      simp only [Nat.zero_mul, List.drop_zero, List.getElem_cons_zero]
      rw [List.take_of_length_le (by omega)]
      exact rc
    refine ⟨ρ2, S2, h2, rs ++ cs', xs ++ [x], g1.trans g2, by rw [List.length_append, l1, hl, Nat.add_mul]; omega, by simp [l2], fun i hi => ?_, (e1.nx hN).append hel, fun y hy => ?_⟩
    · rw [Nat.add_mul, Nat.one_mul] at hi
      by_cases hin : i < n * e.size
      · obtain ⟨v, hv1, hv2⟩ := c1 i hin
        refine ⟨v, hv1, ?_⟩
        rw [List.getD_eq_getElem?_getD, List.getElem?_append_left (by omega), ← List.getD_eq_getElem?_getD]
        exact hv2.mono g2.agree
      have hj : i - n * e.size < e.size := by omega
      refine ⟨cs.getD (i - n * e.size) undef, ?_, ?_⟩
      · have := k1 (i - n * e.size) hj
        rwa [show n * e.size + (i - n * e.size) = i by omega] at this
      rw [List.getD_eq_getElem?_getD, List.getElem?_append_right (by omega), l1, ← List.getD_eq_getElem?_getD]
      exact lr.getD _
    rcases List.mem_append.1 hy with hy | hy
    · exact w1 y hy
    obtain rfl := List.mem_singleton.1 hy; exact wf
theorem Addr.add_spot {a : Addr} (h : a.spot = none) (n : Nat) : a.add n = ⟨a.block, a.off + n, none⟩ := by
  obtain ⟨b, o, s⟩ := a
  simp only at h
  subst h
  unfold Addr.add
  by_cases hn : n = 0
  · subst hn; simp
  simp [hn]
theorem tells_fields {n : Nat} (ih : ∀ (t : TypeId) (τ : Ty), tyB P n t τ = true → ∀ (fuel : Nat) (cs : List Value) (x : DataW H × List MemPlace), DataW.trod enc P w base sp held fuel t cs = some x → Tells P w τ cs) :
    ∀ (fs : List Field) (off : Nat) (τ : Ty) (cs : List Value) (m : Nat), fsB P (tyB P n) fs off τ = true → cs.length = off + τ.size → (∀ f ∈ fs, ∃ x, DataW.trod enc P w base sp held m f.type ((cs.drop f.offset).take (P.cellsOf f.type)) = some x) → Tells P w τ (cs.drop off) := by
  have one : ∀ (f : Field) (off : Nat) (τ : Ty) (cs : List Value) (m : Nat), f.offset = off → P.cellsOf f.type = τ.size → tyB P n f.type τ = true → off + τ.size ≤ cs.length → (∃ x, DataW.trod enc P w base sp held m f.type ((cs.drop f.offset).take (P.cellsOf f.type)) = some x) → Tells P w τ ((cs.drop off).take τ.size) := by
    intro f off τ cs m h1 h2 h3 h4 ⟨x, hx⟩
    rw [h1, h2] at hx
    exact ih f.type τ h3 m _ x hx
  intro fs
  induction fs with
  | nil => intro off τ cs m hb; cases hb
  | cons f fs ihf =>
    intro off τ cs m hb hl hall
    have hf := hall f List.mem_cons_self
    cases fs with
    | nil =>
      by_cases hs : ∃ a, τ = .pair a .unit
      · obtain ⟨a, rfl⟩ := hs
        have hb' : (Nat.beq f.offset off && Nat.beq (P.cellsOf f.type) a.size && tyB P n f.type a) = true := hb
        obtain ⟨hb', h3⟩ := band hb'
        obtain ⟨h1, h2⟩ := band hb'
        have hs : (Ty.pair a .unit).size = a.size := by simp [Ty.size]
        rw [hs] at hl
        have := one f off a cs m (nbeq h1) (nbeq h2) h3 (by omega) hf
        intro ρ S h hr
        obtain ⟨ρ', S', h', cs', x, g, lr, rc, wf⟩ := this ρ S h hr
        have e1 : (cs.drop off).take a.size = cs.drop off := List.take_of_length_le (by rw [List.length_drop]; omega)
        rw [e1] at lr
        have hcl := rc.len
        exact ⟨ρ', S', h', cs', (x, ()), g, lr, ⟨by rw [List.take_of_length_le (by omega)]; exact rc, by rw [List.drop_eq_nil_of_le (by omega)]; rfl⟩, wf, trivial⟩
      have hb' : (Nat.beq f.offset off && Nat.beq (P.cellsOf f.type) τ.size && tyB P n f.type τ) = true := by
        cases τ with
        | pair a b =>
          cases b with
          | unit => exact absurd ⟨a, rfl⟩ hs
          | _ => exact hb
        | _ => exact hb
      obtain ⟨hb', h3⟩ := band hb'
      obtain ⟨h1, h2⟩ := band hb'
      have := one f off τ cs m (nbeq h1) (nbeq h2) h3 (by omega) hf
      have e1 : (cs.drop off).take τ.size = cs.drop off := List.take_of_length_le (by rw [List.length_drop]; omega)
      rwa [e1] at this
    | cons g fs =>
      cases τ with
      | pair a b =>
        have hb' : (Nat.beq f.offset off && Nat.beq (P.cellsOf f.type) a.size && tyB P n f.type a && fsB P (tyB P n) (g :: fs) (off + a.size) b) = true := hb
        obtain ⟨hb', h4⟩ := band hb'
        obtain ⟨hb', h3⟩ := band hb'
        obtain ⟨h1, h2⟩ := band hb'
        have hs : (Ty.pair a b).size = a.size + b.size := rfl
        rw [hs] at hl
        have ha := one f off a cs m (nbeq h1) (nbeq h2) h3 (by omega) hf
        have hrest := ihf (off + a.size) b cs m h4 (by omega) (fun g hg => hall g (List.mem_cons_of_mem _ hg))
        intro ρ S h hr
        obtain ⟨ρ1, S1, h1', cs1, x1, g1, lr1, rc1, wf1⟩ := ha ρ S h hr
        obtain ⟨ρ2, S2, h2', cs2, x2, g2, lr2, rc2, wf2⟩ := hrest ρ1 S1 h1' g1.hr
        have hN : Goes h1' [] h2' [] := g2.aft.nx g1.ok
        have hc1 := rc1.len
        refine ⟨ρ2, S2, h2', cs1 ++ cs2, (x1, x2), g1.trans g2, ?_, ⟨?_, ?_⟩, wf1, wf2⟩
        · have := (lr1.mono g2.agree).append lr2
          rwa [show (cs.drop off).take a.size ++ cs.drop (off + a.size) = cs.drop off from by rw [← List.drop_drop, List.take_append_drop]] at this
        · rw [List.take_left' hc1]; exact rc1.nx hN
        rw [List.drop_left' hc1]; exact rc2
      | _ => cases hb

theorem tells : ∀ (n : Nat) (t : TypeId) (τ : Ty), tyB P n t τ = true → ∀ (fuel : Nat) (cs : List Value) (x : DataW H × List MemPlace), DataW.trod enc P w base sp held fuel t cs = some x → Tells P w τ cs := by
  intro n
  induction n with
  | zero => intro t τ h; cases h
  | succ n ih =>
    intro t τ hb fuel cs x hx
    unfold tyB at hb
    split at hb
    · rename_i k k' hu
      obtain rfl : k = k' := of_decide_eq_true hb
      obtain ⟨m, rfl, _, hwf⟩ := DataW.trod_int hu hx
      exact fun ρ S h hr => ⟨ρ, S, h, _, m, Got.refl hr, LR.one (.lit rfl), rfl, hwf⟩
    · rename_i hu
      obtain ⟨b, rfl, _⟩ := DataW.trod_bool hu hx
      exact fun ρ S h hr => ⟨ρ, S, h, _, b, Got.refl hr, LR.one (.lit rfl), rfl, trivial⟩
    · rename_i hu
      obtain ⟨s, rfl, _, hs⟩ := DataW.trod_string hu hx
      exact fun ρ S h hr => ⟨ρ, S, h, _, s, Got.refl hr, LR.one (.lit rfl), rfl, hs⟩
    · rename_i k k' hu
      obtain rfl : k = k' := of_decide_eq_true hb
      obtain ⟨m, rfl, hwf⟩ := trod_float hu hx
      exact fun ρ S h hr => ⟨ρ, S, h, _, m, Got.refl hr, LR.one (.lit rfl), rfl, hwf⟩
    · rename_i te e hu
      obtain ⟨hb, h3⟩ := band hb
      obtain ⟨h1, h2⟩ := band hb
      have hce := nbeq h1
      have hpos := nblt h2
      rcases DataW.trod_slice hu hx with ⟨rfl, _⟩ | ⟨a, len, cap, elems, rest, m, _, rfl, _, hba, hlc, hcap, hlen, hel, _⟩
      · exact fun ρ S h hr => ⟨ρ, S, h, [.slice none 0 0], [], Got.refl hr, LR.one (.lit rfl), ⟨_, rfl, .inl ⟨rfl, rfl⟩⟩, Nat.zero_le _, fun x hx => by cases hx⟩
      by_cases h0 : len = 0
      · subst h0
        exact fun ρ S h hr => ⟨ρ, S, h, [.slice (some ⟨0, 0, none⟩) 0 2], [], Got.refl hr, LR.one (.slice 0 0 0 2 cap a (Nat.zero_le _) (fun h => by cases h) (fun _ => rfl) (fun h => absurd rfl h)), ⟨_, rfl, .inr ⟨0, 0, 2, rfl, .inl rfl⟩⟩, Nat.zero_le _, fun x hx => by cases hx⟩
      have hcs : ∀ i, i < len → ∃ cs, (∀ j, j < e.size → w.cell? (a.add (i * e.size + j)) = some (cs.getD j undef)) ∧ cs.length = e.size ∧ Tells P w e cs := by
        intro i hi
        have := hel i hi
        rw [List.getElem?_eq_getElem (by omega)] at this
        rw [hce] at this
        cases hc : w.cells? base (a.add (i * e.size)) e.size with
        | none => rw [hc] at this; cases this
        | some cs =>
          rw [hc] at this
          obtain ⟨k1, k2⟩ := cells_some hc
          refine ⟨cs, fun j hj => ?_, k1, ih te e h3 m cs _ this⟩
          rw [← k2 j hj]
          congr 1
          obtain ⟨b, o, s⟩ := a
          unfold Addr.add
          by_cases hx1 : i * e.size = 0
          · simp [hx1]
          by_cases hx2 : j = 0
          · subst hx2; simp [hx1]
          simp [hx1, hx2, Nat.add_assoc]
      have hfirst : a.spot = none ∧ a.block < w.heap.size := by
        obtain ⟨cs, k1, _⟩ := hcs 0 (by omega)
        have := k1 0 hpos
        rw [Nat.zero_mul, Nat.zero_add] at this
        have h4 := cell_some this
        simpa [Addr.add] using h4
      intro ρ S h hr
      obtain ⟨ρ1, S1, h1', rs, xs, g1, l1, l2, c1, e1, w1⟩ := tells_elems (P := P) a len hcs ρ S h hr
      have hrow := Got.row (te := te) g1.hr (cs := rs) (a := a) hfirst.2 (fun i hi => by
        have := c1 i (by omega)
        rwa [Addr.add_spot hfirst.1] at this)
      have hsl : SlV (h1'.push (.row te rs false false)) [] e (.slice (some ⟨h1'.next, 0, none⟩) (List.length xs) 2) xs := (e1.nx (hrow.aft.nx g1.ok)).slv (by rw [Heap.get_push, if_pos rfl]) (by simp)
      refine ⟨_, _, _, [.slice (some ⟨h1'.next, 0, none⟩) (List.length xs) 2], xs, g1.trans hrow, ?_, ⟨_, rfl, hsl⟩, by omega, w1⟩
      rw [l2]
      refine LR.one (.slice h1'.next 0 len 2 cap a hlc (fun h => by cases h) (fun h5 => by have := g1.hr.pos; omega) fun _ => ⟨.inr rfl, ?_, fun h => by cases h⟩)
      simp only [if_true, Loc.at, Nat.add_zero]
      obtain ⟨b, o, s⟩ := a
      simp only at hfirst
      rw [hfirst.1]
    · rename_i fs a b hu
      obtain ⟨h1, h2⟩ := band hb
      obtain ⟨xs, m, _, _, hl, hsz, hall⟩ := DataW.trod_struct hu hx
      have hcl : cs.length = (Ty.pair a b).size := by rw [hl, nbeq h1]
      have := tells_fields ih fs.toList 0 (.pair a b) cs m h2 (by omega) (fun f hf => by
        obtain ⟨i, hi, rfl⟩ := List.getElem_of_mem hf
        have hi' : i < fs.size := by simpa using hi
        have := hall i fs[i] (by simp [hi'])
        rw [List.getElem?_eq_getElem (by omega)] at this
        exact ⟨_, by simpa using this⟩)
      simpa using this
    · rename_i m e a b hu
      obtain ⟨h1, h2⟩ := band hb
      obtain ⟨xs, m', _, _, hl, hsz, hall⟩ := DataW.trod_array hu hx
      have hcl : cs.length = (Ty.pair a b).size := by rw [hl, nbeq h1]
      have := tells_fields ih (arrFs P m e) 0 (.pair a b) cs m' h2 (by omega) (fun f hf => by
        obtain ⟨i, hi, rfl⟩ := List.mem_map.1 hf
        have hi' : i < m := List.mem_range.1 hi
        have := hall i hi'
        rw [List.getElem?_eq_getElem (by omega)] at this
        exact ⟨_, this⟩)
      simpa using this
    cases hb

theorem okWide_agg {n : Nat} {r : Reach} {b0 : Nat} {t : TypeId} {τ : Ty} {v : Value} (hb : tyB P n t τ = true) (hval : Value.okWide P w r b0 t v) : isAggV v = τ.agg := by
  cases n with
  | zero => cases hb
  | succ n =>
    unfold tyB at hb
    unfold Value.okWide at hval
    split at hb
    · rename_i k k' hu
      rw [hu] at hval
      simp only [Cell.okWide, hu, Cell.ok] at hval
      cases v <;> simp_all [isAggV, Ty.agg]
    · rename_i hu
      rw [hu] at hval
      simp only [Cell.okWide, hu, Cell.ok] at hval
      cases v <;> simp_all [isAggV, Ty.agg]
    · rename_i hu
      rw [hu] at hval
      simp only [Cell.okWide, hu, Cell.ok] at hval
      cases v <;> simp_all [isAggV, Ty.agg]
    · rename_i k k' hu
      rw [hu] at hval
      simp only [Cell.okWide, hu, Cell.ok] at hval
      cases v <;> simp_all [isAggV, Ty.agg]
    · rename_i te e hu
      rw [hu] at hval
      simp only [Cell.okWide, hu, Cell.ok] at hval
      cases v <;> simp_all [isAggV, Ty.agg]
    · rename_i fs a b hu
      rw [hu] at hval
      obtain ⟨cs, rfl, _⟩ := hval
      rfl
    · rename_i m e a b hu
      rw [hu] at hval
      obtain ⟨cs, rfl, _⟩ := hval
      rfl
    cases hb
theorem tell_arg {ρ : Ren} {S : Nat → Prop} {h : Heap} (hr : HR P ρ S w.heap.size (wz w) h w) {n : Nat} {r : Reach} {b0 : Nat} {t : TypeId} {τ : Ty} {v : Value} {d : DataW H} {ps : List MemPlace} (hb : tyB P n t τ = true) (hval : Value.okWide P w r b0 t v) (hd : DataW.Trod enc P w base sp held t v d ps) :
    ∃ ρ' S' h' v' x, Got P w ρ S h ρ' S' h' ∧ VR ρ' S' v' v ∧ RepV h' [] τ v' x ∧ Wf τ x := by
  have hag := okWide_agg hb hval
  obtain ⟨fuel, hf⟩ := hd
  obtain ⟨ρ', S', h', cs', x, g, lr, rc, wf⟩ := tells n t τ hb fuel _ _ hf ρ S h hr
  cases hτ : τ.agg with
  | true =>
    rw [hτ] at hag
    cases v with
    | agg cs =>
      refine ⟨ρ', S', h', .agg cs'.toArray, x, g, VR.agg' (by simpa [Value.cells] using lr), ⟨hτ.symm, by simpa [Value.cells] using rc⟩, wf⟩
    | _ => cases hag
  | false =>
    rw [hτ] at hag
    rw [cells_one hag] at lr
    obtain ⟨u, rfl, hu⟩ := rc.one hτ
    have := lr.2 0 (by simp)
    exact ⟨ρ', S', h', u, x, g, by simpa using this, hu, wf⟩
theorem hr_empty (hw : 0 ≤ w.heap.size) : HR P (fun _ => Loc.clean 0 0 0 0) (fun _ => False) w.heap.size (wz w) ⟨1, 1, []⟩ w where
  objs := fun i o h => by cases h
  inj := fun i j oi oj h => by cases h
  base := fun i o h => by cases h
  ro := fun i o h => by cases h
  ids := fun b hb => hb.elim
  pos := Nat.one_pos
  below := z_below (Below.refl _ _)
  drawn := Nat.zero_le _
  size := Nat.le_refl _

section
open Go.WideElems Go.ChangeShapes
theorem trodAll_below (hl : laidOutB P = true) {W W' : World} (hb : Below W.heap.size W W') : ∀ {ts : List TypeId} {vs : List Value} {ds : List (DataW H)} {ps : List MemPlace}, (ts.all fun t => P.readableRec t && decide (t < P.types.size)) = true →
    DataW.TrodAll enc P W 0 (fun _ => true) true ts vs ds ps → (∀ x ∈ ps, x.block < W.heap.size) → DataW.TrodAll enc P W' 0 (fun b => decide (b < W.heap.size)) true ts vs ds ps
  | [], [], [], _, _, h, _ => h
  | [], _ :: _, _, _, _, h, _ => h.elim
  | [], [], _ :: _, _, _, h, _ => h.elim
  | _ :: _, [], _, _, _, h, _ => h.elim
  | _ :: _, _ :: _, [], _, _, h, _ => h.elim
  | t :: ts, v :: vs, d :: ds, ps, ha, h, hp => by
    obtain ⟨p, q, h1, h2, rfl⟩ := h
    simp only [List.all_cons, Bool.and_eq_true, decide_eq_true_eq] at ha
    exact ⟨p, q, Go.RowKit.Below.trod hl ha.1.1 ha.1.2 h1 hb (fun x hx => hp x (List.mem_append_left _ hx)), trodAll_below hl hb (by simpa using ha.2) h2 (fun x hx => hp x (List.mem_append_right _ hx)), rfl⟩
theorem law_post {f : Func} {s : ChangeSpec} {tb : TypeId} (hl : laidOutB P = true) (hrd : (f.params.toList.all fun t => P.readableRec t && decide (t < P.types.size)) = true) (hres : f.resultTypes = #[tb]) (htb : P.underlying tb = some .bool) (hvars : s.vars = []) {W W' : World} {args : Array Value} {ds gs : List (DataW H)}
    {before : List MemPlace} (hW : DataW.Whole enc P f.params.toList s.vars false W args.toList ds gs before) (hr : (s.fn H (ds ++ gs)).results = [.lit (.bool true)]) (ha : (s.fn H (ds ++ gs)).args = ds) (hv : (s.fn H (ds ++ gs)).vars = []) (hb : Below W.heap.size W W') :
    s.post enc P f false true false false W args (.bool true) W' := by
  have hlt := hW.lt
  have hW' := hW
  obtain ⟨p, q, hA, hV, rfl, _, _⟩ := hW
  rw [hvars] at hV
  have hV' : gs = [] ∧ q = [] := trodVars_none hV
  obtain ⟨rfl, rfl⟩ := hV'
  refine ⟨ds, [], p ++ [], [], p, [], hW', ?_, ?_, ?_, hb.frame _, fun h => by cases h⟩
  · rw [hr, hres]
    exact trodAll_mk1 (Go.RowKit.shut_bool htb _)
  · rw [ha]
    exact trodAll_below hl hb hrd hA fun x hx => hlt x (List.mem_append_left _ hx)
  rw [hvars, hv]
  exact rfl
end
theorem law_calls3 (hP : ProgOk P) {orc : FuncId → List Value → Heap → Option (Value × Heap)} {W : World} (horc : CallSound P W.heap.size (wz W) orc) {f : FuncId} (hen : Enters P f) {fn : Func} {n : Nat} {t0 t1 t2 : TypeId} {τ0 τ1 τ2 : Ty} (hp : fn.params = #[t0, t1, t2]) (hb0 : tyB P n t0 τ0 = true) (hb1 : tyB P n t1 τ1 = true) (hb2 : tyB P n t2 τ2 = true)
    (hE : ∀ (h : Heap) (v0 v1 v2 : Value) (x0 : τ0.den) (x1 : τ1.den) (x2 : τ2.den), HOk h → RepV h [] τ0 v0 x0 → RepV h [] τ1 v1 x1 → RepV h [] τ2 v2 x2 → Wf τ0 x0 → Wf τ1 x1 → Wf τ2 x2 → EvF P orc f [v0, v1, v2] h fun r h' => r = .bool true ∧ h' = h)
    {args : Array Value} {ds : List (DataW H)} {ps : List MemPlace} (hval : ∀ (j : Nat) t v, fn.params[j]? = some t → args[j]? = some v → Value.okWide P W .any base t v) (hA : DataW.TrodAll enc P W 0 sp held fn.params.toList args.toList ds ps) :
    Calls P f args W fun | .returned v', w' => v' = .bool true ∧ Below W.heap.size W w' | _, _ => False := by
  rw [hp] at hA hval
  obtain ⟨v0, vs0, d0, ds0, p0, q0, ha, rfl, rfl, k0, r0⟩ := Go.ChangeShapes.trodAll_cons hA
  obtain ⟨v1, vs1, d1, ds1, p1, q1, rfl, rfl, rfl, k1, r1⟩ := Go.ChangeShapes.trodAll_cons r0
  obtain ⟨v2, vs2, d2, ds2, p2, q2, rfl, rfl, rfl, k2, r2⟩ := Go.ChangeShapes.trodAll_cons r1
  obtain ⟨rfl, rfl, rfl⟩ := Go.ChangeShapes.trodAll_nil r2
  obtain rfl : args = #[v0, v1, v2] := by cases args; simp_all
  obtain ⟨ρ0, S0, h0, u0, x0, g0, c0, e0, w0⟩ := tell_arg (hr_empty (P := P) (w := W) (Nat.zero_le _)) hb0 (hval 0 t0 v0 rfl rfl) k0
  obtain ⟨ρ1, S1, h1, u1, x1, g1, c1, e1, w1⟩ := tell_arg g0.hr hb1 (hval 1 t1 v1 rfl rfl) k1
  obtain ⟨ρ2, S2, h2, u2, x2, g2, c2, e2, w2⟩ := tell_arg g1.hr hb2 (hval 2 t2 v2 rfl rfl) k2
  have hR := hE h2 u0 u1 u2 x0 x1 x2 g2.ok ((e0.nx (g1.aft.nx g0.ok)).nx (g2.aft.nx g1.ok)) (e1.nx (g2.aft.nx g1.ok)) e2 w0 w1 w2
  refine (fs_open (args' := [v0, v1, v2]) hP horc hen g2.hr (LR.cons ((c0.mono g1.agree).mono g2.agree) (LR.cons (c1.mono g2.agree) (LR.one c2))) (EvF.mono hR fun v h' h => h.1) rfl).mono fun e w' he => ?_
  cases e with
  | returned v => exact ⟨he.1, below_z he.2⟩
  | panicked c => exact he
  | outgrown => exact he
end Go.Fs
namespace Go.Proofs
open Go.Fs Ieee
set_option linter.unusedVariables false
set_option maxHeartbeats 2000000
theorem vt55 : ValT Tryz.prog 55 y55 := valT_of (by kernel_rfl)
theorem vt65 : ValT Tryz.prog 65 y65 := valT_of (by kernel_rfl)
theorem zt65 : ZerT Tryz.prog 65 y65 := zerT_of (z := .agg #[.string ByteArray.empty, .int .i64 0, .slice none 0 0, .slice none 0 0]) (by kernel_rfl) rfl rfl
theorem zt108 : ZerT Tryz.prog 108 y108 := zerT_of (z := .agg #[.string ByteArray.empty, .int .i64 0, .int .i64 0]) (by kernel_rfl) rfl rfl
theorem bt65 : BldT Tryz.prog 65 y65 [(0, 1), (1, 1), (2, 1), (3, 1)] := bldT_of zt65 rfl (by kernel_rfl)
theorem lLevels_ok {l : List Nat} (hl : l.length < 1000000) : VF Tryz.prog OA 96 [.v y53 l] (.v y53 l) := by
  refine VF.enter Tryz.func96 rfl (fun _ _ => rfl) rfl ?_
  show VC _ _ _ _ _ [(0, .v y53 l)] [] _
  refine VC.seq (VC.text ?_)
  refine VO.c (.assign rfl) ?_
  refine VO.go (VC.seq (VC.text ?_))
  refine VO.cell (.lit0 el53) ?_
  intro ww1
  refine VO.c (.move rfl) ?_
  refine VO.app rfl rfl el53 el53 (by simp; omega) ?_
  intro ww2
  refine VO.c (.assign rfl) ?_
  refine VO.go ?_
  refine VC.ret ?_
  exact VEnd.one rfl (evC (.row m0)) (pvE (by rfl))
theorem lRecord_ok {r : ByteArray × Int × (List Nat) × (List (Int × Int))} (hl : r.2.2.1.length < 1000000) (hg : r.2.2.2.length < 1000000) : VF Tryz.prog OA 44 [.v y55 r] (.v y65 r) := by
  refine VF.enter Tryz.func44 rfl (fun _ _ => rfl) rfl ?_
  show VC _ _ _ _ _ [(0, .v y55 r)] [] _
  refine VC.seq (VC.text ?_)
  refine VO.new (.box) ?_
  refine VO.cell (.alloc zt65) ?_
  intro ww3
  refine VO.go (VC.seq (VC.drawn ?_))
  refine VD.c (.fa (.l .o)) ?_
  refine VD.r [] (.ld vt9) (.inl rfl) ?_
  refine VD.c (.fa (.r (.l .o))) ?_
  refine VD.r [] (.ld vt3) (.inl rfl) ?_
  refine VD.c (.fa (.r (.r (.l .o)))) ?_
  refine VD.r [] (.ld vt53) (.inl rfl) ?_
  refine VD.nw [] ?_
  refine VD.call rfl rfl (VF.call (lLevels_ok (by first | assumption | omega | simp))) ?_
  refine VD.c (.fa (.r (.r (.r .o)))) ?_
  refine VD.r [] (.ld vt22AP) (.inl rfl) ?_
  refine VD.call rfl rfl (VF.call (lSpans_ok (by first | assumption | omega | simp))) ?_
  refine VD.c (.build (r.1, r.2.1, r.2.2.1, r.2.2.2) bt65) ?_
  refine VD.mk0 (MakeV.setF (k := 0) vt65 .v (Nat.le_of_ble_eq_true rfl) (.inr ⟨rfl, rfl⟩) rfl rfl) ?_
  rintro _ _ tl4 ⟨rfl, rfl⟩
  refine VD.go ?_
  refine VC.ret ?_
  exact VEnd.one rfl (.cell (x := (r.1, r.2.1, r.2.2.1, r.2.2.2)) rfl m0 vt65 .refl) (pvE (by rfl))
theorem lRules_ok {l : List (ByteArray × Int × Int)} (hl : l.length < 1000000) : VF Tryz.prog OA 47 [.v y56 l] (.v y69 l) := by
  refine VF.enter Tryz.func47 rfl (fun _ _ => rfl) rfl ?_
  show VC _ _ _ _ _ [(0, .v y56 l)] [] _
  refine VC.seq (VC.text ?_)
  refine VO.c (.assign rfl) ?_
  refine VO.go (VC.seq (VC.text ?_))
  refine VO.c (.assign rfl) ?_
  refine VO.go (VC.seq (VC.seq (VC.text ?_)))
  refine VO.c (.move rfl) ?_
  refine VO.r (.len el56) ?_
  refine VO.c (.move rfl) ?_
  refine VO.go (VC.block ?_)
  refine VC.cell0 126 y126 ?_
  refine VC.keep [(3, .raw (.slice none 0 0)), (6, .v y56 l), (7, I ((l.length : Nat) : Int)), (8, I ((0 : Nat) : Int))] ⟨rfl, rfl, rfl, rfl, trivial⟩ ?_
  refine VC.loop (I := fun kk ff ss => ∃ (j : Nat) (out : Value), kk = l.length - j ∧ ff = [(3, .raw out), (6, .v y56 l), (7, I ((l.length : Nat) : Int)), (8, I ((j : Nat) : Int))] ∧ ss = [(out, .row 126 y126 (l.take j))] ∧ (j ≤ l.length)) ?_ _ _ _ ⟨0, (.slice none 0 0), rfl, rfl, rfl, Nat.zero_le _⟩
  rintro kk ff ss ⟨j, out, hk0, rfl, rfl, hj⟩
  refine VC.seq (VC.text ?_)
  refine VO.c (.lss) ?_
  refine VO.go (VC.seq ?_)
  refine VC.condD rfl (fun c3 => ?_) (fun c3 => ?_)
  · refine VC.skip (VC.seq (VC.block (VC.seq (VC.text ?_))))
    refine VO.c (.ix (j := j) rfl rfl el56 (by omega)) ?_
    refine VO.r (.ld vt108) ?_
    refine VO.cell (.alloc zt108) ?_
    intro ww5
    refine VO.setV (cs' := [St ((l[j]).1), I ((l[j]).2.1), I ((l[j]).2.2)]) vt108 .v ?_
    refine VO.shut [(5, .p y108 (l[j]))] (.cons rfl (.var m0 .refl) .nil) ?_
    refine VO.go (VC.text ?_)
    refine VO.c (.move rfl) ?_
    refine VO.r (.ld vt108) ?_
    refine VO.new (.lit [l[j]] el69) ?_
    refine VO.app rfl rfl el69 el69 (by have := List.length_take_le j l; simp; omega) ?_
    intro ww6
    refine VO.c (.assign rfl) ?_
    refine VO.nil (VC.text ?_)
    refine VO.c (.add rfl rfl (by omega)) ?_
    refine VO.c (.move rfl) ?_
    refine VO.nil ?_
    refine ⟨_, [(3, .raw ww6), (6, .v y56 l), (7, I ((l.length : Nat) : Int)), (8, I (((j + 1) : Nat) : Int))], ?_, ⟨rfl, rfl, rfl, rfl, trivial⟩, (j + 1), ww6, rfl, rfl, (by rw [List.take_succ_eq_append_getElem (show j < l.length by omega)]), (by omega)⟩
    omega
  refine VC.exit (VC.seq (VC.text ?_))
  refine VO.c (.move rfl) ?_
  refine VO.c (.assign rfl) ?_
  refine VO.go ?_
  refine VC.ret ?_
  exact VEnd.one rfl (evC (.row m0)) (pvE (by rw [List.take_of_length_le (by omega)]))
def shortE (r : Rec1) : Bool := decide ((r.1.size : Int) ≤ 60) && (decide ((r.2.2.1.length : Int) ≤ 40) || decide ((r.2.2.1.length : Int) = 4097)) && (decide ((r.2.2.2.length : Int) ≤ 8) || decide ((r.2.2.2.length : Int) = 2049))
theorem shortE_t {r : Rec1} (h : shortE r = true) : r.1.size ≤ 60 ∧ (r.2.2.1.length ≤ 40 ∨ r.2.2.1.length = 4097) ∧ (r.2.2.2.length ≤ 8 ∨ r.2.2.2.length = 2049) := by
  unfold shortE at h
  simp only [Bool.and_eq_true, Bool.or_eq_true, decide_eq_true_eq] at h
  omega
theorem rShort_ok {r : ByteArray × Int × (List Nat) × (List (Int × Int))} : VF Tryz.prog OA 37 [.v y55 r] (B (shortE r)) := by
  refine VF.enter Tryz.func37 rfl (fun _ _ => rfl) rfl ?_
  show VC _ _ _ _ _ [(0, .v y55 r)] [] _
  refine VC.seq (VC.text ?_)
  refine VO.new (.box) ?_
  refine VO.c (.assign rfl) ?_
  refine VO.go (VC.seq (VC.text ?_))
  refine VO.c (.fa (.l .o)) ?_
  refine VO.r (.ld vt9) ?_
  refine VO.r (.lenS) ?_
  refine VO.c (.leq) ?_
  refine VO.c (.move rfl) ?_
  refine VO.splitD (x := 7) rfl (fun g1_4 => ?_) (fun g1_4 => ?_)
  · refine VO.c (.fa (.r (.r (.l .o)))) ?_
    refine VO.r (.ld vt53) ?_
    refine VO.r (.len el53) ?_
    refine VO.c (.leq) ?_
    refine VO.c (.move rfl) ?_
    refine VO.splitD (x := 12) rfl (fun g1_9 => ?_) (fun g1_9 => ?_)
    · refine VO.skip ?_
      refine VO.skip ?_
      refine VO.skip ?_
      refine VO.skip ?_
      refine VO.c (.pickT rfl rfl) ?_
      refine VO.c (.pickT rfl rfl) ?_
      refine VO.c (.move rfl) ?_
      refine VO.c (.fa (.r (.r (.r .o)))) ?_
      refine VO.r (.ld vt22AP) ?_
      refine VO.call rfl rfl (VF.call (rShortSp_ok )) ?_
      refine VO.c (.pickT rfl rfl) ?_
      refine VO.c (.assign rfl) ?_
      refine VO.go ?_
      refine VC.ret ?_
      exact VEnd.one rfl evT (pvE (by simp_all [shortE] <;> omega))
    refine VO.c (.fa (.r (.r (.l .o)))) ?_
    refine VO.r (.ld vt53) ?_
    refine VO.r (.len el53) ?_
    refine VO.c (.eql) ?_
    refine VO.c (.pickF rfl rfl) ?_
    refine VO.c (.pickT rfl rfl) ?_
    refine VO.c (.move rfl) ?_
    refine VO.splitD (x := 19) rfl (fun g1_16 => ?_) (fun g1_16 => ?_)
    · refine VO.c (.fa (.r (.r (.r .o)))) ?_
      refine VO.r (.ld vt22AP) ?_
      refine VO.call rfl rfl (VF.call (rShortSp_ok )) ?_
      refine VO.c (.pickT rfl rfl) ?_
      refine VO.c (.assign rfl) ?_
      refine VO.go ?_
      refine VC.ret ?_
      exact VEnd.one rfl evT (pvE (by simp_all [shortE] <;> omega))
    refine VO.skip ?_
    refine VO.skip ?_
    refine VO.skip ?_
    refine VO.c (.pickF rfl rfl) ?_
    refine VO.c (.assign rfl) ?_
    refine VO.go ?_
    refine VC.ret ?_
    exact VEnd.one rfl evT (pvE (by simp_all [shortE] <;> omega))
  refine VO.skip ?_
  refine VO.skip ?_
  refine VO.skip ?_
  refine VO.skip ?_
  refine VO.skip ?_
  refine VO.skip ?_
  refine VO.skip ?_
  refine VO.skip ?_
  refine VO.skip ?_
  refine VO.skip ?_
  refine VO.c (.pickF rfl rfl) ?_
  refine VO.c (.move rfl) ?_
  refine VO.skip ?_
  refine VO.skip ?_
  refine VO.skip ?_
  refine VO.c (.pickF rfl rfl) ?_
  refine VO.c (.assign rfl) ?_
  refine VO.go ?_
  refine VC.ret ?_
  exact VEnd.one rfl evT (pvE (by simp_all [shortE] <;> omega))
def shortR (l : List Rul1) : Bool := (l.all fun x => decide ((x.1.size : Int) ≤ 40)) && decide ((l.length : Int) ≤ 9)
theorem rShortR_ok {l : List (ByteArray × Int × Int)} (hl : l.length ≤ 9223372036854775807) : VF Tryz.prog OA 38 [.v y56 l] (B (shortR l)) := by
  refine VF.enter Tryz.func38 rfl (fun _ _ => rfl) rfl ?_
  show VC _ _ _ _ _ [(0, .v y56 l)] [] _
  refine VC.seq (VC.text ?_)
  refine VO.c (.assign rfl) ?_
  refine VO.go (VC.seq (VC.seq (VC.text ?_)))
  refine VO.c (.assign rfl) ?_
  refine VO.go (VC.block ?_)
  refine VC.keep [(0, .v y56 l), (3, I ((0 : Nat) : Int))] ⟨rfl, rfl, trivial⟩ ?_
  refine VC.loop (I := fun kk ff ss => ∃ (j : Nat), kk = l.length - j ∧ ff = [(0, .v y56 l), (3, I ((j : Nat) : Int))] ∧ ss = [] ∧ (j ≤ l.length) ∧ (∀ k (h : k < l.length), k < j → ((l[k].1.size : Int) ≤ 40))) ?_ _ _ _ ⟨0, rfl, rfl, rfl, Nat.zero_le _, (by exact fun k _ h => absurd h (by omega))⟩
  rintro kk ff ss ⟨j, hk0, rfl, rfl, hj, hi⟩
  refine VC.seq (VC.seq (VC.text ?_))
  refine VO.c (.move rfl) ?_
  refine VO.c (.move rfl) ?_
  refine VO.r (.len el56) ?_
  refine VO.c (.lss) ?_
  refine VO.go ?_
  refine VC.condD rfl (fun c2 => ?_) (fun c2 => ?_)
  · refine VC.skip (VC.seq (VC.block (VC.seq (VC.text ?_))))
    refine VO.c (.move rfl) ?_
    refine VO.c (.move rfl) ?_
    refine VO.c (.ix (j := j) rfl rfl el56 (by omega)) ?_
    refine VO.c (.fa (.l .o)) ?_
    refine VO.r (.ld vt9) ?_
    refine VO.r (.lenS) ?_
    refine VO.c (.gtr) ?_
    refine VO.go ?_
    refine VC.condD rfl (fun c4 => ?_) (fun c4 => ?_)
    · refine VC.seq (VC.text ?_)
      refine VO.c (.assign rfl) ?_
      refine VO.go ?_
      refine VC.ret ?_
      exact VEnd.one rfl evT (pvE (by rw [shortR, List.all_eq_false.2 ⟨_, List.getElem_mem (show j < l.length by omega), by simp; omega⟩] <;> rfl))
    refine VC.skip (VC.text ?_)
    refine VO.c (.move rfl) ?_
    refine VO.c (.add rfl rfl (by omega)) ?_
    refine VO.c (.assign rfl) ?_
    refine VO.nil ?_
    refine ⟨_, [(0, .v y56 l), (3, I (((j + 1) : Nat) : Int))], ?_, ⟨rfl, rfl, trivial⟩, (j + 1), rfl, rfl, rfl, (by omega), (by exact fun k h h3 => if e : k = j then (by subst e; omega) else hi k h (by omega))⟩
    omega
  refine VC.exit (VC.seq (VC.text ?_))
  refine VO.c (.move rfl) ?_
  refine VO.r (.len el56) ?_
  refine VO.c (.leq) ?_
  refine VO.c (.assign rfl) ?_
  refine VO.go ?_
  refine VC.ret ?_
  exact VEnd.one rfl evT (pvE (by rw [shortR, List.all_eq_true.2 (fun x hx => by obtain ⟨k, h, rfl⟩ := List.mem_iff_getElem.1 hx; exact decide_eq_true (hi k h (by omega))), Bool.true_and]))
theorem wfL {e : Ty} {xs : List e.den} (h : Wf (.sl e) xs) : xs.length ≤ 9223372036854775807 := Nat.le_trans h.1 (by decide)
theorem shortR_t {l : List Rul1} (h : shortR l = true) : l.length ≤ 9 := by
  unfold shortR at h
  simp only [Bool.and_eq_true, decide_eq_true_eq] at h
  omega
theorem law6_ok {r : ByteArray × Int × (List Nat) × (List (Int × Int))} {s : Int × Int} {l : List (ByteArray × Int × Int)} (hl : l.length ≤ 9223372036854775807) : VF Tryz.prog OA 6 [.v y55 r, .v y39 s, .v y56 l] (B true) := by
  refine VF.enter Tryz.func6 rfl (fun _ _ => rfl) rfl ?_
  show VC _ _ _ _ _ [(0, .v y55 r), (1, .v y39 s), (2, .v y56 l)] [] _
  refine VC.seq (VC.text ?_)
  refine VO.new (.box) ?_
  refine VO.new (.box) ?_
  refine VO.c (.assign rfl) ?_
  refine VO.go (VC.seq (VC.seq (VC.text ?_)))
  refine VO.call rfl rfl (VF.call (awake_ok )) ?_
  refine VO.c (.not) ?_
  refine VO.c (.move rfl) ?_
  refine VO.r (.ld vt55) ?_
  refine VO.call rfl rfl (VF.call (rShort_ok )) ?_
  refine VO.c (.not) ?_
  refine VO.c (.pickF rfl rfl) ?_
  refine VO.c (.move rfl) ?_
  refine VO.cg (r := (!(shortE r))) (w := false) [] trivial (fun hgd => have g1_7 : (!(shortE r)) = false := (by first | exact eq_of_beq hgd | simpa using hgd); (.move rfl)) ?_
  refine VO.callg (r0 := (!(shortE r))) (w := false) [(17, .v y56 l)] ⟨rfl, trivial⟩ rfl rfl .same .refl rfl (fun hgd => have g1_7 : (!(shortE r)) = false := (by first | exact eq_of_beq hgd | simpa using hgd); VF.call (rShortR_ok (by first | assumption | omega | simp))) ?_
  refine VO.cg (r := (!(shortE r))) (w := false) [(18, B (shortR l))] ⟨rfl, trivial⟩ (fun hgd => have g1_7 : (!(shortE r)) = false := (by first | exact eq_of_beq hgd | simpa using hgd); (.not)) ?_
  refine VO.c (.or) ?_
  refine VO.go ?_
  refine VC.condB rfl (fun c1 => ?_) (fun c1 => ?_)
  · try simp only [Bool.and_eq_true, Bool.or_eq_true, Bool.and_eq_false_iff, Bool.or_eq_false_iff, Bool.not_eq_true', Bool.not_eq_false', decide_eq_true_eq, decide_eq_false_iff_not] at c1
    refine VC.seq (VC.text ?_)
    refine VO.call rfl rfl (VF.call (awake_ok )) ?_
    refine VO.c (.assign rfl) ?_
    refine VO.go ?_
    refine VC.ret ?_
    exact VEnd.one rfl evT (pvE (by rfl))
  try simp only [Bool.and_eq_true, Bool.or_eq_true, Bool.and_eq_false_iff, Bool.or_eq_false_iff, Bool.not_eq_true', Bool.not_eq_false', decide_eq_true_eq, decide_eq_false_iff_not] at c1
  have hs := shortE_t c1.1
  have hs9 := shortR_t c1.2
  have htk : (r.2.2.1.take (min ((r.2.2.1.length : Nat) : Int) (40 : Int)).toNat).length ≤ r.2.2.1.length := by rw [List.length_take]; exact Nat.min_le_right _ _
  have hll : l.length < 1000000 := by omega
  have hrl : r.2.2.1.length < 1000000 := by omega
  have hrg : r.2.2.2.length < 1000000 := by omega
  refine VC.skip (VC.seq (VC.seq (VC.text ?_)))
  refine VO.c (.fa (.r (.r (.l .o)))) ?_
  refine VO.r (.ld vt53) ?_
  refine VO.c (.fa (.r (.r (.l .o)))) ?_
  refine VO.r (.ld vt53) ?_
  refine VO.r (.len el53) ?_
  refine VO.r (.min) ?_
  refine VO.r (.cutH rfl rfl el53 (by omega)) ?_
  refine VO.r (.len el53) ?_
  refine VO.c (.move rfl) ?_
  refine VO.go (VC.block ?_)
  refine VC.keep [(2, .v y56 l), (3, .p y55 r), (4, .p y39 s), (28, .v y53 (r.2.2.1.take ((min ((r.2.2.1.length : Nat) : Int) (40 : Int))).toNat)), (29, I (((r.2.2.1.take ((min ((r.2.2.1.length : Nat) : Int) (40 : Int))).toNat).length : Nat) : Int)), (30, I ((0 : Nat) : Int))] ⟨rfl, rfl, rfl, rfl, rfl, rfl, trivial⟩ ?_
  refine VC.loop (I := fun kk ff ss => ∃ (j : Nat), kk = (r.2.2.1.take (min ((r.2.2.1.length : Nat) : Int) 40).toNat).length - j ∧ ff = [(2, .v y56 l), (3, .p y55 r), (4, .p y39 s), (28, .v y53 (r.2.2.1.take ((min ((r.2.2.1.length : Nat) : Int) (40 : Int))).toNat)), (29, I (((r.2.2.1.take ((min ((r.2.2.1.length : Nat) : Int) (40 : Int))).toNat).length : Nat) : Int)), (30, I ((j : Nat) : Int))] ∧ ss = [] ∧ (j ≤ (r.2.2.1.take (min ((r.2.2.1.length : Nat) : Int) 40).toNat).length)) ?_ _ _ _ ⟨0, rfl, rfl, rfl, (by omega)⟩
  rintro kk ff ss ⟨j, hk0, rfl, rfl, hj⟩
  refine VC.seq (VC.text ?_)
  refine VO.c (.lss) ?_
  refine VO.go (VC.seq ?_)
  refine VC.condD rfl (fun c4 => ?_) (fun c4 => ?_)
  · refine VC.skip (VC.seq (VC.block (VC.seq (VC.text ?_))))
    refine VO.c (.ix (j := j) rfl rfl el53 (by omega)) ?_
    refine VO.r (.ld vt59) ?_
    refine VO.c (.assign rfl) ?_
    refine VO.go (VC.seq (VC.text ?_))
    refine VO.c (.move rfl) ?_
    refine VO.call rfl rfl (VF.call (gLv_ok )) ?_
    refine VO.c (.move rfl) ?_
    refine VO.call rfl rfl (VF.call (rLv_ok )) ?_
    refine VO.c (.neq) ?_
    refine VO.go ?_
    refine VC.condD rfl (fun c6 => ?_) (fun c6 => ?_)
    · exact absurd rfl c6
    refine VC.skip (VC.text ?_)
    refine VO.c (.add rfl rfl (by omega)) ?_
    refine VO.c (.move rfl) ?_
    refine VO.nil ?_
    refine ⟨_, [(2, .v y56 l), (3, .p y55 r), (4, .p y39 s), (28, .v y53 (r.2.2.1.take ((min ((r.2.2.1.length : Nat) : Int) (40 : Int))).toNat)), (29, I (((r.2.2.1.take ((min ((r.2.2.1.length : Nat) : Int) (40 : Int))).toNat).length : Nat) : Int)), (30, I (((j + 1) : Nat) : Int))], ?_, ⟨rfl, rfl, rfl, rfl, rfl, rfl, trivial⟩, (j + 1), rfl, rfl, rfl, (by omega)⟩
    omega
  refine VC.exit (VC.seq (VC.drawn ?_))
  refine VD.r [] (.ld vt39) (.inl rfl) ?_
  refine VD.call rfl rfl (VF.call (gSpan_ok )) ?_
  refine VD.r [] (.ld vt39) (.inl rfl) ?_
  refine VD.call rfl rfl (VF.call (rSpan_ok )) ?_
  refine VD.c (.eql) ?_
  refine VD.c (.move rfl) ?_
  refine VD.nw [] ?_
  refine VD.splitD (x := 45) rfl (fun g9_5 => ?_) (fun g9_5 => ?_)
  · refine VD.r [] (.ld vt55) (.inl rfl) ?_
    refine VD.call rfl rfl (VF.call (lRecord_ok (by first | assumption | omega | simp) (by first | assumption | omega | simp))) ?_
    refine VD.callO rfl rfl (VF.call (gRec_ok (by first | assumption | omega | simp) (by first | assumption | omega | simp))) ?_
    refine VD.r [] (.ld vt55) (.inl rfl) ?_
    refine VD.call rfl rfl (VF.call (rRec_ok (by first | assumption | omega | simp) (by first | assumption | omega | simp))) ?_
    refine VD.c (.eql) ?_
    refine VD.nw [47] ?_
    refine VD.c (.pickT rfl rfl) ?_
    refine VD.c (.move rfl) ?_
    refine VD.splitD (x := 53) rfl (fun g9_13 => ?_) (fun g9_13 => ?_)
    · refine VD.c (.move rfl) ?_
      refine VD.call rfl rfl (VF.call (lRules_ok (by first | assumption | omega | simp))) ?_
      refine VD.callO rfl rfl (VF.call (gRules_ok (by first | assumption | omega | simp))) ?_
      refine VD.c (.move rfl) ?_
      refine VD.nw [55, 47] ?_
      refine VD.call rfl rfl (VF.call (rRules_ok (by first | assumption | omega | simp))) ?_
      refine VD.c (.eql) ?_
      refine VD.c (.pickT rfl rfl) ?_
      refine VD.c (.assign rfl) ?_
      refine VD.go ?_
      refine VC.ret ?_
      exact VEnd.one rfl evT (pvE (by first | (simp; done) | exact absurd rfl g9_5 | exact absurd trivial g9_13 | (simp at g9_13; done)))
    refine VD.skip ?_
    refine VD.skip ?_
    refine VD.skip ?_
    refine VD.skip ?_
    refine VD.nw [47] ?_
    refine VD.skip ?_
    refine VD.skip ?_
    refine VD.c (.pickF rfl rfl) ?_
    refine VD.c (.assign rfl) ?_
    refine VD.go ?_
    refine VC.ret ?_
    exact VEnd.one rfl evT (pvE (by first | (simp; done) | exact absurd rfl g9_5 | exact absurd trivial g9_13 | (simp at g9_13; done)))
  refine VD.skip ?_
  refine VD.skip ?_
  refine VD.skip ?_
  refine VD.skip ?_
  refine VD.skip ?_
  refine VD.skip ?_
  refine VD.nw [] ?_
  refine VD.c (.pickF rfl rfl) ?_
  refine VD.c (.move rfl) ?_
  refine VD.skip ?_
  refine VD.skip ?_
  refine VD.skip ?_
  refine VD.skip ?_
  refine VD.skip ?_
  refine VD.nw [] ?_
  refine VD.skip ?_
  refine VD.c (.pickF rfl rfl) ?_
  refine VD.c (.assign rfl) ?_
  refine VD.go ?_
  refine VC.ret ?_
  exact VEnd.one rfl evT (pvE (by first | (simp; done) | exact absurd rfl g9_5 | exact absurd trivial g9_13 | (simp at g9_13; done)))
end Go.Proofs
namespace Go.Fs
open Go.RowKit (Below)
variable {P : Program}
def orcB (fi fj fc : FuncId) (T : TypeId) : FuncId → List Value → Heap → Option (Value × Heap) := fun f xs h =>
  bif Nat.beq f fc then
    match xs with
    | [.pointer (some ⟨b, 0, none⟩)] =>
      match h.get b with
      | some (.row e [p, v] true false) =>
        bif Nat.beq e T then
          match p with
          | .pointer none => some (.tuple #[], h.set b (.row e [.pointer (some ⟨b, 0, none⟩), v] true false))
          | .pointer (some ⟨b', 0, none⟩) => bif Nat.beq b' b then some (.tuple #[], h) else none
          | _ => none
        else none
      | _ => none
    | _ => none
  else orcS fi fj f xs h
theorem orcB_sound {B : Nat} {w0 : World} {fi fj fc : FuncId} {T : TypeId} (hz : w0.drawn = 0) (hS : CallSound P B w0 (orcS fi fj)) (hc : Enters P fc)
    (hF : ∀ (b : Nat) (w : World), w.cell? ⟨b, 0, none⟩ = some (.pointer none) → w.shape? b = some (T, 2) → w.frozen? ⟨b, 0, none⟩ = false →
      Calls P fc #[.pointer (some ⟨b, 0, none⟩)] w fun e w' => e = .returned (.tuple #[]) ∧ w' = w.setCell ⟨b, 0, none⟩ (.pointer (some ⟨b, 0, none⟩)))
    (hU : ∀ (b : Nat) (w : World), w.cell? ⟨b, 0, none⟩ = some (.pointer (some ⟨b, 0, none⟩)) → Calls P fc #[.pointer (some ⟨b, 0, none⟩)] w fun e w' => e = .returned (.tuple #[]) ∧ w' = w) :
    CallSound P B w0 (orcB fi fj fc T) := by
  intro f xs h v h' hf
  unfold orcB at hf
  cases hb : Nat.beq f fc with
  | false =>
    rw [hb] at hf
    exact hS f xs h v h' hf
  | true =>
    have := nbeq hb
    subst this
    rw [hb] at hf
    simp only [cond_true] at hf
    split at hf
    · rename_i b
      split at hf
      · rename_i e p u hg
        obtain ⟨he, hf2⟩ := bif_some hf
        obtain rfl := nbeq he
        refine ⟨hc, fun ρ S w args' hr ha nn => ?_⟩
        obtain ⟨hsb, cur, k1, k2, k3, k4, k5, k6, k7⟩ := hr.objs b _ hg
        have hcl : cur.length = 2 := (k6 rfl).symm
        match cur, hcl with
        | [p', u'], _ =>
        have hp : VR ρ S p p' := k7 0 (by simp)
        have hu : VR ρ S u u' := k7 1 (by simp)
        have hat : (ρ b).at 0 = ⟨(ρ b).block, 0, none⟩ := by unfold Loc.at; rw [k2]
        have harg : args' = [.pointer (some ⟨(ρ b).block, 0, none⟩)] := by
          have h1 := ha.1
          match args', h1 with
          | [a], _ =>
            have h2 : VR ρ S (.pointer (some ⟨b, 0, none⟩)) a := ha.2 0 (by simp)
            rw [h2.ptr_inv.2, hat]
        subst harg
        have hcell : w.cell? ⟨(ρ b).block, 0, none⟩ = some p' := by simp [World.cell?, k1]
        split at hf2
        · simp only [Option.some.injEq, Prod.mk.injEq] at hf2
          obtain ⟨rfl, rfl⟩ := hf2
          obtain rfl := hp.eq_of_af0 rfl
          have hC : CallsIn Fence.wide nn P f #[.pointer (some ⟨(ρ b).block, 0, none⟩)] w _ := callsIn_wide.2 (hF (ρ b).block w hcell (by simp [World.shape?, k1]) (frozen_soft k1 (by rw [k3]; exact Nat.zero_lt_succ _)))
          refine hC.mono fun e2 w' hret => ?_
          obtain ⟨rfl, rfl⟩ := hret
          refine ⟨ρ, Moved.set hr hg rfl rfl rfl rfl rfl (by simp [World.setCell]) (fun k hk => ?_) ?_, VR.tuple' LR.nil⟩
          · simp only [World.setCell, Array.getElem?_modify]
            rw [if_neg (fun e0 => hk e0.symm)]
          refine ⟨[.pointer (some ⟨(ρ b).block, 0, none⟩), u'], ?_, k2, k3, k4, Nat.le_refl _, fun _ => rfl, fun i hi => ?_⟩
          · simp only [World.setCell, Array.getElem?_modify, if_pos rfl, k1]
            simp
          match i, hi with
          | 0, _ => show VR ρ S (.pointer (some ⟨b, 0, none⟩)) (.pointer (some ⟨(ρ b).block, 0, none⟩)); rw [← hat]; exact .ptr b 0 hsb
          | 1, _ => exact hu
        · rename_i b'
          obtain ⟨hbb, hf3⟩ := bif_some hf2
          obtain rfl := nbeq hbb
          simp only [Option.some.injEq, Prod.mk.injEq] at hf3
          obtain ⟨rfl, rfl⟩ := hf3
          have hp2 := hp.ptr_inv.2
          rw [hat] at hp2
          subst hp2
          have hC : CallsIn Fence.wide nn P f #[.pointer (some ⟨(ρ b').block, 0, none⟩)] w _ := callsIn_wide.2 (hU (ρ b').block w hcell)
          refine hC.mono fun e2 w' hret => ?_
          obtain ⟨rfl, rfl⟩ := hret
          exact ⟨ρ, Moved.same hr, VR.tuple' LR.nil⟩
        cases hf2
      cases hf
    cases hf
end Go.Fs
namespace Go.Fs
open Go.RowKit (Below)
variable {P : Program} {ops : Array Oper} {n : Nat}
def sameV : Value → Value → Bool
  | .int k a, .int k' b => decide (k = k') && decide (a = b)
  | .bool a, .bool b => decide (a = b)
  | _, _ => false
theorem sameV_eq {a b : Value} (h : sameV a b = true) : a = b := by
  unfold sameV at h
  split at h
  · obtain ⟨h1, h2⟩ := band h
    rw [of_decide_eq_true h1, of_decide_eq_true h2]
  · rw [of_decide_eq_true h]
  cases h
def sameL : List Value → List Value → Bool
  | [], [] => true
  | a :: r, b :: q => sameV a b && sameL r q
  | _, _ => false
theorem sameL_eq : ∀ {a b : List Value}, sameL a b = true → a = b
  | [], [], _ => rfl
  | [], _ :: _, h => by cases h
  | _ :: _, [], h => by cases h
  | a :: r, b :: q, h => by
    obtain ⟨h1, h2⟩ := band (h : (sameV a b && sameL r q) = true)
    rw [sameV_eq h1, sameL_eq h2]
def sameO : AObj → AObj → Bool
  | .row e cs o m, .row e' cs' o' m' => Nat.beq e e' && sameL cs cs' && decide (o = o') && decide (m = m')
  | _, _ => false
theorem sameO_eq {a b : AObj} (h : sameO a b = true) : a = b := by
  unfold sameO at h
  split at h
  · obtain ⟨h, h1⟩ := band h
    obtain ⟨h, h2⟩ := band h
    obtain ⟨h, h3⟩ := band h
    rw [nbeq h, sameL_eq h3, of_decide_eq_true h2, of_decide_eq_true h1]
  cases h
def okRd (rd : List (Nat × AObj)) (h : Heap) : Bool := rd.all fun p => match h.get p.1 with
  | some ob => sameO ob p.2
  | none => false
theorem stLook_mem {b : Nat} {ob : AObj} : ∀ {l : List (Nat × AObj)}, look l b = some ob → (b, ob) ∈ l
  | [], h => by cases h
  | (c, oc) :: r, h => by
    simp only [look] at h
    cases hc : Nat.beq c b with
    | true =>
      rw [hc] at h
      simp only [cond_true, Option.some.injEq] at h
      rw [nbeq hc, h]; exact List.mem_cons_self
    | false =>
      rw [hc] at h
      simp only [cond_false] at h
      exact List.mem_cons_of_mem _ (stLook_mem h)
theorem okRd_get {rd : List (Nat × AObj)} {h : Heap} (hk : okRd rd h = true) {b : Nat} {ob : AObj} (hl : look rd b = some ob) : h.get b = some ob := by
  have := List.all_eq_true.1 hk _ (stLook_mem hl)
  simp only at this
  split at this
  · rename_i o2 hg
    rw [hg, sameO_eq this]
  cases this
def stillR (P : Program) (rd : List (Nat × AObj)) (ops : Array Oper) (n : Nat) (o : Oper) (s : DSt) : Option DSt :=
  match fsWanted ops s.t o, o.op with
  | some true, .load T a =>
    match evalO s.t a with
    | .pointer (some p) =>
      match look rd p.block with
      | some ob =>
        match fsLoad P T (evalO s.t a) { next := s.h.next, low := s.h.next, objs := [(p.block, ob)] } with
        | some v => (put n s.t o.dst v).map fun t => { s with t, bs := s.bs ++ [beforeOf s.bs o] }
        | none => none
      | none => none
    | _ => none
  | _, _ => none
def fsDrawnY (P : Program) (rd : List (Nat × AObj)) (step : Oper → (Operand → Value) → Heap → Option (Value × Heap)) (ops : Array Oper) (n : Nat) : List Oper → Nat → DSt → Option DSt
  | [], _, s => bif okRd rd s.h then some s else none
  | o :: r, i, s => bif okRd rd s.h then
      match fsDraw step ops n o i s with
      | some s' => fsDrawnY P rd step ops n r (i + 1) s'
      | none => match stillR P rd ops n o s with
        | some s' => fsDrawnY P rd step ops n r (i + 1) s'
        | none => none
    else none
def fsReads (P : Program) (h0 : Heap) (step : Oper → (Operand → Value) → Heap → Option (Value × Heap)) (ops : Array Oper) (n : Nat) : List Oper → Nat → DSt → List (Nat × AObj) → List (Nat × AObj)
  | [], _, _, l => l
  | o :: r, i, s, l => match fsDraw step ops n o i s with
    | some s' => fsReads P h0 step ops n r (i + 1) s' l
    | none => match stillO P h0 ops n o s with
      | some (s', b) => match h0.get (b - 1) with
        | some ob => fsReads P h0 step ops n r (i + 1) s' ((b - 1, ob) :: l)
        | none => l
      | none => l
def drawnY (P : Program) (h0 : Heap) (step : Oper → (Operand → Value) → Heap → Option (Value × Heap)) (ops : Array Oper) (n : Nat) (s : DSt) (rd : List (Nat × AObj)) : Option DSt :=
  bif rd.all fun p => Nat.blt p.1 h0.next then fsDrawnY P rd step ops n ops.toList 0 s else none

theorem stillR_of {call : FuncId → List Value → Heap → Option (Value × Heap)} {yield : Nat → List Value → Heap → Option (Value × Heap)} {X : Nat → AObj → Prop} {rd : List (Nat × AObj)} {o : Oper} {i : Nat} {s s' : DSt}
    (hf : stillR P rd ops n o s = some s') (hX : ∀ c ob, look rd c = some ob → X c ob) :
    s'.bs = s.bs ++ [beforeOf s.bs o] ∧ Did (fsOp P call yield) ops n X o i s s' := by
  unfold stillR at hf
  split at hf
  · rename_i T a hw hop
    split at hf
    · rename_i p hev
      split at hf
      · rename_i ob hg
        split at hf
        · rename_i v hv
          obtain ⟨t, h3, h4⟩ := Option.map_eq_some_iff.1 hf
          subst h4
          refine ⟨rfl, .still hw v [(p.block, ob)] (fun c oc hc => ?_) ?_ h3 rfl rfl rfl rfl⟩
          · simp only [look] at hc
            cases hbc : Nat.beq p.block c with
            | true =>
              rw [hbc] at hc
              simp only [cond_true, Option.some.injEq] at hc
              obtain rfl := nbeq hbc
              subst hc
              exact hX _ _ hg
            | false => rw [hbc] at hc; cases hc
          unfold fsOp
          rw [hop]
          simp only [hv, Option.map_some]
        cases hf
      cases hf
    cases hf
  cases hf
theorem drawnY_trace {call : FuncId → List Value → Heap → Option (Value × Heap)} {yield : Nat → List Value → Heap → Option (Value × Heap)} {rd : List (Nat × AObj)} : ∀ (l : List Oper) (i : Nat) (s s' : DSt), fsDrawnY P rd (fsOp P call yield) ops n l i s = some s' →
    ∃ st : Nat → DSt, st i = s ∧ st (i + l.length) = s' ∧ (∀ q, i ≤ q → q ≤ i + l.length → okRd rd (st q).h = true) ∧
    ∀ j o, l[j]? = some o → ∀ X : Nat → AObj → Prop, (∀ c ob, look rd c = some ob → X c ob) → (st (i + j + 1)).bs = (st (i + j)).bs ++ [beforeOf (st (i + j)).bs o] ∧ Did (fsOp P call yield) ops n X o (i + j) (st (i + j)) (st (i + j + 1))
  | [], i, s, s', h => by
    simp only [fsDrawnY] at h
    obtain ⟨h1, h2⟩ := bif_some h
    simp only [Option.some.injEq] at h2
    subst h2
    exact ⟨fun _ => s, rfl, rfl, fun _ _ _ => h1, fun j o hj => by simp at hj⟩
  | o :: l, i, s, s', h => by
    simp only [fsDrawnY] at h
    obtain ⟨hok, h⟩ := bif_some h
    have key : ∀ s1, fsDrawnY P rd (fsOp P call yield) ops n l (i + 1) s1 = some s' →
        (∀ X : Nat → AObj → Prop, (∀ c ob, look rd c = some ob → X c ob) → s1.bs = s.bs ++ [beforeOf s.bs o] ∧ Did (fsOp P call yield) ops n X o i s s1) →
      ∃ st : Nat → DSt, st i = s ∧ st (i + (o :: l).length) = s' ∧ (∀ q, i ≤ q → q ≤ i + (o :: l).length → okRd rd (st q).h = true) ∧
        ∀ j o', (o :: l)[j]? = some o' → ∀ X : Nat → AObj → Prop, (∀ c ob, look rd c = some ob → X c ob) → (st (i + j + 1)).bs = (st (i + j)).bs ++ [beforeOf (st (i + j)).bs o'] ∧ Did (fsOp P call yield) ops n X o' (i + j) (st (i + j)) (st (i + j + 1)) := fun s1 hr hd => by
      obtain ⟨st, h1, h2, hq, h3⟩ := drawnY_trace l (i + 1) s1 s' hr
      refine ⟨fun k => if k = i then s else st k, by simp, ?_, fun q hq1 hq2 => ?_, fun j o' hj X hX => ?_⟩
      · simp only [List.length_cons]
        rw [if_neg (by omega), ← h2]
        congr 1; omega
      · rw [List.length_cons] at hq2
        by_cases e : q = i
        · subst e; simpa using hok
        simp only [if_neg e]; exact hq q (by omega) (by omega)
      cases j with
      | zero =>
        simp at hj
        subst hj
        simpa [h1] using hd X hX
      | succ j =>
        simp only [List.getElem?_cons_succ] at hj
        have := h3 j o' hj X hX
        rw [show i + 1 + j = i + (j + 1) by omega] at this
        simp only
        rw [if_neg (by omega), if_neg (by omega)]
        exact this
    split at h
    · rename_i s1 hs1
      exact key s1 h fun X _ => did_of hs1
    split at h
    · rename_i s1 hs1
      exact key s1 h fun X hX => stillR_of hs1 hX
    cases h
theorem traceY_of {call : FuncId → List Value → Heap → Option (Value × Heap)} {yield : Nat → List Value → Heap → Option (Value × Heap)} {t0 : Tr} {h0 : Heap} {s : DSt} {rd : List (Nat × AObj)} (h : drawnY P h0 (fsOp P call yield) ops n ⟨t0, h0, [], [], 0, false⟩ rd = some s) : ∃ st, Trace (fsOp P call yield) ops n st t0 h0 ∧ st ops.size = s := by
  unfold drawnY at h
  obtain ⟨hb, h⟩ := bif_some h
  obtain ⟨st, h1, h2, hq, h3⟩ := drawnY_trace _ _ _ _ h
  have h2' : st ops.size = s := by simpa using h2
  refine ⟨st, ⟨h1, fun i o ho => ?_⟩, h2'⟩
  have := h3 i o (by simpa using ho) (fun b ob => h0.get b = some ob ∧ b < h0.next ∧ (b < (st ops.size).h.low ∨ ∀ q, q ≤ ops.size → (st q).h.get b = some ob)) (fun c ob hc => ?_)
  · simpa only [Nat.zero_add] using this
  have hall : ∀ q, q ≤ ops.size → (st q).h.get c = some ob := fun q hq2 => okRd_get (hq q (Nat.zero_le _) (by simpa using hq2)) hc
  have h0 := hall 0 (Nat.zero_le _)
  rw [h1] at h0
  exact ⟨h0, nblt (List.all_eq_true.1 hb _ (stLook_mem hc)), .inr hall⟩
variable {B : Nat} {w0 : World} {S : Nat → Prop} {ρ0 : Ren} {call : FuncId → List Value → Heap → Option (Value × Heap)} {yield : Nat → List Value → Heap → Option (Value × Heap)} {t0 : Tr} {h0 : Heap}
theorem drawn_wpY (hcs : CallSnd P B w0 call) (hys : YieldSound P B w0 yield) (hok : regionOk ops = true) {s : DSt} {rd : List (Nat × AObj)} (hf : drawnY P h0 (fsOp P call yield) ops n ⟨t0, h0, [], [], 0, false⟩ rd = some s)
    {w : World} {a : Act} (hr : HR P ρ0 S B w0 h0 w) (ht : TrR ρ0 S t0 n a.tmps) {r : Option Nat} {nn : Nat} {Q : Exit → Act → World → Prop}
    (k : ∀ ρ' w' a', Moved P B w0 ρ0 ρ' S h0 s.h w w' → TrR ρ' (Ext S h0 s.h) s.t n a'.tmps → a'.defers = a.defers → Q .normal a' w') (t : Nat) :
    wpOpsIn (Wide r) nn P ops Q (Region.schedule true ops t) a w := drawn_wpT hcs hys hok (traceY_of hf) hr ht k t
end Go.Fs
namespace Go.Fs
open Go.RowKit (Below)
variable {P : Program} {B : Nat} {w0 : World}

def fsStepX (P : Program) (orc : FuncId → List Value → Heap → Option (Value × Heap)) (rec : Rec) : Rec := fun rnd c fr h =>
  match c with
  | .region _ ops true => match drawnX P { next := h.next, low := h.next, objs := h.objs } (fsOp P (callOf P orc rec) (fsYield rec)) ops fr.n ⟨fr.t, { next := h.next, low := h.next, objs := h.objs }, [], [], 0, false⟩ with
    | some s => some (.normal, { t := s.t, n := fr.n, marks := fr.marks }, { next := s.h.next, low := min h.low s.h.low, objs := s.h.objs })
    | none => match drawnY P { next := h.next, low := h.next, objs := h.objs } (fsOp P (callOf P orc rec) (fsYield rec)) ops fr.n ⟨fr.t, { next := h.next, low := h.next, objs := h.objs }, [], [], 0, false⟩ (fsReads P { next := h.next, low := h.next, objs := h.objs } (fsOp P (callOf P orc rec) (fsYield rec)) ops fr.n ops.toList 0 ⟨fr.t, { next := h.next, low := h.next, objs := h.objs }, [], [], 0, false⟩ []) with
      | some s => some (.normal, { t := s.t, n := fr.n, marks := fr.marks }, { next := s.h.next, low := min h.low s.h.low, objs := s.h.objs })
      | none => fsStep P orc rec rnd c fr h
  | c => fsStep P orc rec rnd c fr h
def fsCodeX (P : Program) (orc : FuncId → List Value → Heap → Option (Value × Heap)) : Nat → Rec
  | 0 => fun _ _ _ _ => none
  | n + 1 => fsStepX P orc (fsCodeX P orc n)

theorem HR.low {ρ : Ren} {S : Nat → Prop} {h : Heap} {w : World} (hr : HR P ρ S B w0 h w) (l : Nat) : HR P ρ S B w0 { next := h.next, low := l, objs := h.objs } w :=
  { objs := hr.objs, inj := hr.inj, base := hr.base, ro := hr.ro, ids := hr.ids, pos := hr.pos, below := hr.below, drawn := hr.drawn, size := hr.size }
theorem Moved.lowered {ρ ρ' : Ren} {S : Nat → Prop} {h h' : Heap} {w w' : World} {l : Nat} (m : Moved P B w0 ρ ρ' S { next := h.next, low := l, objs := h.objs } h' w w') :
    Moved P B w0 ρ ρ' S h { next := h'.next, low := min h.low h'.low, objs := h'.objs } w w' where
  agree := m.agree
  next := m.next
  hr := m.hr.low _
  frame := ⟨m.frame.os, m.frame.tape, m.frame.output, m.frame.size, m.frame.block⟩
  low := Nat.min_le_left _ _
  keep := fun i hi hl => m.keep i hi (Nat.lt_of_lt_of_le hl (Nat.min_le_right _ _))
  old := m.old
  fresh := fun i o ho hi => by
    obtain ⟨h1, h2⟩ := m.fresh i o ho hi
    refine ⟨h1, ?_⟩
    rcases h2 with h2 | ⟨j, oj, h3, h4, h5, h6, h7⟩
    · exact .inl h2
    exact .inr ⟨j, oj, h3, h4, h5, Nat.le_trans (Nat.min_le_right _ _) h6, h7⟩
theorem stepX_sound (hP : ProgOk P) {orc : FuncId → List Value → Heap → Option (Value × Heap)} (horc : CallSound P B w0 orc) {m : Nat} {rec : Rec} (hrec : SoundR P B w0 m rec) : SoundR P B w0 (m + 1) (fsStepX P orc rec) := by
  have hcs : CallSnd P B w0 (callOf P orc rec) := call_sound hP horc hrec
  have hys : YieldSound P B w0 (fsYield rec) := yield_sound hrec
  have hold := step_sound hP horc hrec
  intro rnd c fr h e fr' h' hok hf
  cases c with
  | region id ops draw =>
    cases draw with
    | false => exact hold rnd _ fr h e fr' h' hok hf
    | true =>
      intro ρ S w a nn Q hr ht hm hs k
      simp only [fsStepX] at hf
      split at hf
      · rename_i s hrun
        simp only [Option.some.injEq, Prod.mk.injEq] at hf
        obtain ⟨rfl, rfl, rfl⟩ := hf
        refine wpIn_region_draw fun t => ?_
        rw [hP.mixed]
        exact drawn_wpX (h0 := { next := h.next, low := h.next, objs := h.objs }) (call := callOf P orc rec) (yield := fsYield rec) hcs hys hok hrun ((hr.drew _).low _) ht (fun ρ1 w1 a1 m1 ht1 hd1 => k _ _ _ ⟨(Moved.ofDrew m1).lowered, ht1, by rw [hd1]; exact hm.mono fun b hb => ⟨.inl hb, m1.agree b hb⟩⟩) t
      split at hf
      · rename_i s hrun
        simp only [Option.some.injEq, Prod.mk.injEq] at hf
        obtain ⟨rfl, rfl, rfl⟩ := hf
        refine wpIn_region_draw fun t => ?_
        rw [hP.mixed]
        exact drawn_wpY (h0 := { next := h.next, low := h.next, objs := h.objs }) (call := callOf P orc rec) (yield := fsYield rec) hcs hys hok hrun ((hr.drew _).low _) ht (fun ρ1 w1 a1 m1 ht1 hd1 => k _ _ _ ⟨(Moved.ofDrew m1).lowered, ht1, by rw [hd1]; exact hm.mono fun b hb => ⟨.inl hb, m1.agree b hb⟩⟩) t
      exact hold rnd _ fr h e fr' h' hok hf ρ S w a nn Q hr ht hm hs k
  | _ => exact hold rnd _ fr h e fr' h' hok hf

theorem codeX_sound (hP : ProgOk P) {orc : FuncId → List Value → Heap → Option (Value × Heap)} (horc : CallSound P B w0 orc) : ∀ m, SoundR P B w0 m (fsCodeX P orc m)
  | 0 => fun rnd c fr h e fr' h' _ hf => by cases hf
  | m + 1 => stepX_sound hP horc (codeX_sound hP horc m)
theorem fsX_calls (hP : ProgOk P) {orc : FuncId → List Value → Heap → Option (Value × Heap)} (horc : CallSound P B w0 orc) (m : Nat) : CallSound P B w0 (fsEnter P (fsCodeX P orc m)) := enter_sound hP (codeX_sound hP horc m)
theorem fsX_closed (hP : ProgOk P) {w : World} {orc : FuncId → List Value → Heap → Option (Value × Heap)} (horc : CallSound P w.heap.size (wz w) orc) {m : Nat} {f : FuncId} {args : List Value} {v : Value} (ha : args.all af = true)
    (hf : (fsEnter P (fsCodeX P orc m) f args ⟨1, 1, []⟩).map (·.1) = some v) (hv : af v = true) :
    Calls P f args.toArray w fun | .returned v', w' => v' = v ∧ Below w.heap.size w w' | _, _ => False := by
  obtain ⟨⟨v0, h0⟩, h1, h2⟩ := Option.map_eq_some_iff.1 hf
  simp only at h2
  subst h2
  have hr : HR P (fun _ => Loc.clean 0 0 0 0) (fun _ => False) w.heap.size (wz w) ⟨1, 1, []⟩ w :=
    { objs := fun i o hi => (by cases hi), inj := fun i j oi oj hi => (by cases hi), base := fun i o hi => (by cases hi), ro := fun i o hi => (by cases hi), ids := fun b hb => hb.elim, pos := by decide,
      below := z_below (Below.refl _ _), drawn := Nat.zero_le _, size := Nat.le_refl _ }
  have hc := ((fsX_calls hP horc m) f args _ _ _ h1).2 _ _ w args hr ⟨rfl, fun i hi => .of_af (List.all_eq_true.1 ha _ (mem_getD hi))⟩ 0
  refine Calls.mono (callsIn_wide.1 hc) fun e w' he => ?_
  cases e with
  | returned v' =>
    obtain ⟨ρ', m1, hv1⟩ := he
    exact ⟨hv1.eq_of_af hv, below_z m1.hr.below⟩
  | panicked c => exact he.elim
  | outgrown => exact he.elim
theorem awakeX_calls (hP : ProgOk P) {B : Nat} {w0 : World} {O : FuncId → List Value → Heap → Option (Value × Heap)} {fa : FuncId} (hS : ∀ w, Below B w0 w → CallSound P w.heap.size (wz w) O) {m : Nat}
    (hrun : (fsEnter P (fsCodeX P O m) fa [] ⟨1, 1, []⟩).map (·.1) = some (.bool true)) (w : World) (hw : Below B w0 w) :
    Calls P fa #[] w fun | .returned v', w' => v' = .bool true ∧ Below w.heap.size w w' | _, _ => False :=
  fsX_closed hP (hS w hw) (args := []) rfl hrun rfl
end Go.Fs
namespace Go.Fs
variable {P : Program} {orc : FuncId → List Value → Heap → Option (Value × Heap)}
def runPre (P : Program) (orc : FuncId → List Value → Heap → Option (Value × Heap)) : Nat → Nat → Code → Fr → Heap → Option (Nat × Code × Fr × Heap)
  | 0, n, c, fr, h => some (n, c, fr, h)
  | k + 1, n, c, fr, h => match n, c with
    | n + 1, .seq a b => match fsCodeX P orc n none a fr h with
      | some (.normal, fr1, h1) => runPre P orc k n b fr1 h1
      | _ => none
    | _, _ => none
theorem run_via : ∀ {k n : Nat} {c : Code} {fr : Fr} {h : Heap} {n' : Nat} {c' : Code} {fr' : Fr} {h' : Heap}, runPre P orc k n c fr h = some (n', c', fr', h') → fsCodeX P orc n none c fr h = fsCodeX P orc n' none c' fr' h'
  | 0, n, c, fr, h, n', c', fr', h', hr => by
    simp only [runPre, Option.some.injEq, Prod.mk.injEq] at hr
    obtain ⟨rfl, rfl, rfl, rfl⟩ := hr
    rfl
  | k + 1, n, c, fr, h, n', c', fr', h', hr => by
    simp only [runPre] at hr
    split at hr
    · rename_i n a b
      split at hr
      · rename_i fr1 h1 ha
        rw [← run_via hr]
        show fsStep P orc (fsCodeX P orc n) none (.seq a b) fr h = _
        simp only [fsStep, ha]
      cases hr
    cases hr
def endV (P : Program) (fn : Func) (h : Heap) (x : Ex × Fr × Heap) : Option Value :=
  bif x.1.goes then
    match dropMarks x.2.1.marks x.2.2 with
    | some h2 => (fsResults P x.2.1.t h2 fn.results.toList).map tupled
    | none => none
  else none
theorem enter_map {rec : Rec} {f : FuncId} {args : List Value} {h : Heap} {fn : Func} {c : Code} (hf : P.funcs[f]? = some fn) (hc : fn.body = some c) (hn : (Nat.blt 4000 fn.ntmps || Nat.blt fn.ntmps args.length) = false) :
    (fsEnter P rec f args h).map (·.1) = (rec none c ⟨fillTr .leaf 0 args, fn.ntmps, []⟩ { next := h.next, low := h.next, objs := h.objs }).bind (endV P fn h) := by
  unfold fsEnter fsEnterK endV
  simp only [hf, hc, hn, cond_false]
  cases rec none c ⟨fillTr .leaf 0 args, fn.ntmps, []⟩ { next := h.next, low := h.next, objs := h.objs } with
  | none => rfl
  | some x =>
    obtain ⟨e, fr, h1⟩ := x
    simp only [Option.bind_some]
    cases e.goes with
    | false => rfl
    | true =>
      simp only [cond_true]
      cases dropMarks fr.marks h1 with
      | none => rfl
      | some h2 =>
        simp only
        cases fsResults P fr.t h2 fn.results.toList with
        | none => rfl
        | some vs =>
          simp only [Option.map_some]
          generalize (!false && (af (tupled vs) && Nat.ble h.next h2.low)) = q
          cases q <;> rfl
def sufx : Nat → Code → Code
  | 0, c => c
  | k + 1, .seq _ b => sufx k b
  | _ + 1, c => c
def rfOf : Code → Option (Array Tmp × Code × Code)
  | .rangeFunc _ ps a b => some (ps, a, b)
  | .seq a b => (rfOf a).or (rfOf b)
  | .cond _ a b => (rfOf a).or (rfOf b)
  | .block _ b => rfOf b
  | .loop b => rfOf b
  | .scope b => rfOf b
  | _ => none
def rfIn (fn : Func) : Array Tmp × Code × Code := (fn.body.bind rfOf).getD (#[], .skip, .skip)
end Go.Fs
namespace Go.Fs
open Go.RowKit (Below)

variable {P : Program} {B : Nat} {w0 : World}
theorem orcI_sound {fi : FuncId} (hz : w0.drawn = 0) (hi : Enters P fi)
    (hI : ∀ (n : Int) (w : World), Below B w0 w → -9223372036854775808 ≤ n → n ≤ 9223372036854775807 → Calls P fi #[.int .i64 n] w fun e w' => e = .returned (.string ⟨(Lib.itoa n).toArray⟩) ∧ Below w.heap.size w w') : CallSound P B w0 (orcS fi fi) := by
  intro f xs h v h' hf
  unfold orcS at hf
  cases hfi : Nat.beq f fi with
  | true =>
    have := nbeq hfi
    subst this
    rw [hfi] at hf
    simp only [cond_true] at hf
    split at hf
    · rename_i n
      obtain ⟨hc, hf2⟩ := bif_some hf
      obtain ⟨h0, h1⟩ := band hc
      have h0 := of_decide_eq_true h0
      have h1 := of_decide_eq_true h1
      simp only [Option.some.injEq, Prod.mk.injEq] at hf2
      obtain ⟨rfl, rfl⟩ := hf2
      refine ⟨hi, fun ρ S w args' hr ha nn => ?_⟩
      have he : args' = [.int .i64 n] := ha.eq_of_af (by rfl)
      subst he
      have hC : CallsIn Fence.wide nn P f #[.int .i64 n] w _ := callsIn_wide.2 (hI n w hr.below (by omega) (by omega))
      refine hC.mono fun e w' hret => ?_
      obtain ⟨rfl, hb⟩ := hret
      exact ⟨ρ, Moved.grewWorld hr hb (by rw [hz]; exact Nat.zero_le _), by rw [itoaF_eq h0 h1]; exact .lit rfl⟩
    cases hf
  | false =>
    rw [hfi] at hf
    simp only [cond_false] at hf
    cases hf
end Go.Fs
