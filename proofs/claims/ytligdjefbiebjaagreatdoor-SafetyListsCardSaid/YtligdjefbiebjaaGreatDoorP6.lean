/- Parts of the proof: an evaluator of the model, what it is sound for, and contracts of functions. No condition. -/
import Derived.Test.YtligdjefbiebjaaGreatDoorP5
import Derived.Sort.Walk0
set_option linter.all false
namespace Go.Proofs
open Go.Fs
set_option linter.unusedVariables false
abbrev y128 : Ty := (.pair (.int .i64) (.int .i64))
theorem vt128 : ValT Tryz.prog 128 y128 := valT_of (by kernel_rfl)
theorem zt128 : ZerT Tryz.prog 128 y128 := zerT_of (z := .agg #[.int .i64 0, .int .i64 0]) (by kernel_rfl) rfl rfl
theorem bt128 : BldT Tryz.prog 128 y128 [(0, 1), (1, 1)] := bldT_of zt128 rfl (by kernel_rfl)
def idxG {α : Type} (F : α → Bool) : List α → Int → Int
  | [], _ => -1
  | x :: l, k => if F x = true then k else idxG F l (k + 1)
theorem idxG_drop {α : Type} {F : α → Bool} {l : List α} {j : Nat} (hj : j < l.length) : idxG F (l.drop j) (j : Nat) = if F l[j] = true then ((j : Nat) : Int) else idxG F (l.drop (j + 1)) ((j + 1 : Nat) : Int) := by
  rw [List.drop_eq_getElem_cons hj] <;> rfl
theorem idxG_end {α : Type} {F : α → Bool} {l : List α} {j : Nat} {k : Int} (hj : l.length ≤ j) : idxG F (l.drop j) k = -1 := by rw [List.drop_eq_nil_of_le hj] <;> rfl
theorem idxG_any {α : Type} {F : α → Bool} : ∀ {l : List α} {k : Int}, 0 ≤ k → ((0 ≤ idxG F l k) ↔ l.any F = true)
  | [], k, _ => by simp [idxG]
  | x :: l, k, h => by
    unfold idxG
    rw [List.any_cons]
    by_cases hx : F x = true
    · rw [if_pos hx, hx]; simp [h]
    rw [if_neg hx, idxG_any (l := l) (by omega)]; simp [hx]
theorem any_drop {α : Type} {F : α → Bool} {l : List α} {j : Nat} (hj : j < l.length) : (l.drop j).any F = (F l[j] || (l.drop (j + 1)).any F) := by
  rw [List.drop_eq_getElem_cons hj, List.any_cons]
theorem any_end {α : Type} {F : α → Bool} {l : List α} {j : Nat} (hj : l.length ≤ j) : (l.drop j).any F = false := by rw [List.drop_eq_nil_of_le hj] <;> rfl
theorem zIndexF_ok {F : ByteArray → Bool} {l : List ByteArray} {f : PV} (hl : l.length < 1000000) (hf : ∀ x ∈ l, VCall Tryz.prog OA f [.v .str x] (B (F x))) : VF Tryz.prog OA 171 [.v (.sl .str) l, f] (I (idxG F l 0)) := by
  refine VF.enter Tryz.func171 rfl (fun _ _ => rfl) rfl ?_
  show VC _ _ _ _ _ [(0, .v (.sl .str) l), (1, f)] [] _
  refine VC.seq (VC.text ?_)
  refine VO.c (.assign rfl) ?_
  refine VO.go (VC.seq (VC.seq (VC.text ?_)))
  refine VO.c (.move rfl) ?_
  refine VO.r (.len el27) ?_
  refine VO.c (.move rfl) ?_
  refine VO.go (VC.block ?_)
  refine VC.keep [(0, .v (.sl .str) l), (1, f), (7, I ((l.length : Nat) : Int)), (8, I ((0 : Nat) : Int))] ⟨rfl, rfl, rfl, rfl, trivial⟩ ?_
  refine VC.loop (I := fun kk ff ss => ∃ (j : Nat), kk = l.length - j ∧ ff = [(0, .v (.sl .str) l), (1, f), (7, I ((l.length : Nat) : Int)), (8, I ((j : Nat) : Int))] ∧ ss = [] ∧ (j ≤ l.length) ∧ (idxG F l 0 = idxG F (l.drop j) (j : Nat))) ?_ _ _ _ ⟨0, rfl, rfl, rfl, Nat.zero_le _, (by rfl)⟩
  rintro kk ff ss ⟨j, hk0, rfl, rfl, hj, hi⟩
  refine VC.seq (VC.text ?_)
  refine VO.c (.lss) ?_
  refine VO.go (VC.seq ?_)
  refine VC.condD rfl (fun c2 => ?_) (fun c2 => ?_)
  · refine VC.skip (VC.seq (VC.block (VC.seq (VC.text ?_))))
    refine VO.c (.move rfl) ?_
    refine VO.c (.assign rfl) ?_
    refine VO.go (VC.seq (VC.text ?_))
    refine VO.c (.move rfl) ?_
    refine VO.c (.move rfl) ?_
    refine VO.c (.move rfl) ?_
    refine VO.c (.ix (j := j) rfl rfl el27 (by omega)) ?_
    refine VO.r (.ld vt9) ?_
    refine VO.call rfl rfl ((hf _ (List.getElem_mem _)) ) ?_
    refine VO.go ?_
    refine VC.condB rfl (fun c4 => ?_) (fun c4 => ?_)
    · refine VC.seq (VC.text ?_)
      refine VO.c (.move rfl) ?_
      refine VO.c (.assign rfl) ?_
      refine VO.go ?_
      refine VC.ret ?_
      exact VEnd.one rfl evT (pvI (by rw [hi, idxG_drop (by omega), if_pos c4]))
    refine VC.skip (VC.text ?_)
    refine VO.c (.add rfl rfl (by omega)) ?_
    refine VO.c (.move rfl) ?_
    refine VO.nil ?_
    refine ⟨_, [(0, .v (.sl .str) l), (1, f), (7, I ((l.length : Nat) : Int)), (8, I (((j + 1) : Nat) : Int))], ?_, ⟨rfl, rfl, rfl, rfl, trivial⟩, (j + 1), rfl, rfl, rfl, (by omega), (by rw [hi, idxG_drop (by omega), if_neg (by rw [c4]; decide)])⟩
    omega
  refine VC.exit (VC.seq (VC.text ?_))
  refine VO.c (.assign rfl) ?_
  refine VO.go ?_
  refine VC.ret ?_
  exact VEnd.one rfl evT (pvI (by rw [hi, idxG_end (by omega)]))
theorem zContainsF_ok {F : ByteArray → Bool} {l : List ByteArray} {f : PV} (hl : l.length < 1000000) (hf : ∀ x ∈ l, VCall Tryz.prog OA f [.v .str x] (B (F x))) : VF Tryz.prog OA 136 [.v (.sl .str) l, f] (B (l.any F)) := by
  refine VF.enter Tryz.func136 rfl (fun _ _ => rfl) rfl ?_
  show VC _ _ _ _ _ [(0, .v (.sl .str) l), (1, f)] [] _
  refine VC.seq (VC.text ?_)
  refine VO.c (.assign rfl) ?_
  refine VO.go (VC.seq (VC.text ?_))
  refine VO.c (.move rfl) ?_
  refine VO.c (.move rfl) ?_
  refine VO.call rfl rfl (VF.call (zIndexF_ok (F := F) hl hf)) ?_
  refine VO.c (.geq) ?_
  refine VO.c (.assign rfl) ?_
  refine VO.go ?_
  refine VC.ret ?_
  exact VEnd.one rfl evT (pvE (by have h9 := idxG_any (F := F) (l := l) (k := 0) (by omega); cases h8 : l.any F <;> simp_all))
theorem zIndex_ok {l : List ByteArray} {v : ByteArray} (hl : l.length < 1000000) : VF Tryz.prog OA 163 [.v (.sl .str) l, St v] (I (idxG (fun x => decide (v = x)) l 0)) := by
  refine VF.enter Tryz.func163 rfl (fun _ _ => rfl) rfl ?_
  show VC _ _ _ _ _ [(0, .v (.sl .str) l), (1, St v)] [] _
  refine VC.seq (VC.text ?_)
  refine VO.c (.assign rfl) ?_
  refine VO.go (VC.seq (VC.seq (VC.text ?_)))
  refine VO.c (.move rfl) ?_
  refine VO.r (.len el27) ?_
  refine VO.c (.move rfl) ?_
  refine VO.go (VC.block ?_)
  refine VC.keep [(0, .v (.sl .str) l), (1, St v), (7, I ((l.length : Nat) : Int)), (8, I ((0 : Nat) : Int))] ⟨rfl, rfl, rfl, rfl, trivial⟩ ?_
  refine VC.loop (I := fun kk ff ss => ∃ (j : Nat), kk = l.length - j ∧ ff = [(0, .v (.sl .str) l), (1, St v), (7, I ((l.length : Nat) : Int)), (8, I ((j : Nat) : Int))] ∧ ss = [] ∧ (j ≤ l.length) ∧ (idxG (fun x => decide (v = x)) l 0 = idxG (fun x => decide (v = x)) (l.drop j) (j : Nat))) ?_ _ _ _ ⟨0, rfl, rfl, rfl, Nat.zero_le _, (by rfl)⟩
  rintro kk ff ss ⟨j, hk0, rfl, rfl, hj, hi⟩
  refine VC.seq (VC.text ?_)
  refine VO.c (.lss) ?_
  refine VO.go (VC.seq ?_)
  refine VC.condD rfl (fun c2 => ?_) (fun c2 => ?_)
  · refine VC.skip (VC.seq (VC.block (VC.seq (VC.text ?_))))
    refine VO.c (.move rfl) ?_
    refine VO.c (.assign rfl) ?_
    refine VO.go (VC.seq (VC.text ?_))
    refine VO.c (.move rfl) ?_
    refine VO.c (.move rfl) ?_
    refine VO.c (.move rfl) ?_
    refine VO.c (.ix (j := j) rfl rfl el27 (by omega)) ?_
    refine VO.r (.ld vt9) ?_
    refine VO.c (.seql) ?_
    refine VO.go ?_
    refine VC.condD rfl (fun c4 => ?_) (fun c4 => ?_)
    · refine VC.seq (VC.text ?_)
      refine VO.c (.move rfl) ?_
      refine VO.c (.assign rfl) ?_
      refine VO.go ?_
      refine VC.ret ?_
      exact VEnd.one rfl evT (pvI (by rw [hi, idxG_drop (by omega), if_pos (by simpa using c4)]))
    refine VC.skip (VC.text ?_)
    refine VO.c (.add rfl rfl (by omega)) ?_
    refine VO.c (.move rfl) ?_
    refine VO.nil ?_
    refine ⟨_, [(0, .v (.sl .str) l), (1, St v), (7, I ((l.length : Nat) : Int)), (8, I (((j + 1) : Nat) : Int))], ?_, ⟨rfl, rfl, rfl, rfl, trivial⟩, (j + 1), rfl, rfl, rfl, (by omega), (by rw [hi, idxG_drop (by omega), if_neg (by simpa using c4)])⟩
    omega
  refine VC.exit (VC.seq (VC.text ?_))
  refine VO.c (.assign rfl) ?_
  refine VO.go ?_
  refine VC.ret ?_
  exact VEnd.one rfl evT (pvI (by rw [hi, idxG_end (by omega)]))
def hasB (l : List ByteArray) (v : ByteArray) : Bool := l.any fun x => decide (x = v)
theorem hasB_comm {l : List ByteArray} {v : ByteArray} : (l.any fun x => decide (v = x)) = hasB l v := by
  unfold hasB
  congr 1
  funext x
  exact decide_eq_decide.2 ⟨Eq.symm, Eq.symm⟩
theorem zContains_ok {l : List ByteArray} {v : ByteArray} (hl : l.length < 1000000) : VF Tryz.prog OA 122 [.v (.sl .str) l, St v] (B (hasB l v)) := by
  refine VF.enter Tryz.func122 rfl (fun _ _ => rfl) rfl ?_
  show VC _ _ _ _ _ [(0, .v (.sl .str) l), (1, St v)] [] _
  refine VC.seq (VC.text ?_)
  refine VO.c (.assign rfl) ?_
  refine VO.go (VC.seq (VC.text ?_))
  refine VO.c (.move rfl) ?_
  refine VO.c (.move rfl) ?_
  refine VO.call rfl rfl (VF.call (zIndex_ok hl)) ?_
  refine VO.c (.geq) ?_
  refine VO.c (.assign rfl) ?_
  refine VO.go ?_
  refine VC.ret ?_
  exact VEnd.one rfl evT (pvE (by have h9 := idxG_any (F := fun x => decide (v = x)) (l := l) (k := 0) (by omega); rw [hasB_comm] at h9; cases h8 : hasB l v <;> simp_all))
theorem rHas_ok {l : List ByteArray} {s : ByteArray} (hl : l.length < 1000000) : VF Tryz.prog OA 58 [.v (.sl .str) l, St s] (B (hasB l s)) := by
  refine VF.enter Tryz.func58 rfl (fun _ _ => rfl) rfl ?_
  show VC _ _ _ _ _ [(0, .v (.sl .str) l), (1, St s)] [] _
  refine VC.seq (VC.text ?_)
  refine VO.c (.assign rfl) ?_
  refine VO.go (VC.seq (VC.seq (VC.text ?_)))
  refine VO.c (.assign rfl) ?_
  refine VO.go (VC.block ?_)
  refine VC.keep [(0, .v (.sl .str) l), (1, St s), (5, I ((0 : Nat) : Int))] ⟨rfl, rfl, rfl, trivial⟩ ?_
  refine VC.loop (I := fun kk ff ss => ∃ (j : Nat), kk = l.length - j ∧ ff = [(0, .v (.sl .str) l), (1, St s), (5, I ((j : Nat) : Int))] ∧ ss = [] ∧ (j ≤ l.length) ∧ (hasB l s = hasB (l.drop j) s)) ?_ _ _ _ ⟨0, rfl, rfl, rfl, Nat.zero_le _, (by rfl)⟩
  rintro kk ff ss ⟨j, hk0, rfl, rfl, hj, hi⟩
  refine VC.seq (VC.seq (VC.text ?_))
  refine VO.c (.move rfl) ?_
  refine VO.c (.move rfl) ?_
  refine VO.r (.len el27) ?_
  refine VO.c (.lss) ?_
  refine VO.go ?_
  refine VC.condD rfl (fun c2 => ?_) (fun c2 => ?_)
  · refine VC.skip (VC.seq (VC.block (VC.seq (VC.text ?_))))
    refine VO.c (.move rfl) ?_
    refine VO.c (.move rfl) ?_
    refine VO.c (.ix (j := j) rfl rfl el27 (by omega)) ?_
    refine VO.r (.ld vt9) ?_
    refine VO.c (.move rfl) ?_
    refine VO.c (.seql) ?_
    refine VO.go ?_
    refine VC.condD rfl (fun c4 => ?_) (fun c4 => ?_)
    · refine VC.seq (VC.text ?_)
      refine VO.c (.assign rfl) ?_
      refine VO.go ?_
      refine VC.ret ?_
      exact VEnd.one rfl evT (pvE (by rw [hi, hasB, any_drop (by omega), decide_eq_true c4] <;> rfl))
    refine VC.skip (VC.text ?_)
    refine VO.c (.move rfl) ?_
    refine VO.c (.add rfl rfl (by omega)) ?_
    refine VO.c (.assign rfl) ?_
    refine VO.nil ?_
    refine ⟨_, [(0, .v (.sl .str) l), (1, St s), (5, I (((j + 1) : Nat) : Int))], ?_, ⟨rfl, rfl, rfl, trivial⟩, (j + 1), rfl, rfl, rfl, (by omega), (by rw [hi, hasB, any_drop (by omega), decide_eq_false c4] <;> rfl)⟩
    omega
  refine VC.exit (VC.seq (VC.text ?_))
  refine VO.c (.assign rfl) ?_
  refine VO.go ?_
  refine VC.ret ?_
  exact VEnd.one rfl evT (pvE (by rw [hi, hasB, any_end (by omega)]))
def commonB (a b : List ByteArray) : Bool := a.any fun x => hasB b x
theorem rCommon_ok {a : List ByteArray} {b : List ByteArray} (ha : a.length < 1000000) (hb : b.length < 1000000) : VF Tryz.prog OA 92 [.v (.sl .str) a, .v (.sl .str) b] (B (commonB a b)) := by
  refine VF.enter Tryz.func92 rfl (fun _ _ => rfl) rfl ?_
  show VC _ _ _ _ _ [(0, .v (.sl .str) a), (1, .v (.sl .str) b)] [] _
  refine VC.seq (VC.text ?_)
  refine VO.c (.assign rfl) ?_
  refine VO.go (VC.seq (VC.seq (VC.text ?_)))
  refine VO.c (.assign rfl) ?_
  refine VO.go (VC.block ?_)
  refine VC.keep [(0, .v (.sl .str) a), (1, .v (.sl .str) b), (5, I ((0 : Nat) : Int))] ⟨rfl, rfl, rfl, trivial⟩ ?_
  refine VC.loop (I := fun kk ff ss => ∃ (j : Nat), kk = a.length - j ∧ ff = [(0, .v (.sl .str) a), (1, .v (.sl .str) b), (5, I ((j : Nat) : Int))] ∧ ss = [] ∧ (j ≤ a.length) ∧ (commonB a b = commonB (a.drop j) b)) ?_ _ _ _ ⟨0, rfl, rfl, rfl, Nat.zero_le _, (by rfl)⟩
  rintro kk ff ss ⟨j, hk0, rfl, rfl, hj, hi⟩
  refine VC.seq (VC.seq (VC.text ?_))
  refine VO.c (.move rfl) ?_
  refine VO.c (.move rfl) ?_
  refine VO.r (.len el27) ?_
  refine VO.c (.lss) ?_
  refine VO.go ?_
  refine VC.condD rfl (fun c2 => ?_) (fun c2 => ?_)
  · refine VC.skip (VC.seq (VC.block (VC.seq (VC.text ?_))))
    refine VO.c (.move rfl) ?_
    refine VO.c (.move rfl) ?_
    refine VO.c (.move rfl) ?_
    refine VO.c (.ix (j := j) rfl rfl el27 (by omega)) ?_
    refine VO.r (.ld vt9) ?_
    refine VO.call rfl rfl (VF.call (rHas_ok hb)) ?_
    refine VO.go ?_
    refine VC.condB rfl (fun c4 => ?_) (fun c4 => ?_)
    · refine VC.seq (VC.text ?_)
      refine VO.c (.assign rfl) ?_
      refine VO.go ?_
      refine VC.ret ?_
      exact VEnd.one rfl evT (pvE (by rw [hi, commonB, any_drop (by omega), c4] <;> rfl))
    refine VC.skip (VC.text ?_)
    refine VO.c (.move rfl) ?_
    refine VO.c (.add rfl rfl (by omega)) ?_
    refine VO.c (.assign rfl) ?_
    refine VO.nil ?_
    refine ⟨_, [(0, .v (.sl .str) a), (1, .v (.sl .str) b), (5, I (((j + 1) : Nat) : Int))], ?_, ⟨rfl, rfl, rfl, trivial⟩, (j + 1), rfl, rfl, rfl, (by omega), (by rw [hi, commonB, any_drop (by omega), c4] <;> rfl)⟩
    omega
  refine VC.exit (VC.seq (VC.text ?_))
  refine VO.c (.assign rfl) ?_
  refine VO.go ?_
  refine VC.ret ?_
  exact VEnd.one rfl evT (pvE (by rw [hi, commonB, any_end (by omega)]))
abbrev Permit := ByteArray × ByteArray × ByteArray × List ByteArray × Int × Int
theorem sShares1_ok {s : ByteArray} {o : ByteArray × ByteArray × ByteArray × (List ByteArray) × (Int × Int)} (ho : o.2.2.2.1.length < 1000000) : VF Tryz.prog OA 214 [St s, .p y35 o] (B (hasB o.2.2.2.1 s)) := by
  refine VF.enter Tryz.func214 rfl (fun _ _ => rfl) rfl ?_
  show VC _ _ _ _ _ [(0, St s), (1, .p y35 o)] [] _
  refine VC.seq (VC.text ?_)
  refine VO.c (.assign rfl) ?_
  refine VO.go (VC.seq (VC.text ?_))
  refine VO.c (.fa (.r (.r (.r (.l .o))))) ?_
  refine VO.r (.ld vt27) ?_
  refine VO.c (.move rfl) ?_
  refine VO.call rfl rfl (VF.call (zContains_ok ho)) ?_
  refine VO.c (.assign rfl) ?_
  refine VO.go ?_
  refine VC.ret ?_
  exact VEnd.one rfl evT (pvE (by rfl))
theorem sShares_ok {p : ByteArray × ByteArray × ByteArray × (List ByteArray) × (Int × Int)} {o : ByteArray × ByteArray × ByteArray × (List ByteArray) × (Int × Int)} (hp : p.2.2.2.1.length < 1000000) (ho : o.2.2.2.1.length < 1000000) : VF Tryz.prog OA 187 [.v y35 p, .v y35 o] (B (commonB p.2.2.2.1 o.2.2.2.1)) := by
  refine VF.enter Tryz.func187 rfl (fun _ _ => rfl) rfl ?_
  show VC _ _ _ _ _ [(0, .v y35 p), (1, .v y35 o)] [] _
  refine VC.seq (VC.text ?_)
  refine VO.new (.box) ?_
  refine VO.new (.box) ?_
  refine VO.c (.assign rfl) ?_
  refine VO.go (VC.seq (VC.text ?_))
  refine VO.c (.fa (.r (.r (.r (.l .o))))) ?_
  refine VO.r (.ld vt27) ?_
  refine VO.c (.func) ?_
  refine VO.call rfl rfl (VF.call (zContainsF_ok (F := fun s => hasB o.2.2.2.1 s) hp (fun _ _ => VF.clo (sShares1_ok ho)))) ?_
  refine VO.c (.assign rfl) ?_
  refine VO.go ?_
  refine VC.ret ?_
  exact VEnd.one rfl evT (pvE (by rfl))
theorem sEnds_ok {s : Int × Int} : VF Tryz.prog OA 190 [.v y29 s] (.v y128 s) := by
  refine VF.enter Tryz.func190 rfl (fun _ _ => rfl) rfl ?_
  show VC _ _ _ _ _ [(0, .v y29 s)] [] _
  refine VC.seq (VC.text ?_)
  refine VO.new (.box) ?_
  refine VO.cell (.alloc zt128) ?_
  intro ww1
  refine VO.go (VC.seq (VC.text ?_))
  refine VO.c (.fa (.l .o)) ?_
  refine VO.r (.ld vt3) ?_
  refine VO.c (.fa (.r .o)) ?_
  refine VO.r (.ld vt3) ?_
  refine VO.c (.build (s.1, s.2) bt128) ?_
  refine VO.setV (cs' := [I s.1, I s.2]) vt128 .v ?_
  refine VO.go ?_
  refine VC.ret ?_
  exact VEnd.one rfl (.cell (x := (s.1, s.2)) rfl m0 vt128 .refl) (pvE (by first | rfl | simp))
def meetB (a b : Int × Int) : Bool := decide (a = b) || decide (max a.1 b.1 < min a.2 b.2)
theorem arr2 {a b : Int × Int} : ([a.1, a.2] = [b.1, b.2]) ↔ a = b := by
  obtain ⟨a1, a2⟩ := a
  obtain ⟨b1, b2⟩ := b
  simp
theorem sMeet_ok {a : Int × Int} {b : Int × Int} : VF Tryz.prog OA 185 [.v y29 a, .v y29 b] (B (meetB a b)) := by
  refine VF.enter Tryz.func185 rfl (fun _ _ => rfl) rfl ?_
  show VC _ _ _ _ _ [(0, .v y29 a), (1, .v y29 b)] [] _
  refine VC.seq (VC.text ?_)
  refine VO.new (.box) ?_
  refine VO.new (.box) ?_
  refine VO.c (.assign rfl) ?_
  refine VO.go (VC.seq (VC.drawn ?_))
  refine VD.r [] (.ld vt29) (.inl rfl) ?_
  refine VD.call rfl rfl (VF.call (sEnds_ok )) ?_
  refine VD.r [] (.ld vt29) (.inl rfl) ?_
  refine VD.call rfl rfl (VF.call (sEnds_ok )) ?_
  refine VD.c (.arrCmp (xs := [a.1, a.2]) (ys := [b.1, b.2]) (.inl ⟨rfl, rfl⟩) rfl rfl rfl rfl (by kernel_rfl) rfl) ?_
  refine VD.c (.move rfl) ?_
  refine VD.nw [] ?_
  refine VD.splitD (x := 10) rfl (fun g1_5 => ?_) (fun g1_5 => ?_)
  · refine VD.skip ?_
    refine VD.skip ?_
    refine VD.skip ?_
    refine VD.skip ?_
    refine VD.skip ?_
    refine VD.skip ?_
    refine VD.nw [] ?_
    refine VD.skip ?_
    refine VD.skip ?_
    refine VD.skip ?_
    refine VD.skip ?_
    refine VD.skip ?_
    refine VD.c (.pickT rfl rfl) ?_
    refine VD.c (.assign rfl) ?_
    refine VD.go ?_
    refine VC.ret ?_
    exact VEnd.one rfl evT (pvE (by simp only [arr2] at *; simp [meetB, *]))
  refine VD.c (.fa (.l .o)) ?_
  refine VD.r [] (.ld vt3) (.inl rfl) ?_
  refine VD.c (.fa (.l .o)) ?_
  refine VD.r [] (.ld vt3) (.inl rfl) ?_
  refine VD.r [] (.max) (.inl rfl) ?_
  refine VD.c (.fa (.r .o)) ?_
  refine VD.nw [] ?_
  refine VD.r [] (.ld vt3) (.inl rfl) ?_
  refine VD.c (.fa (.r .o)) ?_
  refine VD.r [] (.ld vt3) (.inl rfl) ?_
  refine VD.r [] (.min) (.inl rfl) ?_
  refine VD.c (.lss) ?_
  refine VD.c (.pickF rfl rfl) ?_
  refine VD.c (.assign rfl) ?_
  refine VD.go ?_
  refine VC.ret ?_
  exact VEnd.one rfl evT (pvE (by simp only [arr2] at *; simp [meetB, *]))
theorem sReason1_ok {a : ByteArray × ByteArray × ByteArray × (List ByteArray) × (Int × Int)} {b : ByteArray × ByteArray × ByteArray × (List ByteArray) × (Int × Int)} (ha : a.2.2.2.1.length < 1000000) (hb : b.2.2.2.1.length < 1000000) : VF Tryz.prog OA 183 [.v y35 a, .v y35 b] (B (decide (a.1 = b.1))) := by
  refine VF.enter Tryz.func183 rfl (fun _ _ => rfl) rfl ?_
  show VC _ _ _ _ _ [(0, .v y35 a), (1, .v y35 b)] [] _
  refine VC.seq (VC.text ?_)
  refine VO.new (.box) ?_
  refine VO.new (.box) ?_
  refine VO.c (.assign rfl) ?_
  refine VO.go (VC.seq (VC.text ?_))
  refine VO.c (.fa (.l .o)) ?_
  refine VO.r (.ld vt9) ?_
  refine VO.c (.fa (.l .o)) ?_
  refine VO.r (.ld vt9) ?_
  refine VO.c (.seql) ?_
  refine VO.c (.assign rfl) ?_
  refine VO.go ?_
  refine VC.ret ?_
  exact VEnd.one rfl evT (pvE (by rfl))
theorem sReason2_ok {a : ByteArray × ByteArray × ByteArray × (List ByteArray) × (Int × Int)} {b : ByteArray × ByteArray × ByteArray × (List ByteArray) × (Int × Int)} (ha : a.2.2.2.1.length < 1000000) (hb : b.2.2.2.1.length < 1000000) : VF Tryz.prog OA 184 [.v y35 a, .v y35 b] (B (meetB a.2.2.2.2 b.2.2.2.2 && decide (a.2.1 = b.2.1))) := by
  refine VF.enter Tryz.func184 rfl (fun _ _ => rfl) rfl ?_
  show VC _ _ _ _ _ [(0, .v y35 a), (1, .v y35 b)] [] _
  refine VC.seq (VC.text ?_)
  refine VO.new (.box) ?_
  refine VO.new (.box) ?_
  refine VO.c (.assign rfl) ?_
  refine VO.go (VC.seq (VC.text ?_))
  refine VO.c (.fa (.r (.r (.r (.r .o))))) ?_
  refine VO.r (.ld vt29) ?_
  refine VO.c (.fa (.r (.r (.r (.r .o))))) ?_
  refine VO.r (.ld vt29) ?_
  refine VO.call rfl rfl (VF.call (sMeet_ok )) ?_
  refine VO.c (.move rfl) ?_
  refine VO.cg (r := meetB a.2.2.2.2 b.2.2.2.2) (w := true) [] trivial (fun hgd => have g1_5 : meetB a.2.2.2.2 b.2.2.2.2 = true := (by simpa using hgd); (.fa (.r (.l .o)))) ?_
  refine VO.rg (r := meetB a.2.2.2.2 b.2.2.2.2) (w := true) [(11, .p .str a.2.1)] ⟨rfl, trivial⟩ (fun hgd => have g1_5 : meetB a.2.2.2.2 b.2.2.2.2 = true := (by simpa using hgd); (.ld vt9)) ?_
  refine VO.cg (r := meetB a.2.2.2.2 b.2.2.2.2) (w := true) [] trivial (fun hgd => have g1_5 : meetB a.2.2.2.2 b.2.2.2.2 = true := (by simpa using hgd); (.fa (.r (.l .o)))) ?_
  refine VO.rg (r := meetB a.2.2.2.2 b.2.2.2.2) (w := true) [(13, .p .str b.2.1)] ⟨rfl, trivial⟩ (fun hgd => have g1_5 : meetB a.2.2.2.2 b.2.2.2.2 = true := (by simpa using hgd); (.ld vt9)) ?_
  refine VO.cg (r := meetB a.2.2.2.2 b.2.2.2.2) (w := true) [(12, St a.2.1), (14, St b.2.1)] ⟨rfl, rfl, trivial⟩ (fun hgd => have g1_5 : meetB a.2.2.2.2 b.2.2.2.2 = true := (by simpa using hgd); (.seql)) ?_
  refine VO.c (.and) ?_
  refine VO.c (.assign rfl) ?_
  refine VO.go ?_
  refine VC.ret ?_
  exact VEnd.one rfl evT (pvE (by rfl))
theorem sReason3_ok {a : ByteArray × ByteArray × ByteArray × (List ByteArray) × (Int × Int)} {b : ByteArray × ByteArray × ByteArray × (List ByteArray) × (Int × Int)} (ha : a.2.2.2.1.length < 1000000) (hb : b.2.2.2.1.length < 1000000) : VF Tryz.prog OA 186 [.v y35 a, .v y35 b] (B (meetB a.2.2.2.2 b.2.2.2.2 && commonB a.2.2.2.1 b.2.2.2.1)) := by
  refine VF.enter Tryz.func186 rfl (fun _ _ => rfl) rfl ?_
  show VC _ _ _ _ _ [(0, .v y35 a), (1, .v y35 b)] [] _
  refine VC.seq (VC.text ?_)
  refine VO.new (.box) ?_
  refine VO.new (.box) ?_
  refine VO.c (.assign rfl) ?_
  refine VO.go (VC.seq (VC.text ?_))
  refine VO.c (.fa (.r (.r (.r (.r .o))))) ?_
  refine VO.r (.ld vt29) ?_
  refine VO.c (.fa (.r (.r (.r (.r .o))))) ?_
  refine VO.r (.ld vt29) ?_
  refine VO.call rfl rfl (VF.call (sMeet_ok )) ?_
  refine VO.c (.move rfl) ?_
  refine VO.rg (r := meetB a.2.2.2.2 b.2.2.2.2) (w := true) [] trivial (fun hgd => have g1_5 : meetB a.2.2.2.2 b.2.2.2.2 = true := (by simpa using hgd); (.ld vt35)) ?_
  refine VO.rg (r := meetB a.2.2.2.2 b.2.2.2.2) (w := true) [] trivial (fun hgd => have g1_5 : meetB a.2.2.2.2 b.2.2.2.2 = true := (by simpa using hgd); (.ld vt35)) ?_
  refine VO.callg (r0 := meetB a.2.2.2.2 b.2.2.2.2) (w := true) [(11, .v y35 a), (12, .v y35 b)] ⟨rfl, rfl, trivial⟩ rfl rfl .same .refl rfl (fun hgd => have g1_5 : meetB a.2.2.2.2 b.2.2.2.2 = true := (by simpa using hgd); VF.call (sShares_ok ha hb)) ?_
  refine VO.c (.and) ?_
  refine VO.c (.assign rfl) ?_
  refine VO.go ?_
  refine VC.ret ?_
  exact VEnd.one rfl evT (pvE (by rfl))
theorem sReason4_ok {a : ByteArray × ByteArray × ByteArray × (List ByteArray) × (Int × Int)} {b : ByteArray × ByteArray × ByteArray × (List ByteArray) × (Int × Int)} (ha : a.2.2.2.1.length < 1000000) (hb : b.2.2.2.1.length < 1000000) : VF Tryz.prog OA 188 [.v y35 a, .v y35 b] (B (meetB a.2.2.2.2 b.2.2.2.2 && (hasB a.2.2.2.1 b.2.2.1 || hasB b.2.2.2.1 a.2.2.1))) := by
  refine VF.enter Tryz.func188 rfl (fun _ _ => rfl) rfl ?_
  show VC _ _ _ _ _ [(0, .v y35 a), (1, .v y35 b)] [] _
  refine VC.seq (VC.text ?_)
  refine VO.new (.box) ?_
  refine VO.new (.box) ?_
  refine VO.c (.assign rfl) ?_
  refine VO.go (VC.seq (VC.text ?_))
  refine VO.c (.fa (.r (.r (.r (.r .o))))) ?_
  refine VO.r (.ld vt29) ?_
  refine VO.c (.fa (.r (.r (.r (.r .o))))) ?_
  refine VO.r (.ld vt29) ?_
  refine VO.call rfl rfl (VF.call (sMeet_ok )) ?_
  refine VO.c (.move rfl) ?_
  refine VO.splitB (x := 10) rfl (fun g1_5 => ?_) (fun g1_5 => ?_)
  · refine VO.c (.fa (.r (.r (.r (.l .o))))) ?_
    refine VO.r (.ld vt27) ?_
    refine VO.c (.fa (.r (.r (.l .o)))) ?_
    refine VO.r (.ld vt9) ?_
    refine VO.call rfl rfl (VF.call (zContains_ok ha)) ?_
    refine VO.c (.move rfl) ?_
    refine VO.cg (r := hasB a.2.2.2.1 b.2.2.1) (w := false) [] trivial (fun hgd => have g1_11 : hasB a.2.2.2.1 b.2.2.1 = false := (by simpa using hgd); (.fa (.r (.r (.r (.l .o)))))) ?_
    refine VO.rg (r := hasB a.2.2.2.1 b.2.2.1) (w := false) [(17, .p (.sl .str) b.2.2.2.1)] ⟨rfl, trivial⟩ (fun hgd => have g1_11 : hasB a.2.2.2.1 b.2.2.1 = false := (by simpa using hgd); (.ld vt27)) ?_
    refine VO.cg (r := hasB a.2.2.2.1 b.2.2.1) (w := false) [] trivial (fun hgd => have g1_11 : hasB a.2.2.2.1 b.2.2.1 = false := (by simpa using hgd); (.fa (.r (.r (.l .o))))) ?_
    refine VO.rg (r := hasB a.2.2.2.1 b.2.2.1) (w := false) [(19, .p .str a.2.2.1)] ⟨rfl, trivial⟩ (fun hgd => have g1_11 : hasB a.2.2.2.1 b.2.2.1 = false := (by simpa using hgd); (.ld vt9)) ?_
    refine VO.callg (r0 := hasB a.2.2.2.1 b.2.2.1) (w := false) [(18, .v (.sl .str) b.2.2.2.1), (20, St a.2.2.1)] ⟨rfl, rfl, trivial⟩ rfl rfl .same .refl rfl (fun hgd => have g1_11 : hasB a.2.2.2.1 b.2.2.1 = false := (by simpa using hgd); VF.call (zContains_ok hb)) ?_
    refine VO.c (.or) ?_
    refine VO.c (.pickT rfl rfl) ?_
    refine VO.c (.assign rfl) ?_
    refine VO.go ?_
    refine VC.ret ?_
    exact VEnd.one rfl evT (pvE (by simp [*]))
  refine VO.skip ?_
  refine VO.skip ?_
  refine VO.skip ?_
  refine VO.skip ?_
  refine VO.skip ?_
  refine VO.skip ?_
  refine VO.skip ?_
  refine VO.skip ?_
  refine VO.skip ?_
  refine VO.skip ?_
  refine VO.skip ?_
  refine VO.skip ?_
  refine VO.c (.pickF rfl rfl) ?_
  refine VO.c (.assign rfl) ?_
  refine VO.go ?_
  refine VC.ret ?_
  exact VEnd.one rfl evT (pvE (by simp [*]))
def reasonIx (a b : Permit) : Nat :=
  if decide (a.1 = b.1) = true then 0
  else if (meetB a.2.2.2.2 b.2.2.2.2 && decide (a.2.1 = b.2.1)) = true then 1
  else if (meetB a.2.2.2.2 b.2.2.2.2 && commonB a.2.2.2.1 b.2.2.2.1) = true then 2
  else if (meetB a.2.2.2.2 b.2.2.2.2 && (hasB a.2.2.2.1 b.2.2.1 || hasB b.2.2.2.1 a.2.2.1)) = true then 3
  else 4
def nameR : Nat → ByteArray
  | 0 => ⟨#[110, 97, 109, 101]⟩
  | 1 => ⟨#[99, 114, 101, 119]⟩
  | 2 => ⟨#[108, 111, 99, 107]⟩
  | 3 => ⟨#[103, 97, 116, 101]⟩
  | _ => ByteArray.empty
theorem meetB_ok {a b : Int × Int} (ha : spanE a = 0) (hb : spanE b = 0) : meetB a b = !(decide (a.2 ≤ b.1) || decide (b.2 ≤ a.1)) := by
  have h1 := spanE_ok ha
  have h2 := spanE_ok hb
  unfold meetB
  by_cases h3 : a.2 ≤ b.1
  · have e1 : ¬ a = b := fun e => by subst e; omega
    simp [h3, e1]; omega
  by_cases h4 : b.2 ≤ a.1
  · have e1 : ¬ a = b := fun e => by subst e; omega
    simp [h4, e1]; omega
  simp [h3, h4]
  by_cases e : a = b
  · exact .inl e
  right; omega
theorem rExclude_ok {a : ByteArray × ByteArray × ByteArray × (List ByteArray) × (Int × Int)} {b : ByteArray × ByteArray × ByteArray × (List ByteArray) × (Int × Int)} (ha : a.2.2.2.1.length < 1000000) (hb : b.2.2.2.1.length < 1000000) (va : spanE a.2.2.2.2 = 0) (vb : spanE b.2.2.2.2 = 0) : VF Tryz.prog OA 21 [.v y31 a, .v y31 b] (St (nameR (reasonIx a b))) := by
  refine VF.enter Tryz.func21 rfl (fun _ _ => rfl) rfl ?_
  show VC _ _ _ _ _ [(0, .v y31 a), (1, .v y31 b)] [] _
  refine VC.seq (VC.text ?_)
  refine VO.new (.box) ?_
  refine VO.new (.box) ?_
  refine VO.c (.assign rfl) ?_
  refine VO.go (VC.seq (VC.seq (VC.text ?_)))
  refine VO.c (.fa (.l .o)) ?_
  refine VO.r (.ld vt9) ?_
  refine VO.c (.fa (.l .o)) ?_
  refine VO.r (.ld vt9) ?_
  refine VO.c (.seql) ?_
  refine VO.go ?_
  refine VC.condD rfl (fun c1 => ?_) (fun c1 => ?_)
  · refine VC.seq (VC.text ?_)
    refine VO.c (.assign rfl) ?_
    refine VO.go ?_
    refine VC.ret ?_
    exact VEnd.one rfl evT (pvE (by simp [reasonIx, *] <;> rfl))
  refine VC.skip (VC.seq (VC.seq (VC.text ?_)))
  refine VO.c (.fa (.r (.r (.r (.r .o))))) ?_
  refine VO.c (.fa (.r .o)) ?_
  refine VO.r (.ld vt3) ?_
  refine VO.c (.fa (.r (.r (.r (.r .o))))) ?_
  refine VO.c (.fa (.l .o)) ?_
  refine VO.r (.ld vt3) ?_
  refine VO.c (.leq) ?_
  refine VO.c (.move rfl) ?_
  refine VO.cg (r := decide (a.2.2.2.2.2 ≤ b.2.2.2.2.1)) (w := false) [] trivial (fun hgd => have g3_7 : ¬ (a.2.2.2.2.2 ≤ b.2.2.2.2.1) := (by simpa using hgd); (.fa (.r (.r (.r (.r .o)))))) ?_
  refine VO.cg (r := decide (a.2.2.2.2.2 ≤ b.2.2.2.2.1)) (w := false) [(18, .p y29 b.2.2.2.2)] ⟨rfl, trivial⟩ (fun hgd => have g3_7 : ¬ (a.2.2.2.2.2 ≤ b.2.2.2.2.1) := (by simpa using hgd); (.fa (.r .o))) ?_
  refine VO.rg (r := decide (a.2.2.2.2.2 ≤ b.2.2.2.2.1)) (w := false) [(19, .p (.int .i64) b.2.2.2.2.2)] ⟨rfl, trivial⟩ (fun hgd => have g3_7 : ¬ (a.2.2.2.2.2 ≤ b.2.2.2.2.1) := (by simpa using hgd); (.ld vt3)) ?_
  refine VO.cg (r := decide (a.2.2.2.2.2 ≤ b.2.2.2.2.1)) (w := false) [] trivial (fun hgd => have g3_7 : ¬ (a.2.2.2.2.2 ≤ b.2.2.2.2.1) := (by simpa using hgd); (.fa (.r (.r (.r (.r .o)))))) ?_
  refine VO.cg (r := decide (a.2.2.2.2.2 ≤ b.2.2.2.2.1)) (w := false) [(21, .p y29 a.2.2.2.2)] ⟨rfl, trivial⟩ (fun hgd => have g3_7 : ¬ (a.2.2.2.2.2 ≤ b.2.2.2.2.1) := (by simpa using hgd); (.fa (.l .o))) ?_
  refine VO.rg (r := decide (a.2.2.2.2.2 ≤ b.2.2.2.2.1)) (w := false) [(22, .p (.int .i64) a.2.2.2.2.1)] ⟨rfl, trivial⟩ (fun hgd => have g3_7 : ¬ (a.2.2.2.2.2 ≤ b.2.2.2.2.1) := (by simpa using hgd); (.ld vt3)) ?_
  refine VO.cg (r := decide (a.2.2.2.2.2 ≤ b.2.2.2.2.1)) (w := false) [(20, I b.2.2.2.2.2), (23, I a.2.2.2.2.1)] ⟨rfl, rfl, trivial⟩ (fun hgd => have g3_7 : ¬ (a.2.2.2.2.2 ≤ b.2.2.2.2.1) := (by simpa using hgd); (.leq)) ?_
  refine VO.c (.or) ?_
  refine VO.go ?_
  refine VC.condB rfl (fun c3 => ?_) (fun c3 => ?_)
  · try simp only [Bool.and_eq_true, Bool.or_eq_true, Bool.and_eq_false_iff, Bool.or_eq_false_iff, Bool.not_eq_true', Bool.not_eq_false', decide_eq_true_eq, decide_eq_false_iff_not] at c3
    have hm : meetB a.2.2.2.2 b.2.2.2.2 = false := by rw [meetB_ok va vb]; rcases c3 with h | h <;> simp [h]
    refine VC.seq (VC.text ?_)
    refine VO.c (.assign rfl) ?_
    refine VO.go ?_
    refine VC.ret ?_
    exact VEnd.one rfl evT (pvE (by simp [reasonIx, *] <;> rfl))
  try simp only [Bool.and_eq_true, Bool.or_eq_true, Bool.and_eq_false_iff, Bool.or_eq_false_iff, Bool.not_eq_true', Bool.not_eq_false', decide_eq_true_eq, decide_eq_false_iff_not] at c3
  have hm : meetB a.2.2.2.2 b.2.2.2.2 = true := by rw [meetB_ok va vb]; simpa using c3
  refine VC.skip (VC.seq (VC.seq (VC.text ?_)))
  refine VO.c (.fa (.r (.l .o))) ?_
  refine VO.r (.ld vt9) ?_
  refine VO.c (.fa (.r (.l .o))) ?_
  refine VO.r (.ld vt9) ?_
  refine VO.c (.seql) ?_
  refine VO.go ?_
  refine VC.condD rfl (fun c5 => ?_) (fun c5 => ?_)
  · refine VC.seq (VC.text ?_)
    refine VO.c (.assign rfl) ?_
    refine VO.go ?_
    refine VC.ret ?_
    exact VEnd.one rfl evT (pvE (by simp [reasonIx, hm, c1, *] <;> rfl))
  refine VC.skip (VC.seq (VC.seq (VC.text ?_)))
  refine VO.c (.fa (.r (.r (.r (.l .o))))) ?_
  refine VO.r (.ld vt27) ?_
  refine VO.c (.fa (.r (.r (.r (.l .o))))) ?_
  refine VO.r (.ld vt27) ?_
  refine VO.call rfl rfl (VF.call (rCommon_ok ha hb)) ?_
  refine VO.go ?_
  refine VC.condB rfl (fun c7 => ?_) (fun c7 => ?_)
  · refine VC.seq (VC.text ?_)
    refine VO.c (.assign rfl) ?_
    refine VO.go ?_
    refine VC.ret ?_
    exact VEnd.one rfl evT (pvE (by simp [reasonIx, hm, c1, *] <;> rfl))
  refine VC.skip (VC.seq (VC.seq (VC.text ?_)))
  refine VO.c (.fa (.r (.r (.r (.l .o))))) ?_
  refine VO.r (.ld vt27) ?_
  refine VO.c (.fa (.r (.r (.l .o)))) ?_
  refine VO.r (.ld vt9) ?_
  refine VO.call rfl rfl (VF.call (rHas_ok ha)) ?_
  refine VO.c (.move rfl) ?_
  refine VO.cg (r := hasB a.2.2.2.1 b.2.2.1) (w := false) [] trivial (fun hgd => have g9_5 : hasB a.2.2.2.1 b.2.2.1 = false := (by simpa using hgd); (.fa (.r (.r (.r (.l .o)))))) ?_
  refine VO.rg (r := hasB a.2.2.2.1 b.2.2.1) (w := false) [(42, .p (.sl .str) b.2.2.2.1)] ⟨rfl, trivial⟩ (fun hgd => have g9_5 : hasB a.2.2.2.1 b.2.2.1 = false := (by simpa using hgd); (.ld vt27)) ?_
  refine VO.cg (r := hasB a.2.2.2.1 b.2.2.1) (w := false) [] trivial (fun hgd => have g9_5 : hasB a.2.2.2.1 b.2.2.1 = false := (by simpa using hgd); (.fa (.r (.r (.l .o))))) ?_
  refine VO.rg (r := hasB a.2.2.2.1 b.2.2.1) (w := false) [(44, .p .str a.2.2.1)] ⟨rfl, trivial⟩ (fun hgd => have g9_5 : hasB a.2.2.2.1 b.2.2.1 = false := (by simpa using hgd); (.ld vt9)) ?_
  refine VO.callg (r0 := hasB a.2.2.2.1 b.2.2.1) (w := false) [(43, .v (.sl .str) b.2.2.2.1), (45, St a.2.2.1)] ⟨rfl, rfl, trivial⟩ rfl rfl .same .refl rfl (fun hgd => have g9_5 : hasB a.2.2.2.1 b.2.2.1 = false := (by simpa using hgd); VF.call (rHas_ok hb)) ?_
  refine VO.c (.or) ?_
  refine VO.go ?_
  refine VC.condB rfl (fun c9 => ?_) (fun c9 => ?_)
  · try simp only [Bool.and_eq_true, Bool.or_eq_true, Bool.and_eq_false_iff, Bool.or_eq_false_iff, Bool.not_eq_true', Bool.not_eq_false', decide_eq_true_eq, decide_eq_false_iff_not] at c9
    refine VC.seq ?_
    refine VC.keep [] trivial ?_
    refine VC.text ?_
    refine VO.c (.assign rfl) ?_
    refine VO.go ?_
    refine VC.ret ?_
    exact VEnd.one rfl evT (pvE (by simp [reasonIx, hm, c1, *] <;> rfl))
  try simp only [Bool.and_eq_true, Bool.or_eq_true, Bool.and_eq_false_iff, Bool.or_eq_false_iff, Bool.not_eq_true', Bool.not_eq_false', decide_eq_true_eq, decide_eq_false_iff_not] at c9
  refine VC.skip (VC.seq ?_)
  refine VC.keep [] trivial ?_
  refine VC.text ?_
  refine VO.c (.assign rfl) ?_
  refine VO.go ?_
  refine VC.ret ?_
  exact VEnd.one rfl evT (pvE (by simp [reasonIx, hm, c1, *] <;> rfl))
end Go.Proofs
namespace Go.Proofs
open Go.Fs
set_option linter.unusedVariables false
abbrev y140 : Ty := (.pair .str (.pair .fn (.int .i64)))
abbrev y205 : Ty := (.pair (.pair .str (.pair .fn (.int .i64))) (.pair (.pair .str (.pair .fn (.int .i64))) (.pair (.pair .str (.pair .fn (.int .i64))) (.pair .str (.pair .fn (.int .i64))))))
theorem vt138 : ValT Tryz.prog 138 .fn := valT_of (by kernel_rfl)
theorem vt140 : ValT Tryz.prog 140 y140 := valT_of (by kernel_rfl)
theorem vt205 : ValT Tryz.prog 205 y205 := valT_of (by kernel_rfl)
theorem zt140 : ZerT Tryz.prog 140 y140 := zerT_of (z := .agg #[.string ByteArray.empty, .nilFunc, .int .i64 0]) (by kernel_rfl) rfl rfl
theorem zt205 : ZerT Tryz.prog 205 y205 := zerT_of (z := .agg #[.string ByteArray.empty, .nilFunc, .int .i64 0, .string ByteArray.empty, .nilFunc, .int .i64 0, .string ByteArray.empty, .nilFunc, .int .i64 0, .string ByteArray.empty, .nilFunc, .int .i64 0]) (by kernel_rfl) rfl rfl
theorem bt140 : BldT Tryz.prog 140 y140 [(0, 1), (1, 1), (2, 1)] := bldT_of zt140 rfl (by kernel_rfl)
theorem bt205 : BldT Tryz.prog 205 y205 [(0, 3), (3, 3), (6, 3), (9, 3)] := bldT_of zt205 rfl (by kernel_rfl)
theorem sReasons_ok  : VF Tryz.prog OA 151 [] (.v y205 ((⟨#[110, 97, 109, 101]⟩, some 183, 9), (⟨#[99, 114, 101, 119]⟩, some 184, 15), (⟨#[108, 111, 99, 107]⟩, some 186, 33), (⟨#[103, 97, 116, 101]⟩, some 188, 33))) := by
  refine VF.enter Tryz.func151 rfl (fun _ _ => rfl) rfl ?_
  show VC _ _ _ _ _ [] [] _
  refine VC.seq (VC.text ?_)
  refine VO.cell (.alloc zt205) ?_
  intro ww1
  refine VO.go (VC.seq (VC.text ?_))
  refine VO.c (.buildF (⟨#[110, 97, 109, 101]⟩, some 183, (9 : Int)) bt140 (.same (.fn (.same .nil)))) ?_
  refine VO.c (.buildF (⟨#[99, 114, 101, 119]⟩, some 184, (15 : Int)) bt140 (.same (.fn (.same .nil)))) ?_
  refine VO.c (.buildF (⟨#[108, 111, 99, 107]⟩, some 186, (33 : Int)) bt140 (.same (.fn (.same .nil)))) ?_
  refine VO.c (.buildF (⟨#[103, 97, 116, 101]⟩, some 188, (33 : Int)) bt140 (.same (.fn (.same .nil)))) ?_
  refine VO.c (.build ((⟨#[110, 97, 109, 101]⟩, some 183, (9 : Int)), (⟨#[99, 114, 101, 119]⟩, some 184, (15 : Int)), (⟨#[108, 111, 99, 107]⟩, some 186, (33 : Int)), (⟨#[103, 97, 116, 101]⟩, some 188, (33 : Int))) bt205) ?_
  refine VO.setV (cs' := [St (⟨#[110, 97, 109, 101]⟩), .v .fn (some 183), I (9 : Int), St (⟨#[99, 114, 101, 119]⟩), .v .fn (some 184), I (15 : Int), St (⟨#[108, 111, 99, 107]⟩), .v .fn (some 186), I (33 : Int), St (⟨#[103, 97, 116, 101]⟩), .v .fn (some 188), I (33 : Int)]) vt205 .v ?_
  refine VO.go ?_
  refine VC.ret ?_
  exact VEnd.one rfl (.cell (x := ((⟨#[110, 97, 109, 101]⟩, some 183, (9 : Int)), (⟨#[99, 114, 101, 119]⟩, some 184, (15 : Int)), (⟨#[108, 111, 99, 107]⟩, some 186, (33 : Int)), (⟨#[103, 97, 116, 101]⟩, some 188, (33 : Int)))) rfl m0 vt205 .refl) (pvE (by first | rfl | simp))
def reasonR : Nat → ByteArray × Option Nat × Int
  | 0 => (⟨#[110, 97, 109, 101]⟩, some 183, 9)
  | 1 => (⟨#[99, 114, 101, 119]⟩, some 184, 15)
  | 2 => (⟨#[108, 111, 99, 107]⟩, some 186, 33)
  | 3 => (⟨#[103, 97, 116, 101]⟩, some 188, 33)
  | _ => (ByteArray.empty, none, 0)
theorem reasonR_name (k : Nat) : (reasonR k).1 = nameR k := by
  rcases k with _ | _ | _ | _ | k <;> rfl
theorem sExcl_ok {a : ByteArray × ByteArray × ByteArray × (List ByteArray) × (Int × Int)} {b : ByteArray × ByteArray × ByteArray × (List ByteArray) × (Int × Int)} (ha : a.2.2.2.1.length < 1000000) (hb : b.2.2.2.1.length < 1000000) : VF Tryz.prog OA 90 [.v y35 a, .v y35 b] (.v y140 (reasonR (reasonIx a b))) := by
  refine VF.enter Tryz.func90 rfl (fun _ _ => rfl) rfl ?_
  show VC _ _ _ _ _ [(0, .v y35 a), (1, .v y35 b)] [] _
  refine VC.seq (VC.text ?_)
  refine VO.new (.box) ?_
  refine VO.new (.box) ?_
  refine VO.cell (.alloc zt140) ?_
  intro ww2
  refine VO.go (VC.seq (VC.seq (VC.text ?_)))
  refine VO.call rfl rfl (VF.call (sReasons_ok )) ?_
  refine VO.c (.move rfl) ?_
  refine VO.go (VC.block ?_)
  refine VC.unroll ?_
  refine VC.seq (VC.text ?_)
  refine VO.c (.lss) ?_
  refine VO.go (VC.seq ?_)
  refine VC.condT rfl ?_
  refine VC.skip (VC.seq (VC.block (VC.seq (VC.text ?_))))
  refine VO.c (.ixA 0 (τ' := y140) (dy := (⟨#[110, 97, 109, 101]⟩, some 183, 9)) (.l .o)) ?_
  refine VO.cell (.alloc zt140) ?_
  intro ww3
  refine VO.setV (cs' := [St (⟨#[110, 97, 109, 101]⟩), .v .fn (some 183), I 9]) vt140 .v ?_
  refine VO.shut [(6, .p y140 (⟨#[110, 97, 109, 101]⟩, some 183, 9))] (.cons rfl (.var m0 .refl) .nil) ?_
  refine VO.go (VC.seq (VC.text ?_))
  refine VO.c (.fa (τ' := .fn) (dy := some 183) (.r (.l .o))) ?_
  refine VO.r (.ld vt138) ?_
  refine VO.r (.ld vt35) ?_
  refine VO.r (.ld vt35) ?_
  refine VO.callF rfl rfl rfl (VF.call (sReason1_ok ha hb)) ?_
  refine VO.go ?_
  refine VC.condB rfl (fun c4 => ?_) (fun c4 => ?_)
  · try simp only [Bool.and_eq_true, Bool.or_eq_true, Bool.and_eq_false_iff, Bool.or_eq_false_iff, Bool.not_eq_true', Bool.not_eq_false', decide_eq_true_eq, decide_eq_false_iff_not] at c4
    refine VC.seq (VC.text ?_)
    refine VO.r (.ld vt140) ?_
    refine VO.setV (cs' := [St (⟨#[110, 97, 109, 101]⟩), .v .fn (some 183), I 9]) vt140 .v ?_
    refine VO.go ?_
    refine VC.ret ?_
    exact VEnd.one rfl (.cell (x := (⟨#[110, 97, 109, 101]⟩, some 183, 9)) rfl m0 vt140 .refl) (pvE (by cases h1 : meetB a.2.2.2.2 b.2.2.2.2 <;> simp_all [reasonIx] <;> rfl))
  try simp only [Bool.and_eq_true, Bool.or_eq_true, Bool.and_eq_false_iff, Bool.or_eq_false_iff, Bool.not_eq_true', Bool.not_eq_false', decide_eq_true_eq, decide_eq_false_iff_not] at c4
  refine VC.skip (VC.text ?_)
  refine VO.c (.add rfl rfl (by decide)) ?_
  refine VO.c (.move rfl) ?_
  refine VO.nil ?_
  refine VC.unroll ?_
  refine VC.seq (VC.text ?_)
  refine VO.c (.lss) ?_
  refine VO.go (VC.seq ?_)
  refine VC.condT rfl ?_
  refine VC.skip (VC.seq (VC.block (VC.seq (VC.text ?_))))
  refine VO.c (.ixA 1 (τ' := y140) (dy := (⟨#[99, 114, 101, 119]⟩, some 184, 15)) (.r (.l .o))) ?_
  refine VO.cell (.alloc zt140) ?_
  intro ww4
  refine VO.setV (cs' := [St (⟨#[99, 114, 101, 119]⟩), .v .fn (some 184), I 15]) vt140 .v ?_
  refine VO.shut [(6, .p y140 (⟨#[99, 114, 101, 119]⟩, some 184, 15))] (.cons rfl (.var m0 .refl) .nil) ?_
  refine VO.go (VC.seq (VC.text ?_))
  refine VO.c (.fa (τ' := .fn) (dy := some 184) (.r (.l .o))) ?_
  refine VO.r (.ld vt138) ?_
  refine VO.r (.ld vt35) ?_
  refine VO.r (.ld vt35) ?_
  refine VO.callF rfl rfl rfl (VF.call (sReason2_ok ha hb)) ?_
  refine VO.go ?_
  refine VC.condB rfl (fun c4 => ?_) (fun c4 => ?_)
  · try simp only [Bool.and_eq_true, Bool.or_eq_true, Bool.and_eq_false_iff, Bool.or_eq_false_iff, Bool.not_eq_true', Bool.not_eq_false', decide_eq_true_eq, decide_eq_false_iff_not] at c4
    refine VC.seq (VC.text ?_)
    refine VO.r (.ld vt140) ?_
    refine VO.setV (cs' := [St (⟨#[99, 114, 101, 119]⟩), .v .fn (some 184), I 15]) vt140 .v ?_
    refine VO.go ?_
    refine VC.ret ?_
    exact VEnd.one rfl (.cell (x := (⟨#[99, 114, 101, 119]⟩, some 184, 15)) rfl m0 vt140 .refl) (pvE (by cases h1 : meetB a.2.2.2.2 b.2.2.2.2 <;> simp_all [reasonIx] <;> rfl))
  try simp only [Bool.and_eq_true, Bool.or_eq_true, Bool.and_eq_false_iff, Bool.or_eq_false_iff, Bool.not_eq_true', Bool.not_eq_false', decide_eq_true_eq, decide_eq_false_iff_not] at c4
  refine VC.skip (VC.text ?_)
  refine VO.c (.add rfl rfl (by decide)) ?_
  refine VO.c (.move rfl) ?_
  refine VO.nil ?_
  refine VC.unroll ?_
  refine VC.seq (VC.text ?_)
  refine VO.c (.lss) ?_
  refine VO.go (VC.seq ?_)
  refine VC.condT rfl ?_
  refine VC.skip (VC.seq (VC.block (VC.seq (VC.text ?_))))
  refine VO.c (.ixA 2 (τ' := y140) (dy := (⟨#[108, 111, 99, 107]⟩, some 186, 33)) (.r (.r (.l .o)))) ?_
  refine VO.cell (.alloc zt140) ?_
  intro ww5
  refine VO.setV (cs' := [St (⟨#[108, 111, 99, 107]⟩), .v .fn (some 186), I 33]) vt140 .v ?_
  refine VO.shut [(6, .p y140 (⟨#[108, 111, 99, 107]⟩, some 186, 33))] (.cons rfl (.var m0 .refl) .nil) ?_
  refine VO.go (VC.seq (VC.text ?_))
  refine VO.c (.fa (τ' := .fn) (dy := some 186) (.r (.l .o))) ?_
  refine VO.r (.ld vt138) ?_
  refine VO.r (.ld vt35) ?_
  refine VO.r (.ld vt35) ?_
  refine VO.callF rfl rfl rfl (VF.call (sReason3_ok ha hb)) ?_
  refine VO.go ?_
  refine VC.condB rfl (fun c4 => ?_) (fun c4 => ?_)
  · try simp only [Bool.and_eq_true, Bool.or_eq_true, Bool.and_eq_false_iff, Bool.or_eq_false_iff, Bool.not_eq_true', Bool.not_eq_false', decide_eq_true_eq, decide_eq_false_iff_not] at c4
    refine VC.seq ?_
    refine VC.keep [(2, .p y35 a), (3, .p y35 b), (4, .raw ww2), (6, .p y140 (⟨#[108, 111, 99, 107]⟩, some 186, 33)), (7, .v y205 ((⟨#[110, 97, 109, 101]⟩, some 183, 9), (⟨#[99, 114, 101, 119]⟩, some 184, 15), (⟨#[108, 111, 99, 107]⟩, some 186, 33), (⟨#[103, 97, 116, 101]⟩, some 188, 33))), (8, I (2 : Int))] ⟨rfl, rfl, rfl, rfl, rfl, rfl, trivial⟩ ?_
    refine VC.text ?_
    refine VO.r (.ld vt140) ?_
    refine VO.setV (cs' := [St (⟨#[108, 111, 99, 107]⟩), .v .fn (some 186), I 33]) vt140 .v ?_
    refine VO.go ?_
    refine VC.ret ?_
    exact VEnd.one rfl (.cell (x := (⟨#[108, 111, 99, 107]⟩, some 186, 33)) rfl m0 vt140 .refl) (pvE (by cases h1 : meetB a.2.2.2.2 b.2.2.2.2 <;> simp_all [reasonIx] <;> rfl))
  try simp only [Bool.and_eq_true, Bool.or_eq_true, Bool.and_eq_false_iff, Bool.or_eq_false_iff, Bool.not_eq_true', Bool.not_eq_false', decide_eq_true_eq, decide_eq_false_iff_not] at c4
  refine VC.skip ?_
  refine VC.keep [(2, .p y35 a), (3, .p y35 b), (4, .raw ww2), (7, .v y205 ((⟨#[110, 97, 109, 101]⟩, some 183, 9), (⟨#[99, 114, 101, 119]⟩, some 184, 15), (⟨#[108, 111, 99, 107]⟩, some 186, 33), (⟨#[103, 97, 116, 101]⟩, some 188, 33))), (8, I (2 : Int))] ⟨rfl, rfl, rfl, rfl, rfl, trivial⟩ ?_
  refine VC.text ?_
  refine VO.c (.add rfl rfl (by decide)) ?_
  refine VO.c (.move rfl) ?_
  refine VO.nil ?_
  refine VC.unroll ?_
  refine VC.seq (VC.text ?_)
  refine VO.c (.lss) ?_
  refine VO.go (VC.seq ?_)
  refine VC.condT rfl ?_
  refine VC.skip (VC.seq (VC.block (VC.seq (VC.text ?_))))
  refine VO.c (.ixA 3 (τ' := y140) (dy := (⟨#[103, 97, 116, 101]⟩, some 188, 33)) (.r (.r (.r .o)))) ?_
  refine VO.cell (.alloc zt140) ?_
  intro ww6
  refine VO.setV (cs' := [St (⟨#[103, 97, 116, 101]⟩), .v .fn (some 188), I 33]) vt140 .v ?_
  refine VO.shut [(6, .p y140 (⟨#[103, 97, 116, 101]⟩, some 188, 33))] (.cons rfl (.var m0 .refl) .nil) ?_
  refine VO.go (VC.seq (VC.text ?_))
  refine VO.c (.fa (τ' := .fn) (dy := some 188) (.r (.l .o))) ?_
  refine VO.r (.ld vt138) ?_
  refine VO.r (.ld vt35) ?_
  refine VO.r (.ld vt35) ?_
  refine VO.callF rfl rfl rfl (VF.call (sReason4_ok ha hb)) ?_
  refine VO.go ?_
  refine VC.condB rfl (fun c4 => ?_) (fun c4 => ?_)
  · try simp only [Bool.and_eq_true, Bool.or_eq_true, Bool.and_eq_false_iff, Bool.or_eq_false_iff, Bool.not_eq_true', Bool.not_eq_false', decide_eq_true_eq, decide_eq_false_iff_not] at c4
    refine VC.seq (VC.text ?_)
    refine VO.r (.ld vt140) ?_
    refine VO.setV (cs' := [St (⟨#[103, 97, 116, 101]⟩), .v .fn (some 188), I 33]) vt140 .v ?_
    refine VO.go ?_
    refine VC.ret ?_
    exact VEnd.one rfl (.cell (x := (⟨#[103, 97, 116, 101]⟩, some 188, 33)) rfl m0 vt140 .refl) (pvE (by cases h1 : meetB a.2.2.2.2 b.2.2.2.2 <;> simp_all [reasonIx] <;> rfl))
  try simp only [Bool.and_eq_true, Bool.or_eq_true, Bool.and_eq_false_iff, Bool.or_eq_false_iff, Bool.not_eq_true', Bool.not_eq_false', decide_eq_true_eq, decide_eq_false_iff_not] at c4
  refine VC.skip (VC.text ?_)
  refine VO.c (.add rfl rfl (by decide)) ?_
  refine VO.c (.move rfl) ?_
  refine VO.nil ?_
  refine VC.unroll ?_
  refine VC.seq (VC.text ?_)
  refine VO.c (.lss) ?_
  refine VO.go (VC.seq ?_)
  refine VC.condF rfl ?_
  refine VC.exit (VC.seq (VC.text ?_))
  refine VO.c (.build (ByteArray.empty, none, 0) bt140) ?_
  refine VO.setV (cs' := [St ByteArray.empty, .v .fn none, I 0]) vt140 .v ?_
  refine VO.go ?_
  refine VC.ret ?_
  exact VEnd.one rfl (.cell (x := (ByteArray.empty, none, 0)) rfl m0 vt140 .refl) (pvE (by cases h1 : meetB a.2.2.2.2 b.2.2.2.2 <;> simp_all [reasonIx] <;> rfl))
end Go.Proofs
namespace Go.Proofs
open Go.Fs
set_option linter.unusedVariables false
theorem zt31 : ZerT Tryz.prog 31 y31 := zerT_of (z := .agg #[.string ByteArray.empty, .string ByteArray.empty, .string ByteArray.empty, .slice none 0 0, .int .i64 0, .int .i64 0]) (by kernel_rfl) rfl rfl
theorem bt35 : BldT Tryz.prog 35 y35 [(0, 1), (1, 1), (2, 1), (3, 1), (4, 2)] := bldT_of zt35 rfl (by kernel_rfl)
theorem any_all {α : Type} {F : α → Bool} {l : List α} {j : Nat} (hj : j < l.length) : (l.drop j).all F = (F l[j] && (l.drop (j + 1)).all F) := by
  rw [List.drop_eq_getElem_cons hj, List.all_cons]
def shortW (l : List ByteArray) : Bool := l.all fun w => decide (w.size ≤ 60)
theorem rShort_ok {l : List ByteArray} (hl : l.length < 1000000) : VF Tryz.prog OA 81 [.v (.sl .str) l] (B (shortW l)) := by
  refine VF.enter Tryz.func81 rfl (fun _ _ => rfl) rfl ?_
  show VC _ _ _ _ _ [(0, .v (.sl .str) l)] [] _
  refine VC.seq (VC.text ?_)
  refine VO.c (.assign rfl) ?_
  refine VO.go (VC.seq (VC.seq (VC.text ?_)))
  refine VO.c (.assign rfl) ?_
  refine VO.go (VC.block ?_)
  refine VC.keep [(0, .v (.sl .str) l), (3, I ((0 : Nat) : Int))] ⟨rfl, rfl, trivial⟩ ?_
  refine VC.loop (I := fun kk ff ss => ∃ (j : Nat), kk = l.length - j ∧ ff = [(0, .v (.sl .str) l), (3, I ((j : Nat) : Int))] ∧ ss = [] ∧ (j ≤ l.length) ∧ (shortW l = shortW (l.drop j))) ?_ _ _ _ ⟨0, rfl, rfl, rfl, Nat.zero_le _, (by rfl)⟩
  rintro kk ff ss ⟨j, hk0, rfl, rfl, hj, hi⟩
  refine VC.seq (VC.seq (VC.text ?_))
  refine VO.c (.move rfl) ?_
  refine VO.c (.move rfl) ?_
  refine VO.r (.len el27) ?_
  refine VO.c (.lss) ?_
  refine VO.go ?_
  refine VC.condD rfl (fun c2 => ?_) (fun c2 => ?_)
  · refine VC.skip (VC.seq (VC.block (VC.seq (VC.text ?_))))
    refine VO.c (.move rfl) ?_
    refine VO.c (.move rfl) ?_
    refine VO.c (.ix (j := j) rfl rfl el27 (by omega)) ?_
    refine VO.r (.ld vt9) ?_
    refine VO.r (.lenS) ?_
    refine VO.c (.gtr) ?_
    refine VO.go ?_
    refine VC.condD rfl (fun c4 => ?_) (fun c4 => ?_)
    · refine VC.seq (VC.text ?_)
      refine VO.c (.assign rfl) ?_
      refine VO.go ?_
      refine VC.ret ?_
      exact VEnd.one rfl evT (pvE (by rw [hi, shortW, any_all (by omega), decide_eq_false (by omega)] <;> rfl))
    refine VC.skip (VC.text ?_)
    refine VO.c (.move rfl) ?_
    refine VO.c (.add rfl rfl (by omega)) ?_
    refine VO.c (.assign rfl) ?_
    refine VO.nil ?_
    refine ⟨_, [(0, .v (.sl .str) l), (3, I (((j + 1) : Nat) : Int))], ?_, ⟨rfl, rfl, trivial⟩, (j + 1), rfl, rfl, rfl, (by omega), (by rw [hi, shortW, any_all (by omega), decide_eq_true (by omega)] <;> rfl)⟩
    omega
  refine VC.exit (VC.seq (VC.text ?_))
  refine VO.c (.assign rfl) ?_
  refine VO.go ?_
  refine VC.ret ?_
  exact VEnd.one rfl evT (pvE (by rw [hi, shortW, List.drop_eq_nil_of_le (by omega)] <;> rfl))
def shortP (p : Permit) : Bool := !((decide (9 < (p.2.2.2.1.length : Int)) || !shortW p.2.2.2.1) || !shortW [p.1, p.2.1, p.2.2.1]) && !(decide (spanE p.2.2.2.2 = 0) && decide (40 < p.2.2.2.2.2 - p.2.2.2.2.1))
def shortPs (l : List Permit) : Bool := decide (l.length ≤ 8 ∨ l.length = 65 ∨ l.length = 64) && l.all shortP
theorem shortPs_f {l : List Permit} {j : Nat} (hj : j < l.length) (h : shortP l[j] = false) : false = shortPs l := by
  symm
  unfold shortPs
  rw [Bool.and_eq_false_iff]
  right
  rw [List.all_eq_false]
  exact ⟨l[j], List.getElem_mem _, by rw [h]; decide⟩
theorem rShortP_ok {l : List (ByteArray × ByteArray × ByteArray × (List ByteArray) × (Int × Int))} : VF Tryz.prog OA 14 [.v y22 l] (B (shortPs l)) := by
  refine VF.enter Tryz.func14 rfl (fun _ _ => rfl) rfl ?_
  show VC _ _ _ _ _ [(0, .v y22 l)] [] _
  refine VC.seq (VC.text ?_)
  refine VO.c (.assign rfl) ?_
  refine VO.go (VC.seq (VC.seq (VC.text ?_)))
  refine VO.c (.move rfl) ?_
  refine VO.r (.len el22) ?_
  refine VO.c (.gtr) ?_
  refine VO.c (.move rfl) ?_
  refine VO.cg (r := decide ((8 : Int) < ((l.length : Nat) : Int))) (w := true) [] trivial (fun hgd => have g1_3 : (8 : Int) < ((l.length : Nat) : Int) := (by simpa using hgd); (.move rfl)) ?_
  refine VO.rg (r := decide ((8 : Int) < ((l.length : Nat) : Int))) (w := true) [(9, .v y22 l)] ⟨rfl, trivial⟩ (fun hgd => have g1_3 : (8 : Int) < ((l.length : Nat) : Int) := (by simpa using hgd); (.len el22)) ?_
  refine VO.cg (r := decide ((8 : Int) < ((l.length : Nat) : Int))) (w := true) [(10, I ((l.length : Nat) : Int))] ⟨rfl, trivial⟩ (fun hgd => have g1_3 : (8 : Int) < ((l.length : Nat) : Int) := (by simpa using hgd); (.neq)) ?_
  refine VO.c (.and) ?_
  refine VO.c (.move rfl) ?_
  refine VO.cg (r := ((decide ((8 : Int) < ((l.length : Nat) : Int))) && (decide (((l.length : Nat) : Int) ≠ (65 : Int))))) (w := true) [] trivial (fun hgd => have g1_8 : ((decide ((8 : Int) < ((l.length : Nat) : Int))) && (decide (((l.length : Nat) : Int) ≠ (65 : Int)))) = true := (by simpa using hgd); (.move rfl)) ?_
  refine VO.rg (r := ((decide ((8 : Int) < ((l.length : Nat) : Int))) && (decide (((l.length : Nat) : Int) ≠ (65 : Int))))) (w := true) [(14, .v y22 l)] ⟨rfl, trivial⟩ (fun hgd => have g1_8 : ((decide ((8 : Int) < ((l.length : Nat) : Int))) && (decide (((l.length : Nat) : Int) ≠ (65 : Int)))) = true := (by simpa using hgd); (.len el22)) ?_
  refine VO.cg (r := ((decide ((8 : Int) < ((l.length : Nat) : Int))) && (decide (((l.length : Nat) : Int) ≠ (65 : Int))))) (w := true) [(15, I ((l.length : Nat) : Int))] ⟨rfl, trivial⟩ (fun hgd => have g1_8 : ((decide ((8 : Int) < ((l.length : Nat) : Int))) && (decide (((l.length : Nat) : Int) ≠ (65 : Int)))) = true := (by simpa using hgd); (.neq)) ?_
  refine VO.c (.and) ?_
  refine VO.go ?_
  refine VC.condB rfl (fun c1 => ?_) (fun c1 => ?_)
  · try simp only [Bool.and_eq_true, Bool.or_eq_true, Bool.and_eq_false_iff, Bool.or_eq_false_iff, Bool.not_eq_true', Bool.not_eq_false', decide_eq_true_eq, decide_eq_false_iff_not] at c1
    refine VC.seq (VC.text ?_)
    refine VO.c (.assign rfl) ?_
    refine VO.go ?_
    refine VC.ret ?_
    exact VEnd.one rfl evT (pvE (by first | (symm; rw [shortPs, decide_eq_false (by omega)]; rfl) | exact shortPs_f (j := j) (by omega) (by rcases g7_10 with h | h <;> simp [shortP, h]) | exact shortPs_f (j := j) (by omega) (by simp [shortP, *]) | (rw [hf, List.drop_eq_nil_of_le (by omega)]; rfl)))
  try simp only [Bool.and_eq_true, Bool.or_eq_true, Bool.and_eq_false_iff, Bool.or_eq_false_iff, Bool.not_eq_true', Bool.not_eq_false', decide_eq_true_eq, decide_eq_false_iff_not] at c1
  refine VC.skip (VC.seq (VC.seq (VC.text ?_)))
  refine VO.c (.assign rfl) ?_
  refine VO.go (VC.block ?_)
  refine VC.keep [(0, .v y22 l), (3, I ((0 : Nat) : Int))] ⟨rfl, rfl, trivial⟩ ?_
  refine VC.loop (I := fun kk ff ss => ∃ (j : Nat), kk = l.length - j ∧ ff = [(0, .v y22 l), (3, I ((j : Nat) : Int))] ∧ ss = [] ∧ (j ≤ l.length) ∧ (l.length ≤ 8 ∨ l.length = 65 ∨ l.length = 64) ∧ (shortPs l = (l.drop j).all shortP)) ?_ _ _ _ ⟨0, rfl, rfl, rfl, Nat.zero_le _, (by omega), (by rw [shortPs, decide_eq_true (by omega)]; rfl)⟩
  rintro kk ff ss ⟨j, hk0, rfl, rfl, hj, h0, hf⟩
  refine VC.seq (VC.seq (VC.text ?_))
  refine VO.c (.move rfl) ?_
  refine VO.c (.move rfl) ?_
  refine VO.r (.len el22) ?_
  refine VO.c (.lss) ?_
  refine VO.go ?_
  refine VC.condD rfl (fun c4 => ?_) (fun c4 => ?_)
  · refine VC.skip (VC.seq (VC.block (VC.seq (VC.text ?_))))
    refine VO.c (.move rfl) ?_
    refine VO.c (.move rfl) ?_
    refine VO.c (.ix (j := j) rfl rfl el22 (by omega)) ?_
    refine VO.r (.ld vt31) ?_
    refine VO.cell (.alloc zt31) ?_
    intro ww1
    refine VO.setV (cs' := [St ((l[j]).1), St ((l[j]).2.1), St ((l[j]).2.2.1), .v (.sl .str) ((l[j]).2.2.2.1), I (((l[j]).2.2.2.2).1), I (((l[j]).2.2.2.2).2)]) vt31 .v ?_
    refine VO.shut [(4, .p y31 (l[j]))] (.cons rfl (.var m0 .refl) .nil) ?_
    refine VO.go (VC.seq (VC.text ?_))
    refine VO.c (.fa (.r (.r (.r (.l .o))))) ?_
    refine VO.r (.ld vt27) ?_
    refine VO.r (.len el27) ?_
    refine VO.c (.gtr) ?_
    refine VO.c (.move rfl) ?_
    refine VO.cg (r := decide ((9 : Int) < ((((l[j]).2.2.2.1).length : Nat) : Int))) (w := false) [] trivial (fun hgd => have g7_4 : ¬ ((9 : Int) < ((((l[j]).2.2.2.1).length : Nat) : Int)) := (by simpa using hgd); (.fa (.r (.r (.r (.l .o)))))) ?_
    refine VO.rg (r := decide ((9 : Int) < ((((l[j]).2.2.2.1).length : Nat) : Int))) (w := false) [(33, .p (.sl .str) ((l[j]).2.2.2.1))] ⟨rfl, trivial⟩ (fun hgd => have g7_4 : ¬ ((9 : Int) < ((((l[j]).2.2.2.1).length : Nat) : Int)) := (by simpa using hgd); (.ld vt27)) ?_
    refine VO.callg (r0 := decide ((9 : Int) < ((((l[j]).2.2.2.1).length : Nat) : Int))) (w := false) [(34, .v (.sl .str) ((l[j]).2.2.2.1))] ⟨rfl, trivial⟩ rfl rfl .same .refl rfl (fun hgd => have g7_4 : ¬ ((9 : Int) < ((((l[j]).2.2.2.1).length : Nat) : Int)) := (by simpa using hgd); VF.call (rShort_ok (by omega))) ?_
    refine VO.cg (r := decide ((9 : Int) < ((((l[j]).2.2.2.1).length : Nat) : Int))) (w := false) [(35, B (shortW ((l[j]).2.2.2.1)))] ⟨rfl, trivial⟩ (fun hgd => have g7_4 : ¬ ((9 : Int) < ((((l[j]).2.2.2.1).length : Nat) : Int)) := (by simpa using hgd); (.not)) ?_
    refine VO.c (.or) ?_
    refine VO.c (.move rfl) ?_
    refine VO.splitB (x := 38) rfl (fun g7_10 => ?_) (fun g7_10 => ?_)
    · try simp only [Bool.and_eq_true, Bool.or_eq_true, Bool.and_eq_false_iff, Bool.or_eq_false_iff, Bool.not_eq_true', Bool.not_eq_false', decide_eq_true_eq, decide_eq_false_iff_not] at g7_10
      refine VO.skip ?_
      refine VO.skip ?_
      refine VO.skip ?_
      refine VO.skip ?_
      refine VO.skip ?_
      refine VO.skip ?_
      refine VO.skip ?_
      refine VO.skip ?_
      refine VO.skip ?_
      refine VO.c (.pickT rfl rfl) ?_
      refine VO.c (.move rfl) ?_
      refine VO.skip ?_
      refine VO.skip ?_
      refine VO.skip ?_
      refine VO.skip ?_
      refine VO.skip ?_
      refine VO.skip ?_
      refine VO.skip ?_
      refine VO.skip ?_
      refine VO.skip ?_
      refine VO.skip ?_
      refine VO.skip ?_
      refine VO.skip ?_
      refine VO.skip ?_
      refine VO.skip ?_
      refine VO.c (.pickT rfl rfl) ?_
      refine VO.go ?_
      refine VC.condT rfl ?_
      refine VC.seq ?_
      refine VC.keep [(0, .v y22 l), (3, I ((j : Nat) : Int))] ⟨rfl, rfl, trivial⟩ ?_
      refine VC.text ?_
      refine VO.c (.assign rfl) ?_
      refine VO.go ?_
      refine VC.ret ?_
      exact VEnd.one rfl evT (pvE (by first | (symm; rw [shortPs, decide_eq_false (by omega)]; rfl) | exact shortPs_f (j := j) (by omega) (by rcases g7_10 with h | h <;> simp [shortP, h]) | exact shortPs_f (j := j) (by omega) (by simp [shortP, *]) | (rw [hf, List.drop_eq_nil_of_le (by omega)]; rfl)))
    try simp only [Bool.and_eq_true, Bool.or_eq_true, Bool.and_eq_false_iff, Bool.or_eq_false_iff, Bool.not_eq_true', Bool.not_eq_false', decide_eq_true_eq, decide_eq_false_iff_not] at g7_10
    refine VO.c (.fa (.l .o)) ?_
    refine VO.r (.ld vt9) ?_
    refine VO.c (.fa (.r (.l .o))) ?_
    refine VO.r (.ld vt9) ?_
    refine VO.c (.fa (.r (.r (.l .o)))) ?_
    refine VO.r (.ld vt9) ?_
    refine VO.new (.lit [(l[j]).1, (l[j]).2.1, (l[j]).2.2.1] el27) ?_
    refine VO.call rfl rfl (VF.call (rShort_ok (by simp))) ?_
    refine VO.c (.not) ?_
    refine VO.c (.pickF rfl rfl) ?_
    refine VO.c (.move rfl) ?_
    refine VO.splitB (x := 49) rfl (fun g7_21 => ?_) (fun g7_21 => ?_)
    · try simp only [Bool.and_eq_true, Bool.or_eq_true, Bool.and_eq_false_iff, Bool.or_eq_false_iff, Bool.not_eq_true', Bool.not_eq_false', decide_eq_true_eq, decide_eq_false_iff_not] at g7_21
      refine VO.skip ?_
      refine VO.skip ?_
      refine VO.skip ?_
      refine VO.skip ?_
      refine VO.skip ?_
      refine VO.skip ?_
      refine VO.skip ?_
      refine VO.skip ?_
      refine VO.skip ?_
      refine VO.skip ?_
      refine VO.skip ?_
      refine VO.skip ?_
      refine VO.skip ?_
      refine VO.skip ?_
      refine VO.c (.pickT rfl rfl) ?_
      refine VO.go ?_
      refine VC.condT rfl ?_
      refine VC.seq ?_
      refine VC.keep [(0, .v y22 l), (3, I ((j : Nat) : Int))] ⟨rfl, rfl, trivial⟩ ?_
      refine VC.text ?_
      refine VO.c (.assign rfl) ?_
      refine VO.go ?_
      refine VC.ret ?_
      exact VEnd.one rfl evT (pvE (by first | (symm; rw [shortPs, decide_eq_false (by omega)]; rfl) | exact shortPs_f (j := j) (by omega) (by rcases g7_10 with h | h <;> simp [shortP, h]) | exact shortPs_f (j := j) (by omega) (by simp [shortP, *]) | (rw [hf, List.drop_eq_nil_of_le (by omega)]; rfl)))
    try simp only [Bool.and_eq_true, Bool.or_eq_true, Bool.and_eq_false_iff, Bool.or_eq_false_iff, Bool.not_eq_true', Bool.not_eq_false', decide_eq_true_eq, decide_eq_false_iff_not] at g7_21
    refine VO.c (.fa (.r (.r (.r (.r .o))))) ?_
    refine VO.r (.ld vt29) ?_
    refine VO.call rfl rfl (VF.call (rSpan_ok )) ?_
    refine VO.c (.eql) ?_
    refine VO.c (.move rfl) ?_
    refine VO.cg (r := decide (spanE ((l[j]).2.2.2.2) = (0 : Int))) (w := true) [] trivial (fun hgd => have g7_26 : spanE ((l[j]).2.2.2.2) = (0 : Int) := (by simpa using hgd); (.fa (.r (.r (.r (.r .o)))))) ?_
    refine VO.cg (r := decide (spanE ((l[j]).2.2.2.2) = (0 : Int))) (w := true) [(55, .p y29 ((l[j]).2.2.2.2))] ⟨rfl, trivial⟩ (fun hgd => have g7_26 : spanE ((l[j]).2.2.2.2) = (0 : Int) := (by simpa using hgd); (.fa (.r .o))) ?_
    refine VO.rg (r := decide (spanE ((l[j]).2.2.2.2) = (0 : Int))) (w := true) [(56, .p (.int .i64) (((l[j]).2.2.2.2).2))] ⟨rfl, trivial⟩ (fun hgd => have g7_26 : spanE ((l[j]).2.2.2.2) = (0 : Int) := (by simpa using hgd); (.ld vt3)) ?_
    refine VO.cg (r := decide (spanE ((l[j]).2.2.2.2) = (0 : Int))) (w := true) [] trivial (fun hgd => have g7_26 : spanE ((l[j]).2.2.2.2) = (0 : Int) := (by simpa using hgd); (.fa (.r (.r (.r (.r .o)))))) ?_
    refine VO.cg (r := decide (spanE ((l[j]).2.2.2.2) = (0 : Int))) (w := true) [(58, .p y29 ((l[j]).2.2.2.2))] ⟨rfl, trivial⟩ (fun hgd => have g7_26 : spanE ((l[j]).2.2.2.2) = (0 : Int) := (by simpa using hgd); (.fa (.l .o))) ?_
    refine VO.rg (r := decide (spanE ((l[j]).2.2.2.2) = (0 : Int))) (w := true) [(59, .p (.int .i64) (((l[j]).2.2.2.2).1))] ⟨rfl, trivial⟩ (fun hgd => have g7_26 : spanE ((l[j]).2.2.2.2) = (0 : Int) := (by simpa using hgd); (.ld vt3)) ?_
    refine VO.cg (r := decide (spanE ((l[j]).2.2.2.2) = (0 : Int))) (w := true) [(57, I (((l[j]).2.2.2.2).2)), (60, I (((l[j]).2.2.2.2).1))] ⟨rfl, rfl, trivial⟩ (fun hgd => have g7_26 : spanE ((l[j]).2.2.2.2) = (0 : Int) := (by simpa using hgd); (.sub rfl rfl (by have h := spanE_ok g7_26; omega))) ?_
    refine VO.cg (r := decide (spanE ((l[j]).2.2.2.2) = (0 : Int))) (w := true) [(61, I (((l[j]).2.2.2.2).2 - ((l[j]).2.2.2.2).1))] ⟨rfl, trivial⟩ (fun hgd => have g7_26 : spanE ((l[j]).2.2.2.2) = (0 : Int) := (by simpa using hgd); (.gtr)) ?_
    refine VO.c (.and) ?_
    refine VO.c (.pickF rfl rfl) ?_
    refine VO.go ?_
    refine VC.condB rfl (fun c7 => ?_) (fun c7 => ?_)
    · try simp only [Bool.and_eq_true, Bool.or_eq_true, Bool.and_eq_false_iff, Bool.or_eq_false_iff, Bool.not_eq_true', Bool.not_eq_false', decide_eq_true_eq, decide_eq_false_iff_not] at c7
      refine VC.seq ?_
      refine VC.keep [(0, .v y22 l), (3, I ((j : Nat) : Int))] ⟨rfl, rfl, trivial⟩ ?_
      refine VC.text ?_
      refine VO.c (.assign rfl) ?_
      refine VO.go ?_
      refine VC.ret ?_
      exact VEnd.one rfl evT (pvE (by first | (symm; rw [shortPs, decide_eq_false (by omega)]; rfl) | exact shortPs_f (j := j) (by omega) (by rcases g7_10 with h | h <;> simp [shortP, h]) | exact shortPs_f (j := j) (by omega) (by simp [shortP, *]) | (rw [hf, List.drop_eq_nil_of_le (by omega)]; rfl)))
    try simp only [Bool.and_eq_true, Bool.or_eq_true, Bool.and_eq_false_iff, Bool.or_eq_false_iff, Bool.not_eq_true', Bool.not_eq_false', decide_eq_true_eq, decide_eq_false_iff_not] at c7
    have hz : shortP l[j] = true := by simp_all [shortP]
    refine VC.skip ?_
    refine VC.keep [(0, .v y22 l), (3, I ((j : Nat) : Int))] ⟨rfl, rfl, trivial⟩ ?_
    refine VC.text ?_
    refine VO.c (.move rfl) ?_
    refine VO.c (.add rfl rfl (by omega)) ?_
    refine VO.c (.assign rfl) ?_
    refine VO.nil ?_
    refine ⟨_, [(0, .v y22 l), (3, I (((j + 1) : Nat) : Int))], ?_, ⟨rfl, rfl, trivial⟩, (j + 1), rfl, rfl, rfl, (by omega), (by exact h0), (by rw [hf, any_all (by omega), hz] <;> rfl)⟩
    omega
  refine VC.exit (VC.seq (VC.text ?_))
  refine VO.c (.assign rfl) ?_
  refine VO.go ?_
  refine VC.ret ?_
  exact VEnd.one rfl evT (pvE (by first | (symm; rw [shortPs, decide_eq_false (by omega)]; rfl) | exact shortPs_f (j := j) (by omega) (by rcases g7_10 with h | h <;> simp [shortP, h]) | exact shortPs_f (j := j) (by omega) (by simp [shortP, *]) | (rw [hf, List.drop_eq_nil_of_le (by omega)]; rfl)))
theorem lWords_ok {l : List ByteArray} (hl : l.length < 1000000) : VF Tryz.prog OA 66 [.v (.sl .str) l] (.v (.sl .str) l) := by
  refine VF.enter Tryz.func66 rfl (fun _ _ => rfl) rfl ?_
  show VC _ _ _ _ _ [(0, .v (.sl .str) l)] [] _
  refine VC.seq (VC.text ?_)
  refine VO.c (.assign rfl) ?_
  refine VO.go (VC.seq (VC.text ?_))
  refine VO.cell (.lit0 el27) ?_
  intro ww2
  refine VO.c (.move rfl) ?_
  refine VO.app rfl rfl el27 el27 (by simp; omega) ?_
  intro ww3
  refine VO.c (.assign rfl) ?_
  refine VO.go ?_
  refine VC.ret ?_
  exact VEnd.one rfl (evC (.row m0)) (pvE (by rfl))
theorem lPermit_ok {p : ByteArray × ByteArray × ByteArray × (List ByteArray) × (Int × Int)} (hl : p.2.2.2.1.length < 1000000) : VF Tryz.prog OA 18 [.v y31 p] (.v y35 p) := by
  refine VF.enter Tryz.func18 rfl (fun _ _ => rfl) rfl ?_
  show VC _ _ _ _ _ [(0, .v y31 p)] [] _
  refine VC.seq (VC.text ?_)
  refine VO.new (.box) ?_
  refine VO.cell (.alloc zt35) ?_
  intro ww4
  refine VO.go (VC.seq (VC.drawn ?_))
  refine VD.c (.fa (.l .o)) ?_
  refine VD.r [] (.ld vt9) (.inl rfl) ?_
  refine VD.c (.fa (.r (.l .o))) ?_
  refine VD.r [] (.ld vt9) (.inl rfl) ?_
  refine VD.c (.fa (.r (.r (.l .o)))) ?_
  refine VD.r [] (.ld vt9) (.inl rfl) ?_
  refine VD.nw [] ?_
  refine VD.c (.fa (.r (.r (.r (.l .o))))) ?_
  refine VD.r [] (.ld vt27) (.inl rfl) ?_
  refine VD.call rfl rfl (VF.call (lWords_ok hl)) ?_
  refine VD.c (.fa (.r (.r (.r (.r .o))))) ?_
  refine VD.r [] (.ld vt29) (.inl rfl) ?_
  refine VD.c (.build (p.1, p.2.1, p.2.2.1, p.2.2.2.1, p.2.2.2.2) bt35) ?_
  refine VD.mk0 (MakeV.setF (k := 0) vt35 .v (Nat.le_of_ble_eq_true rfl) (.inr ⟨rfl, rfl⟩) rfl rfl) ?_
  rintro _ _ tl5 ⟨rfl, rfl⟩
  refine VD.go ?_
  refine VC.ret ?_
  exact VEnd.one rfl (.cell (x := (p.1, p.2.1, p.2.2.1, p.2.2.2.1, p.2.2.2.2)) rfl m0 vt35 .refl) (pvE (by rfl))
theorem lPermits_ok {l : List (ByteArray × ByteArray × ByteArray × (List ByteArray) × (Int × Int))} (hl : l.length < 100000) (hp : PermOk l) : VF Tryz.prog OA 24 [.v y22 l] (.v y43 l) := by
  refine VF.enter Tryz.func24 rfl (fun _ _ => rfl) rfl ?_
  show VC _ _ _ _ _ [(0, .v y22 l)] [] _
  refine VC.seq (VC.text ?_)
  refine VO.c (.assign rfl) ?_
  refine VO.go (VC.seq (VC.text ?_))
  refine VO.c (.assign rfl) ?_
  refine VO.go (VC.seq (VC.seq (VC.text ?_)))
  refine VO.c (.move rfl) ?_
  refine VO.r (.len el22) ?_
  refine VO.c (.move rfl) ?_
  refine VO.go (VC.block ?_)
  refine VC.cell0 35 y35 ?_
  refine VC.keep [(3, .raw (.slice none 0 0)), (6, .v y22 l), (7, I ((l.length : Nat) : Int)), (8, I ((0 : Nat) : Int))] ⟨rfl, rfl, rfl, rfl, trivial⟩ ?_
  refine VC.loop (I := fun kk ff ss => ∃ (j : Nat) (out : Value), kk = l.length - j ∧ ff = [(3, .raw out), (6, .v y22 l), (7, I ((l.length : Nat) : Int)), (8, I ((j : Nat) : Int))] ∧ ss = [(out, .row 35 y35 (l.take j))] ∧ (j ≤ l.length)) ?_ _ _ _ ⟨0, (.slice none 0 0), rfl, rfl, rfl, Nat.zero_le _⟩
  rintro kk ff ss ⟨j, out, hk0, rfl, rfl, hj⟩
  refine VC.seq (VC.text ?_)
  refine VO.c (.lss) ?_
  refine VO.go (VC.seq ?_)
  refine VC.condD rfl (fun c3 => ?_) (fun c3 => ?_)
  · refine VC.skip (VC.seq (VC.block (VC.seq (VC.text ?_))))
    refine VO.c (.ix (j := j) rfl rfl el22 (by omega)) ?_
    refine VO.r (.ld vt31) ?_
    refine VO.cell (.alloc zt31) ?_
    intro ww6
    refine VO.setV (cs' := [St ((l[j]).1), St ((l[j]).2.1), St ((l[j]).2.2.1), .v (.sl .str) ((l[j]).2.2.2.1), I (((l[j]).2.2.2.2).1), I (((l[j]).2.2.2.2).2)]) vt31 .v ?_
    refine VO.shut [(5, .p y31 (l[j]))] (.cons rfl (.var m0 .refl) .nil) ?_
    refine VO.go (VC.text ?_)
    refine VO.c (.move rfl) ?_
    refine VO.r (.ld vt31) ?_
    refine VO.call rfl rfl (VF.call (lPermit_ok (hp _ (List.getElem_mem _)))) ?_
    refine VO.new (.lit [(l[j])] el43) ?_
    refine VO.app rfl rfl el43 el43 (by simp; omega) ?_
    intro ww7
    refine VO.c (.assign rfl) ?_
    refine VO.nil (VC.text ?_)
    refine VO.c (.add rfl rfl (by omega)) ?_
    refine VO.c (.move rfl) ?_
    refine VO.nil ?_
    refine ⟨_, [(3, .raw ww7), (6, .v y22 l), (7, I ((l.length : Nat) : Int)), (8, I (((j + 1) : Nat) : Int))], ?_, ⟨rfl, rfl, rfl, rfl, trivial⟩, (j + 1), ww7, rfl, rfl, (by rw [List.take_succ_eq_append_getElem (by omega)] <;> rfl), (by omega)⟩
    omega
  refine VC.exit (VC.seq (VC.text ?_))
  refine VO.c (.move rfl) ?_
  refine VO.c (.assign rfl) ?_
  refine VO.go ?_
  refine VC.ret ?_
  exact VEnd.one rfl (evC (.row m0)) (pvE (by rw [List.take_of_length_le (by omega)]))
end Go.Proofs
namespace Go.Proofs
open Go.Fs
def Asc (l : List ByteArray) : Prop := l.Pairwise fun a b => ltS a b = true
theorem asc_nil : Asc [] := List.Pairwise.nil
theorem Asc.tail {a : ByteArray} {l : List ByteArray} (h : Asc (a :: l)) : Asc l := (List.pairwise_cons.1 h).2
theorem Asc.head {a x : ByteArray} {l : List ByteArray} (h : Asc (a :: l)) (hx : x ∈ l) : ltS a x = true := (List.pairwise_cons.1 h).1 x hx
theorem Asc.not {a : ByteArray} {l : List ByteArray} (h : Asc (a :: l)) : a ∉ l := fun hm => by
  have := h.head hm
  rw [ltS_irr] at this; cases this
theorem asc_ext : ∀ {a b : List ByteArray}, Asc a → Asc b → (∀ x, x ∈ a ↔ x ∈ b) → a = b
  | [], [], _, _, _ => rfl
  | [], y :: b, _, _, h => by have := (h y).2 List.mem_cons_self; cases this
  | x :: a, [], _, _, h => by have := (h x).1 List.mem_cons_self; cases this
  | x :: a, y :: b, ha, hb, h => by
    have e : x = y := by
      have h1 := (h x).1 List.mem_cons_self
      have h2 := (h y).2 List.mem_cons_self
      rcases List.mem_cons.1 h1 with h1 | h1
      · exact h1
      rcases List.mem_cons.1 h2 with h2 | h2
      · exact h2.symm
      have h3 := hb.head h1
      have h4 := ha.head h2
      rw [ltS_asym h3] at h4; cases h4
    subst e
    rw [asc_ext ha.tail hb.tail fun z => ?_]
    constructor
    · intro hz
      rcases List.mem_cons.1 ((h z).1 (List.mem_cons_of_mem _ hz)) with e | hz'
      · subst e; exact absurd hz ha.not
      exact hz'
    intro hz
    rcases List.mem_cons.1 ((h z).2 (List.mem_cons_of_mem _ hz)) with e | hz'
    · subst e; exact absurd hz hb.not
    exact hz'
def insE (w : ByteArray) : List ByteArray → List ByteArray
  | [] => [w]
  | x :: l => if ltS w x = true then w :: x :: l else x :: insE w l
def putE (l : List ByteArray) (w : ByteArray) : List ByteArray := if hasB l w = true then l else insE w l
theorem hasB_mem {l : List ByteArray} {w : ByteArray} : hasB l w = true ↔ w ∈ l := by
  unfold hasB
  rw [List.any_eq_true]
  constructor
  · rintro ⟨x, hx, he⟩
    have := of_decide_eq_true he
    subst this; exact hx
  exact fun h => ⟨w, h, decide_eq_true rfl⟩
theorem mem_insE {w x : ByteArray} : ∀ {l : List ByteArray}, x ∈ insE w l ↔ x = w ∨ x ∈ l
  | [] => by simp [insE]
  | y :: l => by
    unfold insE
    by_cases h : ltS w y = true
    · rw [if_pos h]; simp
    rw [if_neg h, List.mem_cons, mem_insE (l := l), List.mem_cons]
    constructor
    · rintro (h | h | h)
      · exact .inr (.inl h)
      · exact .inl h
      exact .inr (.inr h)
    rintro (h | h | h)
    · exact .inr (.inl h)
    · exact .inl h
    exact .inr (.inr h)
theorem insE_asc {w : ByteArray} : ∀ {l : List ByteArray}, Asc l → w ∉ l → Asc (insE w l)
  | [], _, _ => List.pairwise_cons.2 ⟨fun _ h => (by cases h), List.Pairwise.nil⟩
  | y :: l, ha, hw => by
    unfold insE
    by_cases h : ltS w y = true
    · rw [if_pos h]
      refine List.pairwise_cons.2 ⟨fun x hx => ?_, ha⟩
      rcases List.mem_cons.1 hx with e | hx
      · subst e; exact h
      exact ltS_trans h (ha.head hx)
    rw [if_neg h]
    refine List.pairwise_cons.2 ⟨fun x hx => ?_, insE_asc ha.tail fun hm => hw (List.mem_cons_of_mem _ hm)⟩
    rcases mem_insE.1 hx with e | hx
    · subst e
      have h1 := leS_eq (p := x) (q := y)
      have h2 : ¬ x = y := fun e => hw (e ▸ List.mem_cons_self)
      have h3 : ltS x y = false := by simpa using h
      rw [h3, decide_eq_false h2] at h1
      simpa using h1.symm
    exact ha.head hx
theorem putE_asc {l : List ByteArray} {w : ByteArray} (h : Asc l) : Asc (putE l w) := by
  unfold putE
  by_cases hh : hasB l w = true
  · rw [if_pos hh]; exact h
  rw [if_neg hh]; exact insE_asc h fun hm => hh (hasB_mem.2 hm)
theorem mem_putE {l : List ByteArray} {w x : ByteArray} : x ∈ putE l w ↔ x = w ∨ x ∈ l := by
  unfold putE
  by_cases hh : hasB l w = true
  · rw [if_pos hh]
    constructor
    · exact .inr
    rintro (h | h)
    · subst h; exact hasB_mem.1 hh
    exact h
  rw [if_neg hh]; exact mem_insE
def setE (l : List ByteArray) : List ByteArray := l.foldl putE []
theorem foldl_putE : ∀ (l a : List ByteArray), Asc a → Asc (l.foldl putE a) ∧ ∀ x, x ∈ l.foldl putE a ↔ x ∈ l ∨ x ∈ a
  | [], a, ha => ⟨ha, fun x => by simp⟩
  | w :: l, a, ha => by
    obtain ⟨h1, h2⟩ := foldl_putE l (putE a w) (putE_asc ha)
    refine ⟨h1, fun x => ?_⟩
    rw [List.foldl_cons, h2, mem_putE, List.mem_cons]
    constructor
    · rintro (h | h | h)
      · exact .inl (.inr h)
      · exact .inl (.inl h)
      exact .inr h
    rintro ((h | h) | h)
    · exact .inr (.inl h)
    · exact .inl h
    exact .inr (.inr h)
theorem setE_asc (l : List ByteArray) : Asc (setE l) := (foldl_putE l [] asc_nil).1
theorem mem_setE {l : List ByteArray} {x : ByteArray} : x ∈ setE l ↔ x ∈ l := by
  have := (foldl_putE l [] asc_nil).2 x
  simpa [setE] using this
theorem setE_eq {l m : List ByteArray} (ha : Asc m) (hm : ∀ x, x ∈ m ↔ x ∈ l) : m = setE l := asc_ext ha (setE_asc l) fun x => (hm x).trans mem_setE.symm
def hasT (s : Int × Int) (t : Int) : Bool := decide (s.1 ≤ t) && decide (t < s.2)
def atE (l : List Permit) (t : Int) : List Permit := l.filter fun p => hasT p.2.2.2.2 t
def outE (l : List Permit) (t : Int) : List ByteArray := setE ((atE l t).map fun p => p.2.2.1)
def lockedE (l : List Permit) (t : Int) : List ByteArray := setE ((atE l t).flatMap fun p => p.2.2.2.1)
end Go.Proofs
namespace Go.Proofs
open Go.Fs
set_option linter.unusedVariables false

theorem rAt_ok {p : ByteArray × ByteArray × ByteArray × (List ByteArray) × (Int × Int)} {t : Int} : VF Tryz.prog OA 143 [.v y31 p, I t] (B (hasT p.2.2.2.2 t)) := by
  refine VF.enter Tryz.func143 rfl (fun _ _ => rfl) rfl ?_
  show VC _ _ _ _ _ [(0, .v y31 p), (1, I t)] [] _
  refine VC.seq (VC.text ?_)
  refine VO.new (.box) ?_
  refine VO.c (.assign rfl) ?_
  refine VO.go (VC.seq (VC.text ?_))
  refine VO.c (.fa (.r (.r (.r (.r .o))))) ?_
  refine VO.c (.fa (.l .o)) ?_
  refine VO.r (.ld vt3) ?_
  refine VO.c (.move rfl) ?_
  refine VO.c (.leq) ?_
  refine VO.c (.move rfl) ?_
  refine VO.cg (r := decide (p.2.2.2.2.1 ≤ t)) (w := true) [] trivial (fun hgd => have g1_5 : p.2.2.2.2.1 ≤ t := (by simpa using hgd); (.move rfl)) ?_
  refine VO.cg (r := decide (p.2.2.2.2.1 ≤ t)) (w := true) [] trivial (fun hgd => have g1_5 : p.2.2.2.2.1 ≤ t := (by simpa using hgd); (.fa (.r (.r (.r (.r .o)))))) ?_
  refine VO.cg (r := decide (p.2.2.2.2.1 ≤ t)) (w := true) [(12, .p y29 p.2.2.2.2)] ⟨rfl, trivial⟩ (fun hgd => have g1_5 : p.2.2.2.2.1 ≤ t := (by simpa using hgd); (.fa (.r .o))) ?_
  refine VO.rg (r := decide (p.2.2.2.2.1 ≤ t)) (w := true) [(13, .p (.int .i64) p.2.2.2.2.2)] ⟨rfl, trivial⟩ (fun hgd => have g1_5 : p.2.2.2.2.1 ≤ t := (by simpa using hgd); (.ld vt3)) ?_
  refine VO.cg (r := decide (p.2.2.2.2.1 ≤ t)) (w := true) [(11, I t), (14, I p.2.2.2.2.2)] ⟨rfl, rfl, trivial⟩ (fun hgd => have g1_5 : p.2.2.2.2.1 ≤ t := (by simpa using hgd); (.lss)) ?_
  refine VO.c (.and) ?_
  refine VO.c (.assign rfl) ?_
  refine VO.go ?_
  refine VC.ret ?_
  exact VEnd.one rfl evT (pvE (by rfl))
theorem insE_app {w : ByteArray} {b : List ByteArray} : ∀ {a : List ByteArray}, (∀ y ∈ a, ltS w y = false) → insE w (a ++ b) = a ++ insE w b
  | [], _ => rfl
  | x :: a, h => by
    rw [List.cons_append, insE, if_neg (by rw [h x List.mem_cons_self]; decide), insE_app fun y hy => h y (List.mem_cons_of_mem _ hy)] <;> rfl
theorem insE_done {w : ByteArray} {b : List ByteArray} : ∀ {a : List ByteArray}, (a.any fun x => ltS w x) = true → insE w (a ++ b) = insE w a ++ b
  | [], h => by cases h
  | x :: a, h => by
    by_cases hx : ltS w x = true
    · rw [List.cons_append, insE, if_pos hx, insE, if_pos hx] <;> rfl
    rw [List.cons_append, insE, if_neg hx, insE, if_neg hx, insE_done (by simpa [hx] using h)] <;> rfl
def doneE (w : ByteArray) (l : List ByteArray) (i : Nat) : Bool := (l.take i).any fun x => ltS w x
def outP (w : ByteArray) (l : List ByteArray) (i : Nat) : List ByteArray := if doneE w l i = true then insE w (l.take i) else l.take i
theorem doneE_succ {w : ByteArray} {l : List ByteArray} {i : Nat} (h : i < l.length) : doneE w l (i + 1) = (doneE w l i || ltS w l[i]) := by
  unfold doneE
  rw [List.take_succ_eq_append_getElem h, List.any_append]
  simp
theorem doneE_no {w : ByteArray} {l : List ByteArray} {i : Nat} (h : doneE w l i = false) : ∀ y ∈ l.take i, ltS w y = false := fun y hy => by
  have := List.any_eq_false.1 h y hy
  simpa using this
theorem outP_put {w : ByteArray} {l : List ByteArray} {i : Nat} (h : i < l.length) (hd : doneE w l i = false) (hw : ltS w l[i] = true) : outP w l (i + 1) = (outP w l i ++ [w]) ++ [l[i]] := by
  have e1 : outP w l i = l.take i := by unfold outP; rw [hd] <;> rfl
  have e2 : outP w l (i + 1) = insE w (l.take (i + 1)) := by unfold outP; rw [doneE_succ h, hw, Bool.or_true] <;> rfl
  rw [e1, e2, List.take_succ_eq_append_getElem h, insE_app (doneE_no hd), insE, if_pos hw]
  simp
theorem outP_go {w : ByteArray} {l : List ByteArray} {i : Nat} (h : i < l.length) (hw : (!doneE w l i && ltS w l[i]) = false) : outP w l (i + 1) = outP w l i ++ [l[i]] := by
  unfold outP
  rw [doneE_succ h]
  cases hd : doneE w l i with
  | true =>
    simp only [Bool.true_or, if_true]
    rw [List.take_succ_eq_append_getElem h, insE_done hd]
  | false =>
    rw [hd] at hw
    have hw : ltS w l[i] = false := by simpa using hw
    rw [hw]
    simp only [Bool.or_false, Bool.false_eq_true, if_false]
    rw [List.take_succ_eq_append_getElem h]
theorem outP_len {w : ByteArray} {l : List ByteArray} : ∀ i, i ≤ l.length → (outP w l i).length ≤ i + 1
  | 0, _ => by simp [outP, doneE]
  | i + 1, h => by
    by_cases hd : (!doneE w l i && ltS w l[i]) = true
    · have h1 : doneE w l i = false ∧ ltS w l[i] = true := by simpa using hd
      rw [outP_put (by omega) h1.1 h1.2]
      have : outP w l i = l.take i := by unfold outP; rw [h1.1] <;> rfl
      rw [this]; simp; omega
    rw [outP_go (l := l) (i := i) (by omega) (by simpa using hd)]
    have := outP_len (w := w) (l := l) i (by omega)
    simp; omega
theorem outP_end {w : ByteArray} {l : List ByteArray} {i : Nat} (h : i = l.length) (hd : doneE w l i = true) : outP w l i = insE w l := by
  unfold outP
  rw [hd, h, List.take_length] <;> rfl
theorem outP_end2 {w : ByteArray} {l : List ByteArray} {i : Nat} (h : i = l.length) (hd : doneE w l i = false) : outP w l i ++ [w] = insE w l := by
  have e := insE_app (b := []) (doneE_no hd)
  rw [List.append_nil, h, List.take_length] at e
  unfold outP
  rw [hd, h, List.take_length]
  exact e.symm
theorem rPut_ok {l : List ByteArray} {w : ByteArray} (hl : l.length < 100000) : VF Tryz.prog OA 144 [.v (.sl .str) l, St w] (.v (.sl .str) (putE l w)) := by
  refine VF.enter Tryz.func144 rfl (fun _ _ => rfl) rfl ?_
  show VC _ _ _ _ _ [(0, .v (.sl .str) l), (1, St w)] [] _
  refine VC.seq (VC.text ?_)
  refine VO.c (.assign rfl) ?_
  refine VO.go (VC.seq (VC.seq (VC.text ?_)))
  refine VO.c (.move rfl) ?_
  refine VO.c (.move rfl) ?_
  refine VO.call rfl rfl (VF.call (rHas_ok (by omega))) ?_
  refine VO.go ?_
  refine VC.condB rfl (fun c1 => ?_) (fun c1 => ?_)
  · refine VC.seq (VC.text ?_)
    refine VO.c (.move rfl) ?_
    refine VO.c (.assign rfl) ?_
    refine VO.go ?_
    refine VC.ret ?_
    exact VEnd.one rfl evT (pvE (by exact (if_pos c1).symm))
  have hp : putE l w = insE w l := if_neg (by simpa using c1)
  refine VC.skip (VC.seq (VC.text ?_))
  refine VO.c (.assign rfl) ?_
  refine VO.go (VC.seq (VC.text ?_))
  refine VO.c (.assign rfl) ?_
  refine VO.go (VC.seq (VC.seq (VC.text ?_)))
  refine VO.c (.assign rfl) ?_
  refine VO.go (VC.block ?_)
  refine VC.cell0 9 .str ?_
  refine VC.keep [(0, .v (.sl .str) l), (1, St w), (5, .raw (.slice none 0 0)), (6, B (doneE w l 0)), (7, I ((0 : Nat) : Int))] ⟨rfl, rfl, rfl, rfl, rfl, trivial⟩ ?_
  refine VC.loop (I := fun kk ff ss => ∃ (i : Nat) (out : Value), kk = l.length - i ∧ ff = [(0, .v (.sl .str) l), (1, St w), (5, .raw out), (6, B (doneE w l i)), (7, I ((i : Nat) : Int))] ∧ ss = [(out, .row 9 .str (outP w l i))] ∧ (i ≤ l.length)) ?_ _ _ _ ⟨0, (.slice none 0 0), rfl, rfl, rfl, Nat.zero_le _⟩
  rintro kk ff ss ⟨i, out, hk0, rfl, rfl, hi⟩
  have hlen := outP_len (w := w) i hi
  refine VC.seq (VC.seq (VC.text ?_))
  refine VO.c (.move rfl) ?_
  refine VO.c (.move rfl) ?_
  refine VO.r (.len el27) ?_
  refine VO.c (.lss) ?_
  refine VO.go ?_
  refine VC.condD rfl (fun c6 => ?_) (fun c6 => ?_)
  · refine VC.skip (VC.seq (VC.block (VC.seq (VC.seq (VC.text ?_)))))
    refine VO.c (.move rfl) ?_
    refine VO.c (.not) ?_
    refine VO.c (.move rfl) ?_
    refine VO.cg (r := (!(doneE w l i))) (w := true) [] trivial (fun hgd => have g8_2 : (!(doneE w l i)) = true := (by simpa using hgd); (.move rfl)) ?_
    refine VO.cg (r := (!(doneE w l i))) (w := true) [] trivial (fun hgd => have g8_2 : (!(doneE w l i)) = true := (by simpa using hgd); (.move rfl)) ?_
    refine VO.cg (r := (!(doneE w l i))) (w := true) [] trivial (fun hgd => have g8_2 : (!(doneE w l i)) = true := (by simpa using hgd); (.move rfl)) ?_
    refine VO.cg (r := (!(doneE w l i))) (w := true) [(22, .v (.sl .str) l), (23, I ((i : Nat) : Int))] ⟨rfl, rfl, trivial⟩ (fun hgd => have g8_2 : (!(doneE w l i)) = true := (by simpa using hgd); (.ixD rfl rfl ByteArray.empty el27 (by omega))) ?_
    refine VO.rg (r := (!(doneE w l i))) (w := true) [(24, .p .str (l.getD i ByteArray.empty))] ⟨rfl, trivial⟩ (fun hgd => have g8_2 : (!(doneE w l i)) = true := (by simpa using hgd); (.ld vt9)) ?_
    refine VO.cg (r := (!(doneE w l i))) (w := true) [(21, St w), (25, St (l.getD i ByteArray.empty))] ⟨rfl, rfl, trivial⟩ (fun hgd => have g8_2 : (!(doneE w l i)) = true := (by simpa using hgd); (.slss)) ?_
    refine VO.c (.and) ?_
    refine VO.go ?_
    refine VC.condB rfl (fun c8 => ?_) (fun c8 => ?_)
    · try simp only [Bool.and_eq_true, Bool.or_eq_true, Bool.and_eq_false_iff, Bool.or_eq_false_iff, Bool.not_eq_true', Bool.not_eq_false', decide_eq_true_eq, decide_eq_false_iff_not] at c8
      have hlt : i < l.length := by omega
      rw [show l.getD i ByteArray.empty = l[i] by simp [hlt]] at c8
      have hg : outP w l (i + 1) = (outP w l i ++ [w]) ++ [l[i]] := outP_put hlt c8.1 c8.2
      have hm : doneE w l (i + 1) = true := by rw [doneE_succ hlt, c8.2, Bool.or_true]
      refine VC.seq (VC.text ?_)
      refine VO.c (.move rfl) ?_
      refine VO.c (.move rfl) ?_
      refine VO.new (.lit [w] el27) ?_
      refine VO.app rfl rfl el27 el27 (by simp; omega) ?_
      intro ww1
      refine VO.c (.assign rfl) ?_
      refine VO.go (VC.text ?_)
      refine VO.c (.assign rfl) ?_
      refine VO.go (VC.text ?_)
      refine VO.c (.move rfl) ?_
      refine VO.c (.move rfl) ?_
      refine VO.c (.move rfl) ?_
      refine VO.c (.ix (j := i) rfl rfl el27 (by omega)) ?_
      refine VO.r (.ld vt9) ?_
      refine VO.new (.lit [l[i]] el27) ?_
      refine VO.app rfl rfl el27 el27 (by simp; omega) ?_
      intro ww2
      refine VO.c (.assign rfl) ?_
      refine VO.nil (VC.text ?_)
      refine VO.c (.move rfl) ?_
      refine VO.c (.add rfl rfl (by omega)) ?_
      refine VO.c (.assign rfl) ?_
      refine VO.nil ?_
      refine ⟨_, [(0, .v (.sl .str) l), (1, St w), (5, .raw ww2), (6, B (doneE w l (i + 1))), (7, I (((i + 1) : Nat) : Int))], ?_, ⟨rfl, rfl, rfl, slE rfl (by exact hm.symm), rfl, trivial⟩, (i + 1), ww2, rfl, rfl, (by rw [hg]), (by omega)⟩
      omega
    try simp only [Bool.and_eq_true, Bool.or_eq_true, Bool.and_eq_false_iff, Bool.or_eq_false_iff, Bool.not_eq_true', Bool.not_eq_false', decide_eq_true_eq, decide_eq_false_iff_not] at c8
    have hlt : i < l.length := by omega
    rw [show l.getD i ByteArray.empty = l[i] by simp [hlt]] at c8
    have hg : outP w l (i + 1) = outP w l i ++ [l[i]] := outP_go hlt (by rcases c8 with h | h <;> simp [h])
    have hm : doneE w l (i + 1) = doneE w l i := by rw [doneE_succ hlt]; rcases c8 with h | h <;> simp [h]
    refine VC.skip (VC.text ?_)
    refine VO.c (.move rfl) ?_
    refine VO.c (.move rfl) ?_
    refine VO.c (.move rfl) ?_
    refine VO.c (.ix (j := i) rfl rfl el27 (by omega)) ?_
    refine VO.r (.ld vt9) ?_
    refine VO.new (.lit [l[i]] el27) ?_
    refine VO.app rfl rfl el27 el27 (by simp; omega) ?_
    intro ww3
    refine VO.c (.assign rfl) ?_
    refine VO.nil (VC.text ?_)
    refine VO.c (.move rfl) ?_
    refine VO.c (.add rfl rfl (by omega)) ?_
    refine VO.c (.assign rfl) ?_
    refine VO.nil ?_
    refine ⟨_, [(0, .v (.sl .str) l), (1, St w), (5, .raw ww3), (6, B (doneE w l (i + 1))), (7, I (((i + 1) : Nat) : Int))], ?_, ⟨rfl, rfl, rfl, slE rfl (by exact hm.symm), rfl, trivial⟩, (i + 1), ww3, rfl, rfl, (by rw [hg]), (by omega)⟩
    omega
  refine VC.exit (VC.seq (VC.seq (VC.text ?_)))
  refine VO.c (.move rfl) ?_
  refine VO.c (.not) ?_
  refine VO.go ?_
  refine VC.condB rfl (fun c12 => ?_) (fun c12 => ?_)
  · try simp only [Bool.and_eq_true, Bool.or_eq_true, Bool.and_eq_false_iff, Bool.or_eq_false_iff, Bool.not_eq_true', Bool.not_eq_false', decide_eq_true_eq, decide_eq_false_iff_not] at c12
    refine VC.text ?_
    refine VO.c (.move rfl) ?_
    refine VO.c (.move rfl) ?_
    refine VO.new (.lit [w] el27) ?_
    refine VO.app rfl rfl el27 el27 (by simp; omega) ?_
    intro ww4
    refine VO.c (.assign rfl) ?_
    refine VO.go (VC.seq (VC.text ?_))
    refine VO.c (.move rfl) ?_
    refine VO.c (.assign rfl) ?_
    refine VO.go ?_
    refine VC.ret ?_
    exact VEnd.one rfl (evC (.row m0)) (pvE (by first | (rw [hp]; exact outP_end2 (by omega) (by simpa using c12)) | (rw [hp]; exact outP_end (by omega) (by simpa using c12))))
  try simp only [Bool.and_eq_true, Bool.or_eq_true, Bool.and_eq_false_iff, Bool.or_eq_false_iff, Bool.not_eq_true', Bool.not_eq_false', decide_eq_true_eq, decide_eq_false_iff_not] at c12
  refine VC.skip (VC.seq (VC.text ?_))
  refine VO.c (.move rfl) ?_
  refine VO.c (.assign rfl) ?_
  refine VO.go ?_
  refine VC.ret ?_
  exact VEnd.one rfl (evC (.row m0)) (pvE (by first | (rw [hp]; exact outP_end2 (by omega) (by simpa using c12)) | (rw [hp]; exact outP_end (by omega) (by simpa using c12))))
theorem atE_take {l : List Permit} {i : Nat} {t : Int} (h : i < l.length) : atE (l.take (i + 1)) t = if hasT l[i].2.2.2.2 t = true then atE (l.take i) t ++ [l[i]] else atE (l.take i) t := by
  unfold atE
  rw [List.take_succ_eq_append_getElem h, List.filter_append]
  by_cases hh : hasT l[i].2.2.2.2 t = true
  · rw [if_pos hh]; simp [hh]
  rw [if_neg hh]; simp [hh]
theorem setE_snoc {l : List ByteArray} {w : ByteArray} : setE (l ++ [w]) = putE (setE l) w := by simp [setE, List.foldl_append]
theorem outE_step {l : List Permit} {i : Nat} {t : Int} (h : i < l.length) : outE (l.take (i + 1)) t = if hasT l[i].2.2.2.2 t = true then putE (outE (l.take i) t) l[i].2.2.1 else outE (l.take i) t := by
  unfold outE
  rw [atE_take h]
  by_cases hh : hasT l[i].2.2.2.2 t = true
  · rw [if_pos hh, if_pos hh, List.map_append]
    exact setE_snoc
  rw [if_neg hh, if_neg hh]
theorem setE_len : ∀ l : List ByteArray, (setE l).length ≤ l.length := fun l => by
  suffices h : ∀ (l a : List ByteArray), (l.foldl putE a).length ≤ a.length + l.length by simpa [setE] using h l []
  intro l
  induction l with
  | nil => intro a; simp
  | cons w l ih =>
    intro a
    have h1 := ih (putE a w)
    have h2 : (putE a w).length ≤ a.length + 1 := by
      unfold putE
      by_cases hh : hasB a w = true
      · rw [if_pos hh]; omega
      rw [if_neg hh]
      have : ∀ b : List ByteArray, (insE w b).length = b.length + 1 := fun b => by
        induction b with
        | nil => rfl
        | cons x b ih => unfold insE; split <;> simp [*]
      rw [this]; omega
    simp only [List.foldl_cons, List.length_cons]
    omega
theorem outE_len {l : List Permit} {t : Int} : (outE l t).length ≤ l.length := by
  unfold outE
  refine Nat.le_trans (setE_len _) ?_
  rw [List.length_map]
  exact List.length_filter_le _ _
theorem rOut_ok {l : List (ByteArray × ByteArray × ByteArray × (List ByteArray) × (Int × Int))} {t : Int} (hl : l.length < 100000) : VF Tryz.prog OA 75 [.v y22 l, I t] (.v (.sl .str) (outE l t)) := by
  refine VF.enter Tryz.func75 rfl (fun _ _ => rfl) rfl ?_
  show VC _ _ _ _ _ [(0, .v y22 l), (1, I t)] [] _
  refine VC.seq (VC.text ?_)
  refine VO.c (.assign rfl) ?_
  refine VO.go (VC.seq (VC.text ?_))
  refine VO.c (.assign rfl) ?_
  refine VO.go (VC.seq (VC.seq ?_))
  refine VC.nilD 5 .str rfl ?_
  refine VC.text ?_
  refine VO.c (.assign rfl) ?_
  refine VO.go (VC.block ?_)
  refine VC.keep [(0, .v y22 l), (1, I t), (5, .v (.sl .str) (outE (l.take 0) t)), (6, I ((0 : Nat) : Int))] ⟨rfl, rfl, rfl, rfl, trivial⟩ ?_
  refine VC.loop (I := fun kk ff ss => ∃ (i : Nat), kk = l.length - i ∧ ff = [(0, .v y22 l), (1, I t), (5, .v (.sl .str) (outE (l.take i) t)), (6, I ((i : Nat) : Int))] ∧ ss = [] ∧ (i ≤ l.length)) ?_ _ _ _ ⟨0, rfl, rfl, rfl, Nat.zero_le _⟩
  rintro kk ff ss ⟨i, hk0, rfl, rfl, hi⟩
  have hlen := outE_len (l := l.take i) (t := t)
  have hlt := List.length_take_le i l
  refine VC.seq (VC.seq (VC.text ?_))
  refine VO.c (.move rfl) ?_
  refine VO.c (.move rfl) ?_
  refine VO.r (.len el22) ?_
  refine VO.c (.lss) ?_
  refine VO.go ?_
  refine VC.condD rfl (fun c3 => ?_) (fun c3 => ?_)
  · refine VC.skip (VC.seq (VC.block (VC.seq (VC.text ?_))))
    refine VO.c (.move rfl) ?_
    refine VO.c (.move rfl) ?_
    refine VO.c (.ix (j := i) rfl rfl el22 (by omega)) ?_
    refine VO.r (.ld vt31) ?_
    refine VO.c (.move rfl) ?_
    refine VO.call rfl rfl (VF.call (rAt_ok )) ?_
    refine VO.go ?_
    refine VC.condB rfl (fun c5 => ?_) (fun c5 => ?_)
    · refine VC.text ?_
      refine VO.c (.move rfl) ?_
      refine VO.c (.move rfl) ?_
      refine VO.c (.move rfl) ?_
      refine VO.c (.ix (j := i) rfl rfl el22 (by omega)) ?_
      refine VO.c (.fa (.r (.r (.l .o)))) ?_
      refine VO.r (.ld vt9) ?_
      refine VO.call rfl rfl (VF.call (rPut_ok (by simp only [List.length_take] at hlen; omega))) ?_
      refine VO.c (.assign rfl) ?_
      refine VO.nil (VC.text ?_)
      refine VO.c (.move rfl) ?_
      refine VO.c (.add rfl rfl (by omega)) ?_
      refine VO.c (.assign rfl) ?_
      refine VO.nil ?_
      refine ⟨_, [(0, .v y22 l), (1, I t), (5, .v (.sl .str) (outE (l.take (i + 1)) t)), (6, I (((i + 1) : Nat) : Int))], ?_, ⟨rfl, rfl, slE rfl (by first | (rw [outE_step (by omega), if_pos c5]) | (rw [outE_step (by omega), if_neg (by simpa using c5)])), rfl, trivial⟩, (i + 1), rfl, rfl, rfl, (by omega)⟩
      omega
    refine VC.skip (VC.text ?_)
    refine VO.c (.move rfl) ?_
    refine VO.c (.add rfl rfl (by omega)) ?_
    refine VO.c (.assign rfl) ?_
    refine VO.nil ?_
    refine ⟨_, [(0, .v y22 l), (1, I t), (5, .v (.sl .str) (outE (l.take (i + 1)) t)), (6, I (((i + 1) : Nat) : Int))], ?_, ⟨rfl, rfl, slE rfl (by first | (rw [outE_step (by omega), if_pos c5]) | (rw [outE_step (by omega), if_neg (by simpa using c5)])), rfl, trivial⟩, (i + 1), rfl, rfl, rfl, (by omega)⟩
    omega
  refine VC.exit (VC.seq (VC.text ?_))
  refine VO.c (.move rfl) ?_
  refine VO.c (.assign rfl) ?_
  refine VO.go ?_
  refine VC.ret ?_
  exact VEnd.one rfl evT (pvE (by rw [List.take_of_length_le (by omega)]))
theorem rCheckTick_ok {t : Int} : VF Tryz.prog OA 72 [I t] (I (rangeE t 0 100000)) := by
  refine VF.enter Tryz.func72 rfl (fun _ _ => rfl) rfl ?_
  show VC _ _ _ _ _ [(0, I t)] [] _
  refine VC.seq (VC.text ?_)
  refine VO.c (.assign rfl) ?_
  refine VO.go (VC.seq (VC.text ?_))
  refine VO.c (.move rfl) ?_
  refine VO.call rfl rfl (VF.call (rCheckRange_ok )) ?_
  refine VO.c (.assign rfl) ?_
  refine VO.go ?_
  refine VC.ret ?_
  exact VEnd.one rfl evT (pvI (by rfl))
end Go.Proofs
namespace Go.Proofs
open Go.Fs
set_option linter.unusedVariables false
theorem sHas_ok {s : Int × Int} {t : Int} : VF Tryz.prog OA 177 [.v y29 s, I t] (B (hasT s t)) := by
  refine VF.enter Tryz.func177 rfl (fun _ _ => rfl) rfl ?_
  show VC _ _ _ _ _ [(0, .v y29 s), (1, I t)] [] _
  refine VC.seq (VC.text ?_)
  refine VO.new (.box) ?_
  refine VO.c (.assign rfl) ?_
  refine VO.go (VC.seq (VC.text ?_))
  refine VO.c (.fa (.l .o)) ?_
  refine VO.r (.ld vt3) ?_
  refine VO.c (.move rfl) ?_
  refine VO.c (.leq) ?_
  refine VO.c (.move rfl) ?_
  refine VO.cg (r := decide (s.1 ≤ t)) (w := true) [] trivial (fun hgd => have g1_4 : s.1 ≤ t := (by simpa using hgd); (.move rfl)) ?_
  refine VO.cg (r := decide (s.1 ≤ t)) (w := true) [] trivial (fun hgd => have g1_4 : s.1 ≤ t := (by simpa using hgd); (.fa (.r .o))) ?_
  refine VO.rg (r := decide (s.1 ≤ t)) (w := true) [(11, .p (.int .i64) s.2)] ⟨rfl, trivial⟩ (fun hgd => have g1_4 : s.1 ≤ t := (by simpa using hgd); (.ld vt3)) ?_
  refine VO.cg (r := decide (s.1 ≤ t)) (w := true) [(10, I t), (12, I s.2)] ⟨rfl, rfl, trivial⟩ (fun hgd => have g1_4 : s.1 ≤ t := (by simpa using hgd); (.lss)) ?_
  refine VO.c (.and) ?_
  refine VO.c (.assign rfl) ?_
  refine VO.go ?_
  refine VC.ret ?_
  exact VEnd.one rfl evT (pvE (by rfl))
abbrev Vers := ByteArray × Int
abbrev Evid := ByteArray × List Vers
abbrev Clm := ByteArray × Bool × List ByteArray
abbrev Cse := List Vers × List Evid × List Clm
def thingE (l : List Vers) (s : ByteArray) : Int := idxG (fun v => decide (v.1 = s)) l 0
def evidE (l : List Evid) (s : ByteArray) : Int := idxG (fun v => decide (v.1 = s)) l 0
def claimE (l : List Clm) (s : ByteArray) : Int := idxG (fun v => decide (v.1 = s)) l 0
end Go.Proofs
namespace Go.Proofs
open Go.Fs
set_option linter.unusedVariables false
def firstR (f : Nat → Int) (i n : Nat) : Int := firstE ((List.range' i (n - i)).map f)
def vAt (l : List Vers) (i : Nat) : Vers := l.getD i (ByteArray.empty, 0)
def verAt (l : List Vers) (i : Nat) : Int := firstE [whenE (!nameB (vAt l i).1) 8, rangeE (vAt l i).2 0 999, whenE (decide (0 ≤ thingE (l.take i) (vAt l i).1)) 9]
def versE (l : List Vers) : Int := if 64 < (l.length : Int) then 5 else firstR (verAt l) 0 l.length
end Go.Proofs
namespace Go.Proofs
open Go.Fs
set_option linter.unusedVariables false
def withAt (K : ByteArray → Bool) (l : List Vers) (i : Nat) : Int := firstE [whenE (!K (vAt l i).1) 10, rangeE (vAt l i).2 0 999, whenE (decide (0 ≤ thingE (l.take i) (vAt l i).1)) 9]
def withE (K : ByteArray → Bool) (l : List Vers) : Int := if 16 < (l.length : Int) then 5 else firstR (withAt K l) 0 l.length
def usesAt (K : ByteArray → Bool) (l : List ByteArray) (i : Nat) : Int := firstE [whenE (!K (l.getD i ByteArray.empty)) 10, whenE (hasB (l.take i) (l.getD i ByteArray.empty)) 9]
def usesE (K : ByteArray → Bool) (l : List ByteArray) : Int := if firstE [whenE (decide ((l.length : Int) = 0)) 12, whenE (decide (16 < (l.length : Int))) 5] = 0 then firstR (usesAt K l) 0 l.length else firstE [whenE (decide ((l.length : Int) = 0)) 12, whenE (decide (16 < (l.length : Int))) 5]
end Go.Proofs
namespace Go.Proofs
open Go.Fs
set_option linter.unusedVariables false
def knowsV (c : Cse) (s : ByteArray) : Bool := decide (0 ≤ thingE c.1 s)
def eAt (c : Cse) (i : Nat) : Evid := c.2.1.getD i (ByteArray.empty, [])
def evAt (c : Cse) (i : Nat) : Int := firstE [whenE (!nameB (eAt c i).1) 8, whenE (decide (0 ≤ evidE (c.2.1.take i) (eAt c i).1)) 9, withE (knowsV c) (eAt c i).2]
end Go.Proofs
namespace Go.Proofs
open Go.Fs
set_option linter.unusedVariables false
def knownC (c : Cse) (i : Nat) (s : ByteArray) : Bool := decide (0 ≤ evidE c.2.1 s) || decide (0 ≤ claimE (c.2.2.take i) s)
def cAt (c : Cse) (i : Nat) : Clm := c.2.2.getD i (ByteArray.empty, false, [])
def clAt (c : Cse) (i : Nat) : Int := firstE [whenE (!nameB (cAt c i).1) 8, whenE (knownC c i (cAt c i).1) 9, usesE (knownC c i) (cAt c i).2.2]
end Go.Proofs
namespace Go.Proofs
open Go.Fs
set_option linter.unusedVariables false

def caseE (c : Cse) : Int :=
  if versE c.1 ≠ 0 then versE c.1
  else if 64 < (c.2.1.length : Int) then 5
  else if firstR (evAt c) 0 c.2.1.length ≠ 0 then firstR (evAt c) 0 c.2.1.length
  else if 64 < (c.2.2.length : Int) then 5
  else firstR (clAt c) 0 c.2.2.length
structure CseOk (c : Cse) : Prop where
  v : c.1.length < 100000
  e : c.2.1.length < 100000
  l : c.2.2.length < 100000
  w : ∀ x ∈ c.2.1, x.2.length < 100000
  u : ∀ x ∈ c.2.2, x.2.2.length < 100000
end Go.Proofs
namespace Go.Proofs
open Go.Fs
set_option linter.unusedVariables false
end Go.Proofs
namespace Go.Proofs
open Go.Fs
set_option linter.unusedVariables false
end Go.Proofs
namespace Go.Proofs
open Go.Fs
set_option linter.unusedVariables false

def nowE (l : List Vers) (s : ByteArray) : Int := (vAt l (thingE l s).toNat).2
def validB (c : Cse) (x : Evid) : Bool := x.2.all fun v => decide (nowE c.1 v.1 = v.2)
def validR (c : Cse) : List ByteArray := (c.2.1.filter (validB c)).map (·.1)
end Go.Proofs
namespace Go.Proofs
open Go.Fs
set_option linter.unusedVariables false

def PermV (l : List Permit) : Prop := ∀ o ∈ l, spanE o.2.2.2.2 = 0
end Go.Proofs
namespace Go.Fs
variable {P : Program} {h : Heap} {S : List Nat} {σ : Sto} {t : Tr} {fl : VL} {x : Operand} {T e : TypeId} {τ : Ty}
theorem FreshO.alloc0 (hZ : ZerT P e (.sl τ)) : FreshO P fl (.alloc e) (.var [.raw (.slice none 0 0)]) :=
  ⟨rfl, fun h S t hs hok hS => by
    obtain ⟨z, h1, h2, h3⟩ := hZ.zero
    obtain ⟨z1, z2⟩ := zero_rep h S (.sl τ)
    obtain ⟨a1, a2⟩ := af_cells (u := z) (by rw [h2]; exact z2)
    refine ⟨fun k => .pointer (some ⟨k, 0, none⟩), .row e z.cells.toList true false, fun _ => rfl, fun S' hN hm => ?_, fun H _ _ _ _ _ => ?_⟩
    · exact ⟨h.next, e, _, rfl, hm, by rw [Heap.get_push, if_pos rfl], by rw [h2]; exact ⟨_, _, rfl, rfl, rfl⟩, a2⟩
    show (match (P.info? e).bind (·.zero) with | some z => if af z then fsBox e z H else none | none => none) = _
    rw [h1]
    simp only [a1, if_true]
    unfold fsBox
    rw [if_pos a2]⟩
end Go.Fs
namespace Go.Proofs
open Go.Fs
set_option linter.unusedVariables false
set_option maxHeartbeats 1000000

theorem ltS_lt {a b : ByteArray} : ltS a b = decide (a.data.toList < b.data.toList) := by
  unfold ltS
  rw [bytesLess_eq, Lib.toList_data, Lib.toList_data]
theorem sortB_sorted (l : List ByteArray) : (sortB l).Pairwise fun a b => ltS b a = false := by
  unfold sortB
  rw [List.pairwise_map]
  have := List.pairwise_mergeSort (le := fun x y : List UInt8 => decide (x ≤ y)) (fun a b c h1 h2 => by simp at *; exact List.le_trans h1 h2) (fun a b => by simp; exact List.le_total a b) (l.map fun s => s.data.toList)
  refine this.imp fun {a b} h => ?_
  have h := of_decide_eq_true h
  rw [ltS_lt]
  exact decide_eq_false fun hlt => (List.not_lt.2 h) hlt
theorem mem_sortB {l : List ByteArray} {x : ByteArray} : x ∈ sortB l ↔ x ∈ l := by
  unfold sortB
  rw [List.mem_map]
  constructor
  · rintro ⟨d, hd, rfl⟩
    obtain ⟨y, hy, rfl⟩ := List.mem_map.1 (List.mem_mergeSort.1 hd)
    exact hy
  exact fun h => ⟨x.data.toList, List.mem_mergeSort.2 (List.mem_map.2 ⟨x, h, rfl⟩), rfl⟩
theorem cpt_mem {xs : List ByteArray} {x : ByteArray} : ∀ {i : Nat}, i ≤ xs.length → (x ∈ cptA ByteArray.empty xs i ↔ x ∈ xs.take i)
  | 0, _ => by simp [cptA]
  | i + 1, hi => by
    have ih := cpt_mem (xs := xs) (x := x) (i := i) (by omega)
    rw [List.take_succ_eq_append_getElem (by omega), List.mem_append, List.mem_singleton]
    unfold cptA
    split
    · rename_i h
      rw [ih]
      constructor
      · exact .inl
      rintro (h1 | h1)
      · exact h1
      subst h1
      rw [getDg _ _ (by omega), getDg _ _ (by omega)] at h
      rw [h.2]
      exact List.mem_take_iff_getElem.2 ⟨i - 1, by omega, rfl⟩
    rw [List.mem_append, ih, List.mem_singleton, getDg _ _ (by omega)]
theorem cpt_asc {xs : List ByteArray} (hs : xs.Pairwise fun a b => ltS b a = false) : ∀ {i : Nat}, i ≤ xs.length → Asc (cptA ByteArray.empty xs i)
  | 0, _ => by simp [cptA, Asc]
  | i + 1, hi => by
    have ih := cpt_asc hs (i := i) (by omega)
    unfold cptA
    split
    · exact ih
    rename_i h
    refine List.pairwise_append.2 ⟨ih, List.pairwise_singleton _ _, fun a ha b hb => ?_⟩
    rw [List.mem_singleton] at hb
    subst hb
    rw [cpt_mem (by omega)] at ha
    obtain ⟨j, hj, rfl⟩ := List.mem_take_iff_getElem.1 ha
    rw [getDg _ _ (by omega)]
    have hj1 : j < i := by omega
    have hle : ∀ p q (hp : p < xs.length) (hq : q < xs.length), p < q → ltS xs[q] xs[p] = false := fun p q hp hq hpq => List.pairwise_iff_getElem.1 hs p q hp hq hpq
    have hlast : ltS xs[i] xs[i - 1] = false := hle (i - 1) i (by omega) (by omega) (by omega)
    have hne : ¬ xs[i - 1] = xs[i] := fun e => h ⟨by omega, by rw [getDg _ _ (by omega), getDg _ _ (by omega), e]⟩
    have e1 := leS_eq (p := xs[i - 1]) (q := xs[i])
    rw [hlast, decide_eq_false hne, Bool.or_false] at e1
    have h1 : ltS xs[i - 1] xs[i] = true := by simpa using e1
    by_cases hji : j = i - 1
    · subst hji; exact h1
    have h2 := hle j (i - 1) (by omega) (by omega) (by omega)
    have e2 := leS_eq (p := xs[j]) (q := xs[i - 1])
    rw [h2] at e2
    rcases Bool.or_eq_true_iff.1 (by simpa using e2 : (ltS xs[j] xs[i - 1] || decide (xs[j] = xs[i - 1])) = true) with h3 | h3
    · exact ltS_trans h3 h1
    rw [of_decide_eq_true h3]; exact h1
theorem cpt_set (l : List ByteArray) : cptA ByteArray.empty (sortB l) (sortB l).length = setE l :=
  setE_eq (cpt_asc (sortB_sorted l) (Nat.le_refl _)) fun x => by rw [cpt_mem (Nat.le_refl _), List.take_length]; exact mem_sortB
theorem zSort_ok {w_l : Value} {l : List ByteArray} (hl : l.length ≤ 1000000) : VFG Tryz.prog OA 178 [.raw w_l] [(w_l, .row 9 .str l)] (fun r g => r = .tup [] ∧ g = [(w_l, .row 9 .str (sortB l))]) := VFG.sortS (O := orcA 182 147 16) hl fun _ _ => rfl
theorem zCompact_ok {w_xs : Value} {xs : List ByteArray} (hn : xs.length < 1000000) : VFG Tryz.prog OA 179 [.raw w_xs] [(w_xs, .row 9 .str xs)] (fun r' g => r' = (.v (.sl .str) (cptA ByteArray.empty xs xs.length)) ∧ g = []) := by
  refine VFG.enterC Tryz.func179 rfl (fun _ _ => rfl) rfl ?_
  show VC _ _ _ _ _ [(0, .raw w_xs)] [(w_xs, .row 9 .str xs)] _
  refine VC.seq (VC.text ?_)
  refine VO.c (.assign rfl) ?_
  refine VO.go (VC.seq (VC.seq (VC.text ?_)))
  refine VO.c (.move rfl) ?_
  refine VO.r (.lenO m0 el27) ?_
  refine VO.c (.lss) ?_
  refine VO.go ?_
  refine VC.condD rfl (fun c1 => ?_) (fun c1 => ?_)
  · refine VC.seq (VC.text ?_)
    refine VO.c (.move rfl) ?_
    refine VO.c (.assign rfl) ?_
    refine VO.go ?_
    refine VC.ret ?_
    exact VEnd.one rfl (evC (.row m0)) (pvE (by (have h1 : xs.length < 2 := by omega); rw [cptA_all (Nat.le_refl _) (fun j h2 h3 => by omega), List.take_length]))
  refine VC.skip (VC.seq (VC.seq (VC.text ?_)))
  refine VO.c (.assign rfl) ?_
  refine VO.go (VC.block ?_)
  refine VC.keep [(0, .raw w_xs), (3, I ((1 : Nat) : Int))] ⟨rfl, rfl, trivial⟩ ?_
  refine VC.loop (I := fun kk ff ss => ∃ (k : Nat), kk = xs.length - k ∧ ff = [(0, .raw w_xs), (3, I ((k : Nat) : Int))] ∧ ss = [(w_xs, .row 9 .str xs)] ∧ (1 ≤ k ∧ k ≤ xs.length) ∧ (∀ j, 0 < j → j < k → xs.getD j ByteArray.empty ≠ xs.getD (j - 1) ByteArray.empty)) ?_ _ _ _ ⟨1, rfl, rfl, rfl, (by omega), (by intro j h1 h2; omega)⟩
  rintro kk ff ss ⟨k, hk0, rfl, rfl, hk, hall⟩
  refine VC.seq (VC.seq (VC.text ?_))
  refine VO.c (.move rfl) ?_
  refine VO.c (.move rfl) ?_
  refine VO.r (.lenO m0 el27) ?_
  refine VO.c (.lss) ?_
  refine VO.go ?_
  refine VC.condD rfl (fun c4 => ?_) (fun c4 => ?_)
  · have hk2 : k < xs.length := by omega
    refine VC.skip (VC.seq (VC.block (VC.seq (VC.drawn ?_))))
    refine VD.c (.move rfl) ?_
    refine VD.c (.move rfl) ?_
    refine VD.co (.ixO (j := k) rfl rfl m0 el27 (by omega)) ?_
    refine VD.r [(w_xs, .row 9 .str xs)] (.ldO rfl m0 vt9 (by omega)) (.inr ⟨rfl, rfl⟩) ?_
    refine VD.c (.move rfl) ?_
    refine VD.c (.move rfl) ?_
    refine VD.nw [] ?_
    refine VD.c (.sub rfl rfl (by omega)) ?_
    refine VD.co (.ixO (j := k - 1) rfl (congrArg (fun z : Int => some (PV.v (.int .i64) z)) (show (((k : Nat) : Int) - (1 : Int)) = ((k - 1 : Nat) : Int) by omega)) m0 el27 (by omega)) ?_
    refine VD.r [(w_xs, .row 9 .str xs)] (.ldO rfl m0 vt9 (by omega)) (.inr ⟨rfl, rfl⟩) ?_
    refine VD.c (.seql) ?_
    refine VD.go ?_
    refine VC.condD rfl (fun c6 => ?_) (fun c6 => ?_)
    · have c6' : xs.getD k ByteArray.empty = xs.getD (k - 1) ByteArray.empty := by rw [getDg _ _ hk2, getDg _ _ (by omega)]; exact c6
      have hs0 : cptR ByteArray.empty xs (k + 1) = xs := by rw [cptR_eq (by omega) c6', cptR_start (by omega) hall]
      have hc0 : (cptA ByteArray.empty xs (k + 1)).length = k := by rw [cptA_eq (by omega) c6', cptA_all (by omega) hall, List.length_take]; omega
      refine VC.seq (VC.text ?_)
      refine VO.c (.move rfl) ?_
      refine VO.c (.move rfl) ?_
      refine VO.r (.restO (k := k) rfl rfl m0 el27 (by omega) (by omega)) ?_
      refine VO.c (.assign rfl) ?_
      refine VO.go (VC.seq (VC.seq (VC.text ?_)))
      refine VO.c (.assign rfl) ?_
      refine VO.go (VC.block ?_)
      refine VC.keep [(0, .raw w_xs), (3, I (((cptA ByteArray.empty xs (k + 1)).length : Nat) : Int)), (4, .raw (rowFrom w_xs 1 k)), (5, I ((1 : Nat) : Int))] ⟨rfl, slI rfl (by rw [hc0]), rfl, rfl, trivial⟩ ?_
      refine VC.loop (I := fun kk ff ss => ∃ (m : Nat), kk = xs.length - k - m ∧ ff = [(0, .raw w_xs), (3, I (((cptA ByteArray.empty xs (k + m)).length : Nat) : Int)), (4, .raw (rowFrom w_xs 1 k)), (5, I ((m : Nat) : Int))] ∧ ss = [(w_xs, .row 9 .str (cptR ByteArray.empty xs (k + m)))] ∧ (1 ≤ m ∧ k + m ≤ xs.length) ∧ ((cptA ByteArray.empty xs (k + m)).length + 1 ≤ k + m)) ?_ _ _ _ ⟨1, rfl, rfl, (by rw [hs0]), (by omega), (by rw [hc0]; omega)⟩
      rintro kk ff ss ⟨m, hk2, rfl, rfl, hm, hc⟩
      have hR : (cptR ByteArray.empty xs (k + m)).length = xs.length := cptR_len hm.2
      refine VC.seq (VC.seq (VC.text ?_))
      refine VO.c (.move rfl) ?_
      refine VO.c (.move rfl) ?_
      refine VO.r (.lenF (k := k) m0 el27 (by omega)) ?_
      refine VO.c (.lss) ?_
      refine VO.go ?_
      refine VC.condD rfl (fun c9 => ?_) (fun c9 => ?_)
      · have hm' : k + m < xs.length := by omega
        have he : (cptR ByteArray.empty xs (k + m))[k + m]'(by omega) = xs.getD (k + m) ByteArray.empty := by rw [← getDg _ ByteArray.empty (by omega), cptR_at (by omega)]
        have he2 : (cptR ByteArray.empty xs (k + m))[k + Int.toNat (((m : Nat) : Int) - (1 : Int))]'(by omega) = xs.getD (k + m - 1) ByteArray.empty := by rw [← getDg _ ByteArray.empty (by omega), cptR_at (by omega)]; congr 1; omega
        refine VC.skip (VC.seq (VC.block (VC.seq (VC.drawn ?_))))
        refine VD.c (.move rfl) ?_
        refine VD.c (.move rfl) ?_
        refine VD.co (.ixF (j := m) (k := k) rfl rfl m0 el27 (by omega)) ?_
        refine VD.r [(w_xs, .row 9 .str (cptR ByteArray.empty xs (k + m)))] (.ldO rfl m0 vt9 (by omega)) (.inr ⟨rfl, rfl⟩) ?_
        refine VD.c (.move rfl) ?_
        refine VD.c (.move rfl) ?_
        refine VD.nw [] ?_
        refine VD.c (.sub rfl rfl (by omega)) ?_
        refine VD.co (.ixFZ (z := (((m : Nat) : Int) - (1 : Int))) (k := k) rfl rfl m0 el27 (by omega) (by omega)) ?_
        refine VD.r [(w_xs, .row 9 .str (cptR ByteArray.empty xs (k + m)))] (.ldO rfl m0 vt9 (by omega)) (.inr ⟨rfl, rfl⟩) ?_
        refine VD.c (.sneq) ?_
        refine VD.go ?_
        refine VC.condD rfl (fun c11 => ?_) (fun c11 => ?_)
        · have c11' : xs.getD (k + m) ByteArray.empty ≠ xs.getD (k + m - 1) ByteArray.empty := by rw [← he, ← he2]; exact c11
          refine VC.seq (VC.text ?_)
          refine VO.c (.move rfl) ?_
          refine VO.c (.move rfl) ?_
          refine VO.c (.move rfl) ?_
          refine VO.c (.move rfl) ?_
          refine VO.c (.ixF (j := m) (k := k) rfl rfl m0 el27 (by omega)) ?_
          refine VO.r (.ldO rfl m0 vt9 (by omega)) ?_
          refine VO.c (.ixO (j := ((cptA ByteArray.empty xs (k + m)).length)) rfl rfl m0 el27 (by omega)) ?_
          refine VO.setE ((cptA ByteArray.empty xs (k + m)).length) rfl rfl vt9 (by omega) ?_
          refine VO.go (VC.text ?_)
          refine VO.c (.move rfl) ?_
          refine VO.c (.add rfl rfl (by omega)) ?_
          refine VO.c (.assign rfl) ?_
          refine VO.nil (VC.text ?_)
          refine VO.c (.move rfl) ?_
          refine VO.c (.add rfl rfl (by omega)) ?_
          refine VO.c (.assign rfl) ?_
          refine VO.nil ?_
          refine ⟨_, [(0, .raw w_xs), (3, I (((cptA ByteArray.empty xs (k + (m + 1))).length : Nat) : Int)), (4, .raw (rowFrom w_xs 1 k)), (5, I (((m + 1) : Nat) : Int))], ?_, ⟨rfl, slI rfl (by first | (rw [← Nat.add_assoc, cptA_ne c11', List.length_append]; rfl) | rw [← Nat.add_assoc, cptA_eq (by omega) c11']), rfl, rfl, trivial⟩, (m + 1), rfl, rfl, (by first | (rw [← Nat.add_assoc, cptR_ne (by omega) c11', he]) | rw [← Nat.add_assoc, cptR_eq (by omega) c11']), (by omega), (by first | (rw [← Nat.add_assoc, cptA_ne c11', List.length_append, List.length_singleton]; omega) | (rw [← Nat.add_assoc, cptA_eq (by omega) c11']; omega))⟩
          omega
        have c11' : xs.getD (k + m) ByteArray.empty = xs.getD (k + m - 1) ByteArray.empty := by rw [← he, ← he2]; simpa using c11
        refine VC.skip (VC.text ?_)
        refine VO.c (.move rfl) ?_
        refine VO.c (.add rfl rfl (by omega)) ?_
        refine VO.c (.assign rfl) ?_
        refine VO.nil ?_
        refine ⟨_, [(0, .raw w_xs), (3, I (((cptA ByteArray.empty xs (k + (m + 1))).length : Nat) : Int)), (4, .raw (rowFrom w_xs 1 k)), (5, I (((m + 1) : Nat) : Int))], ?_, ⟨rfl, slI rfl (by first | (rw [← Nat.add_assoc, cptA_ne c11', List.length_append]; rfl) | rw [← Nat.add_assoc, cptA_eq (by omega) c11']), rfl, rfl, trivial⟩, (m + 1), rfl, rfl, (by first | (rw [← Nat.add_assoc, cptR_ne (by omega) c11', he]) | rw [← Nat.add_assoc, cptR_eq (by omega) c11']), (by omega), (by first | (rw [← Nat.add_assoc, cptA_ne c11', List.length_append, List.length_singleton]; omega) | (rw [← Nat.add_assoc, cptA_eq (by omega) c11']; omega))⟩
        omega
      refine VC.exit (VC.seq (VC.text ?_))
      refine VO.c (.move rfl) ?_
      refine VO.c (.move rfl) ?_
      refine VO.r (.restO (k := ((cptA ByteArray.empty xs (k + m)).length)) rfl rfl m0 el27 (by omega) (by omega)) ?_
      refine VO.clear0 (k := ((cptA ByteArray.empty xs (k + m)).length)) el27 zt9 (by omega) (by omega) ?_
      refine VO.go (VC.seq (VC.text ?_))
      refine VO.c (.move rfl) ?_
      refine VO.c (.move rfl) ?_
      refine VO.shut [(0, .v (.sl .str) ((cptR ByteArray.empty xs (k + m)).take ((cptA ByteArray.empty xs (k + m)).length) ++ List.replicate ((cptR ByteArray.empty xs (k + m)).length - ((cptA ByteArray.empty xs (k + m)).length)) ByteArray.empty)), (54, .v (.sl .str) ((cptR ByteArray.empty xs (k + m)).take ((cptA ByteArray.empty xs (k + m)).length) ++ List.replicate ((cptR ByteArray.empty xs (k + m)).length - ((cptA ByteArray.empty xs (k + m)).length)) ByteArray.empty)), (57, .v (.sl .str) ((cptR ByteArray.empty xs (k + m)).take ((cptA ByteArray.empty xs (k + m)).length) ++ List.replicate ((cptR ByteArray.empty xs (k + m)).length - ((cptA ByteArray.empty xs (k + m)).length)) ByteArray.empty))] (.cons rfl (.row m0) (.cons rfl (.row m0) (.cons rfl (.row m0) .nil))) ?_
      refine VO.r (.cutH rfl rfl el27 (by simp; omega)) ?_
      refine VO.c (.assign rfl) ?_
      refine VO.go ?_
      refine VC.ret ?_
      exact VEnd.one rfl evT (pvE (by rw [Int.toNat_natCast, show k + m = xs.length by omega, cptR_take, List.take_left]))
    have c6' : xs.getD k ByteArray.empty ≠ xs.getD (k - 1) ByteArray.empty := by rw [getDg _ _ hk2, getDg _ _ (by omega)]; exact c6
    refine VC.skip (VC.text ?_)
    refine VO.c (.move rfl) ?_
    refine VO.c (.add rfl rfl (by omega)) ?_
    refine VO.c (.assign rfl) ?_
    refine VO.nil ?_
    refine ⟨_, [(0, .raw w_xs), (3, I (((k + 1) : Nat) : Int))], ?_, ⟨rfl, rfl, trivial⟩, (k + 1), rfl, rfl, rfl, (by omega), (by intro j h1 h2; rcases Nat.lt_succ_iff_lt_or_eq.1 h2 with h | h; exact hall j h1 h; subst h; exact c6')⟩
    omega
  refine VC.exit (VC.seq (VC.text ?_))
  refine VO.c (.move rfl) ?_
  refine VO.c (.assign rfl) ?_
  refine VO.go ?_
  refine VC.ret ?_
  exact VEnd.one rfl (evC (.row m0)) (pvE (by rw [cptA_all (Nat.le_refl _) (fun j h1 h2 => hall j h1 (by omega)), List.take_length]))
theorem sDistinct_ok {w_l : Value} {l : List ByteArray} (hn : l.length < 1000000) : VFG Tryz.prog OA 142 [.raw w_l] [(w_l, .row 9 .str l)] (fun r' g => r' = (.v (.sl .str) (setE l)) ∧ g = []) := by
  refine VFG.enterC Tryz.func142 rfl (fun _ _ => rfl) rfl ?_
  show VC _ _ _ _ _ [(0, .raw w_l)] [(w_l, .row 9 .str l)] _
  refine VC.seq (VC.text ?_)
  refine VO.c (.assign rfl) ?_
  refine VO.go (VC.seq (VC.text ?_))
  refine VO.c (.move rfl) ?_
  refine VO.callG [(w_l, .row 9 .str l)] rfl rfl rfl (VFG.call (zSort_ok (by omega))) ?_
  rintro _ _ ⟨rfl, rfl⟩
  show VO _ _ _ _ _ _ [(w_l, .row 9 .str (sortB l))] _
  refine VO.go (VC.seq (VC.text ?_))
  refine VO.c (.move rfl) ?_
  refine VO.callG [(w_l, .row 9 .str (sortB l))] rfl rfl rfl (VFG.call (zCompact_ok (by rw [sortB_length]; omega))) ?_
  rintro _ _ ⟨rfl, rfl⟩
  show VO _ _ _ _ _ _ [] _
  refine VO.c (.assign rfl) ?_
  refine VO.go ?_
  refine VC.ret ?_
  exact VEnd.one rfl evT (pvE (by exact cpt_set l))
end Go.Proofs
namespace Go.Proofs
open Go.Fs
set_option linter.unusedVariables false
set_option maxHeartbeats 1000000
theorem vt43 : ValT Tryz.prog 43 y43 := valT_of (by kernel_rfl)
theorem zt27 : ZerT Tryz.prog 27 (.sl .str) := zerT_of (z := .slice none 0 0) (by kernel_rfl) rfl rfl
theorem atE_cons {l : List Permit} {t : Int} {i : Nat} (h : i < l.length) : atE (l.drop i) t = if hasT l[i].2.2.2.2 t = true then l[i] :: atE (l.drop (i + 1)) t else atE (l.drop (i + 1)) t := by
  unfold atE
  rw [List.drop_eq_getElem_cons h, List.filter_cons]
theorem atE_end {l : List Permit} {t : Int} {i : Nat} (h : l.length ≤ i) : atE (l.drop i) t = [] := by rw [List.drop_eq_nil_of_le h] <;> rfl
theorem sAt1_ok {l : List (ByteArray × ByteArray × ByteArray × (List ByteArray) × (Int × Int))} {t : Int} (hn : l.length < 1000000) : IterC Tryz.prog OA 176 [] [.p y43 l, .p (.int .i64) t] (fun x : Permit => [.v y35 x]) (atE l t) := by
  refine IterC.enter Tryz.func176 rfl rfl (fun _ => rfl) fun yv II EE γ hy hI => ?_
  show VC _ _ _ _ _ [(0, .raw yv), (1, .p y43 l), (2, .p (.int .i64) t)] γ _
  refine VC.seq (VC.text ?_)
  refine VO.r (.ld vt43) ?_
  refine VO.r (.len el43) ?_
  refine VO.c (.move rfl) ?_
  refine VO.go (VC.block ?_)
  refine VC.keep [(0, .raw yv), (2, .p (.int .i64) t), (6, .v y43 l), (7, I ((l.length : Nat) : Int)), (8, I ((0 : Nat) : Int))] ⟨rfl, rfl, rfl, rfl, rfl, trivial⟩ ?_
  refine VC.loop (I := fun kk ff ss => ∃ (i : Nat), kk = l.length - i ∧ ff = [(0, .raw yv), (2, .p (.int .i64) t), (6, .v y43 l), (7, I ((l.length : Nat) : Int)), (8, I ((i : Nat) : Int))] ∧ (i ≤ l.length) ∧ II (atE (l.drop i) t) ss) ?_ _ _ _ ⟨0, rfl, rfl, Nat.zero_le _, (by exact hI)⟩
  rintro kk ff ss ⟨i, hk0, rfl, hi, hI⟩
  refine VC.seq (VC.text ?_)
  refine VO.c (.lss) ?_
  refine VO.go (VC.seq ?_)
  refine VC.condD rfl (fun c1 => ?_) (fun c1 => ?_)
  · have hi' : i < l.length := by omega
    refine VC.skip (VC.seq (VC.block (VC.seq (VC.text ?_))))
    refine VO.c (.ix (j := i) rfl rfl el43 (by omega)) ?_
    refine VO.r (.ld vt35) ?_
    refine VO.cell (.alloc zt35) ?_
    intro ww1
    refine VO.setV (cs' := [St ((l[i]).1), St ((l[i]).2.1), St ((l[i]).2.2.1), .v (.sl .str) ((l[i]).2.2.2.1), I (((l[i]).2.2.2.2).1), I (((l[i]).2.2.2.2).2)]) vt35 .v ?_
    refine VO.shut [(5, .p y35 (l[i]))] (.cons rfl (.var m0 .refl) .nil) ?_
    refine VO.go (VC.seq (VC.text ?_))
    refine VO.c (.fa (.r (.r (.r (.r .o))))) ?_
    refine VO.r (.ld vt29) ?_
    refine VO.r (.ld vt3) ?_
    refine VO.call rfl rfl (VF.call (sHas_ok )) ?_
    refine VO.c (.move rfl) ?_
    refine VO.splitB (x := 16) rfl (fun g3_4 => ?_) (fun g3_4 => ?_)
    · refine VO.c (.move rfl) ?_
      refine VO.r (.ld vt35) ?_
      refine VO.callY0 rfl rfl (hy (l[i]) (atE (l.drop (i + 1)) t) _ (by rw [atE_cons hi', if_pos g3_4] at hI; exact hI)) ?_
      rintro _ ss (⟨rfl, hI⟩ | ⟨rfl, hE⟩)
      · refine VO.c (.not) ?_
        refine VO.c (.pickT rfl rfl) ?_
        refine VO.go ?_
        refine VC.condF rfl ?_
        refine VC.skip (VC.text ?_)
        refine VO.c (.add rfl rfl (by omega)) ?_
        refine VO.c (.move rfl) ?_
        refine VO.nil ?_
        refine ⟨_, [(0, .raw yv), (2, .p (.int .i64) t), (6, .v y43 l), (7, I ((l.length : Nat) : Int)), (8, I (((i + 1) : Nat) : Int))], ?_, ⟨rfl, rfl, rfl, rfl, rfl, trivial⟩, (i + 1), rfl, rfl, (by omega), (by first | exact hI | (rw [atE_cons hi', if_neg (by rw [g3_4]; decide)] at hI; exact hI))⟩
        omega
      refine VO.c (.not) ?_
      refine VO.c (.pickT rfl rfl) ?_
      refine VO.go ?_
      refine VC.condT rfl ?_
      refine VC.ret ?_
      exact ⟨rfl, .inr hE⟩
    refine VO.skip ?_
    refine VO.skip ?_
    refine VO.skip ?_
    refine VO.skip ?_
    refine VO.c (.pickF rfl rfl) ?_
    refine VO.go ?_
    refine VC.condF rfl ?_
    refine VC.skip (VC.text ?_)
    refine VO.c (.add rfl rfl (by omega)) ?_
    refine VO.c (.move rfl) ?_
    refine VO.nil ?_
    refine ⟨_, [(0, .raw yv), (2, .p (.int .i64) t), (6, .v y43 l), (7, I ((l.length : Nat) : Int)), (8, I (((i + 1) : Nat) : Int))], ?_, ⟨rfl, rfl, rfl, rfl, rfl, trivial⟩, (i + 1), rfl, rfl, (by omega), (by first | exact hI | (rw [atE_cons hi', if_neg (by rw [g3_4]; decide)] at hI; exact hI))⟩
    omega
  refine VC.exit ?_
  exact ⟨rfl, .inl (by rw [atE_end (by omega)] at hI; exact hI)⟩
theorem sAt_ok {l : List (ByteArray × ByteArray × ByteArray × (List ByteArray) × (Int × Int))} {t : Int} : VF Tryz.prog OA 141 [.v y43 l, I t] (.clo 176 [] [.p y43 l, .p (.int .i64) t]) := by
  refine VF.enter Tryz.func141 rfl (fun _ _ => rfl) rfl ?_
  show VC _ _ _ _ _ [(0, .v y43 l), (1, I t)] [] _
  refine VC.seq (VC.text ?_)
  refine VO.new (.box) ?_
  refine VO.new (.box) ?_
  refine VO.c (.assign rfl) ?_
  refine VO.go (VC.seq (VC.text ?_))
  refine VO.c (.func) ?_
  refine VO.c (.assign rfl) ?_
  refine VO.go ?_
  refine VC.ret ?_
  exact VEnd.one rfl evT rfl
def gateE (p : Permit) : ByteArray := p.2.2.1
theorem outE_eq {l : List Permit} {t : Int} {gs : List ByteArray} (h : gs ++ ([] : List Permit).map gateE = (atE l t).map gateE) : setE gs = outE l t := by
  rw [List.map_nil, List.append_nil] at h
  rw [h] <;> rfl
theorem gates_len {l : List Permit} {t : Int} {gs : List ByteArray} {rest : List Permit} (h : gs ++ rest.map gateE = (atE l t).map gateE) : gs.length + rest.length ≤ l.length := by
  have h1 := congrArg List.length h
  rw [List.length_append, List.length_map, List.length_map] at h1
  have h2 : (atE l t).length ≤ l.length := List.length_filter_le _ _
  omega
theorem sOut_ok {l : List (ByteArray × ByteArray × ByteArray × (List ByteArray) × (Int × Int))} {t : Int} (hn : l.length < 100000) : VF Tryz.prog OA 140 [.v y43 l, I t] (.v (.sl .str) (outE l t)) := by
  refine VF.enter Tryz.func140 rfl (fun _ _ => rfl) rfl ?_
  show VC _ _ _ _ _ [(0, .v y43 l), (1, I t)] [] _
  refine VC.seq (VC.text ?_)
  refine VO.c (.assign rfl) ?_
  refine VO.go (VC.seq (VC.text ?_))
  refine VO.cell (.alloc0 zt27) ?_
  intro ww2
  refine VO.go (VC.seq (VC.seq ?_))
  refine VC.nilRow 9 .str ?_
  refine VC.text ?_
  refine VO.c (.move rfl) ?_
  refine VO.c (.move rfl) ?_
  refine VO.call rfl rfl (VF.call (sAt_ok )) ?_
  refine VO.go (VC.block ?_)
  refine VC.keep [(5, .raw ww2), (9, .clo 176 [] [.p y43 l, .p (.int .i64) t])] ⟨rfl, rfl, trivial⟩ ?_
  refine VC.rangeFunc rfl (sAt1_ok (by omega)) (fun _ => rfl) rfl rfl (fun rest ss => ∃ (gs : List ByteArray), ∃ (wg : Value), ss = [(wg, .row 9 .str gs), (ww2, .var [.raw wg])] ∧ (gs ++ rest.map gateE = (atE l t).map gateE)) (fun ee ss => False) ⟨[], (.slice none 0 0), rfl, (by rfl)⟩ ?_ ?_ ?_
  · rintro jj x rest _ ⟨gs, wg, rfl, hg⟩
    show VC _ _ _ _ _ [(10, .v y35 x), (5, .raw ww2), (9, .clo 176 [] [.p y43 l, .p (.int .i64) t])] [(wg, .row 9 .str gs), (ww2, .var [.raw wg])] _
    refine VC.text ?_
    refine VO.cell (.alloc zt35) ?_
    intro ww3
    refine VO.setV (cs' := [St x.1, St x.2.1, St x.2.2.1, .v (.sl .str) x.2.2.2.1, I x.2.2.2.2.1, I x.2.2.2.2.2]) vt35 .v ?_
    refine VO.shut [(6, .p y35 x)] (.cons rfl (.var m0 .refl) .nil) ?_
    refine VO.nil ?_
    refine ⟨rfl, ?_⟩
    refine VC.block (VC.text ?_)
    refine VO.r (.ldV m1 vt27) ?_
    refine VO.c (.fa (.r (.r (.l .o)))) ?_
    refine VO.r (.ld vt9) ?_
    refine VO.new (.lit [x.2.2.1] el27) ?_
    refine VO.app rfl rfl el27 el27 (by have := gates_len hg; simp; omega) ?_
    intro ww4
    refine VO.perm swap1 ?_
    refine VO.one m1 fun ho5 => ?_
    refine VO.setV (cs' := [.raw ww4]) vt27 (.raw rfl (agg_one ho5) ho5) ?_
    refine VO.perm swap1 ?_
    refine VO.nil ?_
    exact .inl ⟨rfl, gs ++ [x.2.2.1], ww4, rfl, (by rw [List.append_assoc]; exact hg)⟩
  · rintro _ ⟨gs, wg, rfl, hg⟩
    refine VC.seq (VC.text ?_)
    refine VO.r (.ldV m1 vt27) ?_
    refine VO.callG [(wg, .row 9 .str gs)] rfl rfl rfl (VFG.call (sDistinct_ok (by have := gates_len hg; omega))) ?_
    rintro _ _ ⟨rfl, rfl⟩
    show VO _ _ _ _ _ _ [(ww2, .var [.raw wg])] _
    refine VO.c (.assign rfl) ?_
    refine VO.go ?_
    refine VC.ret ?_
    exact VEnd.one rfl evT (pvE (by exact outE_eq hg))
  rintro _ _ _ ⟨⟩
end Go.Proofs
namespace Go.Proofs
open Go.Fs
set_option linter.unusedVariables false
set_option maxHeartbeats 1000000

theorem shortPs_ok {l : List Permit} (h : shortPs l = true) : l.length ≤ 65 ∧ ∀ p ∈ l, p.2.2.2.1.length ≤ 9 := by
  unfold shortPs at h
  rw [Bool.and_eq_true] at h
  obtain ⟨h1, h2⟩ := h
  have h1 := of_decide_eq_true h1
  refine ⟨by omega, fun p hp => ?_⟩
  have h3 := List.all_eq_true.1 h2 p hp
  unfold shortP at h3
  simp only [Bool.and_eq_true, Bool.not_eq_true', Bool.or_eq_false_iff, decide_eq_false_iff_not] at h3
  omega
theorem firstE_all {l : List Int} : firstE l = 0 ↔ ∀ x ∈ l, x = 0 := by
  induction l with
  | nil => simp [firstE]
  | cons x l ih => by_cases h : x = 0 <;> simp [firstE, h, ih]
theorem perm_span {p : Permit} (h : permE p = 0) : spanE p.2.2.2.2 = 0 := by
  unfold permE at h
  rw [firstE_all] at h
  exact h _ (by simp)
end Go.Proofs
namespace Go.Proofs
open Go.Fs
set_option linter.unusedVariables false
set_option maxHeartbeats 1000000

theorem permsE_ok {l : List Permit} (h : permsE l = 0) : ¬ 64 < (l.length : Int) ∧ ∀ p ∈ l, permE p = 0 := by
  unfold permsE at h
  split at h
  · cases h
  rename_i h1
  exact ⟨h1, fun p hp => firstE_all.1 h _ (List.mem_map.2 ⟨p, hp, rfl⟩)⟩
end Go.Proofs
namespace Go.Proofs
open Go.Fs
set_option linter.unusedVariables false
set_option maxHeartbeats 1000000

theorem permsV {l : List Permit} (h : permsE l = 0) : PermV l := fun p hp => perm_span ((permsE_ok h).2 p hp)
end Go.Proofs
namespace Go.Fs
variable {P : Program} {σ : Sto} {fl : VL} {x y : Operand} {T T' : TypeId} {p q : Bool}
end Go.Fs
namespace Go.Fs
variable {P : Program} {orc : FuncId → List Value → Heap → Option (Value × Heap)} {σ : Sto} {fl : VL} {ops : Array Oper} {n : Nat} {l : List Oper} {K : VL → Sto → Prop} {d : Tmp} {ty : TypeId} {pos : String} {after : Array Edge} {g : Option (Nat × Bool)} {x : Operand} {T e : TypeId} {τ : Ty}
end Go.Fs
namespace Go.Proofs
open Go.Fs
set_option linter.unusedVariables false
set_option maxHeartbeats 1000000
abbrev BMap := List (ByteArray × Bool)
def inM (m : BMap) (s : ByteArray) : Bool := (mget m s).getD false
def evM (l : List ByteArray) (i : Nat) : BMap := (l.take i).foldl (fun m s => mset m s true) []
def usedN (m : BMap) (x : Clm) : Nat := (x.2.2.filter (inM m)).length
def holdsX (m : BMap) (x : Clm) : Bool := decide (((usedN m x : Nat) : Int) = (x.2.2.length : Nat)) || (x.2.1 && decide (0 < ((usedN m x : Nat) : Int)))
def clM (c : Cse) (l : List ByteArray) (i : Nat) : BMap := (c.2.2.take i).foldl (fun m x => mset m x.1 (holdsX m x)) (evM l l.length)
def byM (c : Cse) (l : List ByteArray) : BMap := clM c l c.2.2.length
end Go.Proofs
namespace Go.Proofs
open Go.Fs
set_option linter.unusedVariables false
set_option maxHeartbeats 1000000

end Go.Proofs
namespace Go.Proofs
open Go.Fs
end Go.Proofs
namespace Go.Proofs
open Go.Fs
structure ClOk (c : Cse) : Prop where
  new : ∀ i (hi : i < c.2.2.length), knownC c i c.2.2[i].1 = false
  use : ∀ i (hi : i < c.2.2.length), ∀ u ∈ c.2.2[i].2.2, knownC c i u = true
section
variable {c : Cse} {l : List ByteArray}
def byR (c : Cse) (l : List ByteArray) (s : ByteArray) : Bool := inM (byM c l) s
end
end Go.Proofs
namespace Go.Proofs
open Go.Fs
set_option linter.unusedVariables false
set_option maxHeartbeats 1000000

end Go.Proofs
namespace Go.Fs
variable {P : Program} {fl : VL} {e : TypeId} {τ : Ty}
end Go.Fs
namespace Go.Proofs
open Go.Fs
set_option linter.unusedVariables false
set_option maxHeartbeats 2000000
end Go.Proofs
namespace Go.Proofs
open Go.Fs
set_option linter.unusedVariables false
set_option maxHeartbeats 2000000

theorem awakeC_ok : VF Tryz.prog OA 16 [] (B true) := VF.oracle (fun _ => rfl) fun _ _ => ⟨rfl, rfl⟩
theorem wordsE_go : ∀ {a b : List ByteArray}, a.length = b.length → (∀ i (h : i < a.length) (h2 : i < b.length), a[i] = b[i]) → a = b := fun h h2 => List.ext_getElem h h2
theorem same_no {a b : List ByteArray} (h : (a.length : Int) ≠ (b.length : Int)) : ¬ a = b := fun e => h (by rw [e])
theorem same_go {a b : List ByteArray} {j : Nat} {ha : j < a.length} {hb : j < b.length} (hi : ∀ k (h : k < a.length) (h2 : k < b.length), k < j → a[k] = b[k]) (e : ¬ a[j] ≠ b[j]) : ∀ k (h : k < a.length) (h2 : k < b.length), k < j + 1 → a[k] = b[k] := fun k h h2 h3 => by
  by_cases h4 : k < j
  · exact hi k h h2 h4
  have : k = j := by omega
  subst this
  exact Decidable.not_not.1 e
theorem rSame_ok {a : List ByteArray} {b : List ByteArray} (ha : a.length < 1000000) (hb : b.length < 1000000) : VF Tryz.prog OA 46 [.v (.sl .str) a, .v (.sl .str) b] (B (decide (a = b))) := by
  refine VF.enter Tryz.func46 rfl (fun _ _ => rfl) rfl ?_
  show VC _ _ _ _ _ [(0, .v (.sl .str) a), (1, .v (.sl .str) b)] [] _
  refine VC.seq (VC.text ?_)
  refine VO.c (.assign rfl) ?_
  refine VO.go (VC.seq (VC.seq (VC.text ?_)))
  refine VO.c (.move rfl) ?_
  refine VO.r (.len el27) ?_
  refine VO.c (.move rfl) ?_
  refine VO.r (.len el27) ?_
  refine VO.c (.neq) ?_
  refine VO.go ?_
  refine VC.condD rfl (fun c1 => ?_) (fun c1 => ?_)
  · refine VC.seq (VC.text ?_)
    refine VO.c (.assign rfl) ?_
    refine VO.go ?_
    refine VC.ret ?_
    exact VEnd.one rfl evT (pvE (by exact (decide_eq_false (same_no c1)).symm))
  refine VC.skip (VC.seq (VC.seq (VC.text ?_)))
  refine VO.c (.assign rfl) ?_
  refine VO.go (VC.block ?_)
  refine VC.keep [(0, .v (.sl .str) a), (1, .v (.sl .str) b), (5, I ((0 : Nat) : Int))] ⟨rfl, rfl, rfl, trivial⟩ ?_
  refine VC.loop (I := fun kk ff ss => ∃ (j : Nat), kk = a.length - j ∧ ff = [(0, .v (.sl .str) a), (1, .v (.sl .str) b), (5, I ((j : Nat) : Int))] ∧ ss = [] ∧ (j ≤ a.length) ∧ (a.length = b.length) ∧ (∀ k (h : k < a.length) (h2 : k < b.length), k < j → a[k] = b[k])) ?_ _ _ _ ⟨0, rfl, rfl, rfl, Nat.zero_le _, (by omega), (by exact fun k _ _ h => absurd h (by omega))⟩
  rintro kk ff ss ⟨j, hk0, rfl, rfl, hj, hl, hi⟩
  refine VC.seq (VC.seq (VC.text ?_))
  refine VO.c (.move rfl) ?_
  refine VO.c (.move rfl) ?_
  refine VO.r (.len el27) ?_
  refine VO.c (.lss) ?_
  refine VO.go ?_
  refine VC.condD rfl (fun c4 => ?_) (fun c4 => ?_)
  · refine VC.skip (VC.seq (VC.block (VC.seq (VC.drawn ?_))))
    refine VD.c (.move rfl) ?_
    refine VD.c (.move rfl) ?_
    refine VD.c (.ix (j := j) rfl rfl el27 (by omega)) ?_
    refine VD.r [] (.ld vt9) (.inl rfl) ?_
    refine VD.c (.move rfl) ?_
    refine VD.c (.move rfl) ?_
    refine VD.nw [] ?_
    refine VD.c (.ix (j := j) rfl rfl el27 (by omega)) ?_
    refine VD.r [] (.ld vt9) (.inl rfl) ?_
    refine VD.c (.sneq) ?_
    refine VD.go ?_
    refine VC.condD rfl (fun c6 => ?_) (fun c6 => ?_)
    · refine VC.seq (VC.text ?_)
      refine VO.c (.assign rfl) ?_
      refine VO.go ?_
      refine VC.ret ?_
      exact VEnd.one rfl evT (pvE (by exact (decide_eq_false (fun h => c6 (List.getElem_of_eq h _))).symm))
    refine VC.skip (VC.text ?_)
    refine VO.c (.move rfl) ?_
    refine VO.c (.add rfl rfl (by omega)) ?_
    refine VO.c (.assign rfl) ?_
    refine VO.nil ?_
    refine ⟨_, [(0, .v (.sl .str) a), (1, .v (.sl .str) b), (5, I (((j + 1) : Nat) : Int))], ?_, ⟨rfl, rfl, rfl, trivial⟩, (j + 1), rfl, rfl, rfl, (by omega), (by omega), (by exact same_go hi c6)⟩
    omega
  refine VC.exit (VC.seq (VC.text ?_))
  refine VO.c (.assign rfl) ?_
  refine VO.go ?_
  refine VC.ret ?_
  exact VEnd.one rfl evT (pvE (by exact (decide_eq_true (wordsE_go hl (fun k h h2 => hi k h h2 (by omega)))).symm))
theorem getD_at {α : Type} {l : List α} {i : Nat} {d : α} (h : i < l.length) : l.getD i d = l[i] := by rw [List.getD_eq_getElem?_getD, List.getElem?_eq_getElem h] <;> rfl
end Go.Proofs
namespace Go.Fs
variable {P : Program} {orc : FuncId → List Value → Heap → Option (Value × Heap)} {rnd : Option Nat} {h h' h0 h1 h2 hs : Heap} {S S' S0 B G : List Nat} {σ σ' : Sto} {t t' : Tr} {ms : List Nat} {fl : VL} {ops : Array Oper} {n i mem : Nat} {l : List Oper} {K : VL → Sto → Prop} {Q : Ex → VL → Sto → Prop}
  {d d1 d2 : Tmp} {ty ty1 ty2 : TypeId} {pos pos1 pos2 : String} {after after1 after2 : Array Edge} {op : Op} {v v1 : PV} {g g1 g2 : Option (Nat × Bool)} {bs nw : List Nat} {segs : List (Nat × Nat × Nat)} {tail so : Bool}

section
variable (P orc)
end
end Go.Fs
namespace Go.Proofs
open Go.Fs
set_option linter.unusedVariables false
set_option maxHeartbeats 1000000
def lackW (l : List ByteArray) (s : ByteArray) : List ByteArray := l.filter fun o => !decide (o = s)
end Go.Proofs
namespace Go.Fs
variable {P : Program} {orc : FuncId → List Value → Heap → Option (Value × Heap)} {rnd : Option Nat} {h h' h0 h1 h2 : Heap} {S S' S0 B G : List Nat} {σ σ' σr : Sto} {t t' : Tr} {ms : List Nat} {fl : VL} {ops : Array Oper} {n i mem : Nat} {l : List Oper} {K : VL → Sto → Prop} {Q : Ex → VL → Sto → Prop}
  {d : Tmp} {ty : TypeId} {pos : String} {after : Array Edge} {op : Op} {v pv : PV} {g : Option (Nat × Bool)} {x y z : Operand} {T T' e : TypeId} {τ τ' : Ty} {bs nw : List Nat} {segs : List (Nat × Nat × Nat)} {tail so : Bool} {w w' : Value} {c c' : Cell}

end Go.Fs
namespace Go.Fs
variable {P : Program} {orc : FuncId → List Value → Heap → Option (Value × Heap)} {rnd : Option Nat} {h h' h0 h1 h2 : Heap} {S S' S0 G : List Nat} {σ σ' σr γ γ' : Sto} {t t' : Tr} {ms : List Nat} {fl nw : VL} {ops : Array Oper} {n i mem : Nat} {l : List Oper} {K : VL → Sto → Prop} {Q : Ex → VL → Sto → Prop}
  {d : Tmp} {ty : TypeId} {pos : String} {after : Array Edge} {op : Op} {v pv : PV} {g : Option (Nat × Bool)} {bs nw0 : List Nat} {tail so : Bool} {x y z : Operand} {T T' e : TypeId} {τ τ' : Ty} {w w' : Value}
end Go.Fs
namespace Go.Proofs
open Go.Fs
set_option linter.unusedVariables false
set_option maxHeartbeats 2000000

end Go.Proofs
namespace Go.Fs
variable {P : Program} {orc : FuncId → List Value → Heap → Option (Value × Heap)} {rnd : Option Nat} {h h' h0 h1 h2 : Heap} {S S' S0 G : List Nat} {σ σ' σr γ γ' : Sto} {t t' : Tr} {ms : List Nat} {fl nw : VL} {ops : Array Oper} {n i mem : Nat} {l : List Oper} {K : VL → Sto → Prop} {Q : Ex → VL → Sto → Prop}
  {d : Tmp} {ty : TypeId} {pos : String} {after : Array Edge} {op : Op} {v pv : PV} {g : Option (Nat × Bool)} {bs nw0 : List Nat} {tail so : Bool} {x y z : Operand} {T T' e : TypeId} {τ τ' : Ty} {w w' : Value}

end Go.Fs
namespace Go.Fs
variable {P : Program} {orc : FuncId → List Value → Heap → Option (Value × Heap)} {h h' h0 h1 h2 : Heap} {S S' S0 G : List Nat} {σ σ' γ γ' : Sto} {t t' : Tr} {ms : List Nat} {fl : VL} {τ : Ty}
end Go.Fs
namespace Go.Proofs
open Go.Fs
set_option linter.unusedVariables false
set_option maxHeartbeats 2000000
end Go.Proofs
namespace Go.Fs
variable {P : Program} {orc : FuncId → List Value → Heap → Option (Value × Heap)} {h h' h0 h1 h2 : Heap} {S S' S0 G : List Nat} {σ σ' : Sto} {t t' : Tr} {ms : List Nat} {fl : VL} {ops : Array Oper} {n i mem : Nat} {l : List Oper} {K : VL → Sto → Prop}
  {d : Tmp} {ty : TypeId} {pos : String} {after : Array Edge} {g : Option (Nat × Bool)} {bs nw : List Nat} {tail so : Bool} {e : TypeId} {τ : Ty}
end Go.Fs
namespace Go.Proofs
open Go.Fs
set_option linter.unusedVariables false
set_option maxHeartbeats 2000000
end Go.Proofs
namespace Go.Proofs
open Go.Fs
set_option linter.unusedVariables false
set_option maxHeartbeats 4000000
end Go.Proofs
namespace Go.Proofs
open Go.Fs
set_option linter.unusedVariables false
set_option maxHeartbeats 1000000
def stepO (c : Cse) (k : Int) (s : ByteArray) : Int := firstE [whenE (decide (evidE c.2.1 s < 0)) 10, whenE (decide (evidE c.2.1 s ≤ k)) 11]
end Go.Proofs
namespace Go.Proofs
open Go.Fs
set_option linter.unusedVariables false
set_option maxHeartbeats 2000000

end Go.Proofs
namespace Go.Proofs
open Go.Fs
end Go.Proofs
namespace Go.Proofs
open Go.Fs
set_option linter.unusedVariables false
set_option maxHeartbeats 1000000

end Go.Proofs
namespace Go.Proofs
open Go.Fs
set_option linter.unusedVariables false
set_option maxHeartbeats 2000000

end Go.Proofs
namespace Go.Proofs
open Go.Fs
structure CaseP (c : Cse) : Prop where
  v : versE c.1 = 0
  e : (c.2.1.length : Int) ≤ 64
  ev : ∀ i, i < c.2.1.length → evAt c i = 0
  l : (c.2.2.length : Int) ≤ 64
  cl : ∀ i, i < c.2.2.length → clAt c i = 0
end Go.Proofs
namespace Go.Proofs
open Go.Fs
structure RnwP (c : Cse) (s : ByteArray) (i : Nat) : Prop where
  hi : i < c.2.1.length
  at' : evidE c.2.1 s = (i : Nat)
  nm : (c.2.1[i]).1 = s
structure LackP (c : Cse) (s : ByteArray) (l : List ByteArray) : Prop where
  by1 : byR c (l ++ validR c) s = true
  nd : l.Nodup
  sub : ∀ w ∈ l, (∃ x ∈ c.2.1, x.1 = w) ∧ w ∉ validR c
  min : ∀ w ∈ l, byR c (lackW l w ++ validR c) s = false
  len : l.length ≤ c.2.1.length
structure RnwL (c : Cse) (l : List ByteArray) (y : Cse) : Prop where
  z : caseE y = 0
  ok : CseOk y
  nm : y.2.1.map (·.1) = c.2.1.map (·.1)
  cl : y.2.2 = c.2.2
  v : ∀ w, w ∈ validR y ↔ w ∈ validR c ∨ w ∈ l
end Go.Proofs
namespace Go.Proofs
open Go.Fs
structure SupP (c : Cse) (s : ByteArray) (l : List ByteArray) : Prop where
  by1 : byR c l s = true
  nd : l.Nodup
  sub : List.Sublist l (validR c)
  min : ∀ w ∈ l, byR c (lackW l w) s = false
end Go.Proofs
namespace Go.Proofs
open Go.Fs
set_option linter.unusedVariables false
set_option maxHeartbeats 2000000
theorem same_noV {α : Type} {a b : List α} (h : (a.length : Int) ≠ (b.length : Int)) : ¬ a = b := fun e => h (by rw [e])
theorem same_goV {α : Type} {a b : List α} {j : Nat} {ha : j < a.length} {hb : j < b.length} (hi : ∀ k (h : k < a.length) (h2 : k < b.length), k < j → a[k] = b[k]) (e : ¬ a[j] ≠ b[j]) : ∀ k (h : k < a.length) (h2 : k < b.length), k < j + 1 → a[k] = b[k] := fun k h h2 h3 => by
  by_cases h4 : k < j
  · exact hi k h h2 h4
  have : k = j := by omega
  subst this
  exact Classical.not_not.1 e
end Go.Proofs
namespace Go.Proofs
open Go.Fs
set_option linter.unusedVariables false
set_option maxHeartbeats 2000000
abbrev y110 : Ty := (.sl (.pair (.int .i64) (.pair (.int .i64) .str)))
abbrev y117 : Ty := (.sl (.pair (.int .i64) (.pair (.int .i64) .str)))
abbrev y127 : Ty := (.pair (.int .i64) (.pair (.int .i64) .str))
abbrev y188 : Ty := (.pair (.int .i64) (.pair (.int .i64) .str))
theorem vt127 : ValT Tryz.prog 127 y127 := valT_of (by kernel_rfl)
theorem vt188 : ValT Tryz.prog 188 y188 := valT_of (by kernel_rfl)
theorem el110 : ElT Tryz.prog 110 127 y127 := elT_of (by kernel_rfl)
theorem el117 : ElT Tryz.prog 117 188 y188 := elT_of (by kernel_rfl)
theorem zt127 : ZerT Tryz.prog 127 y127 := zerT_of (z := .agg #[.int .i64 0, .int .i64 0, .string ByteArray.empty]) (by kernel_rfl) rfl rfl
theorem zt188 : ZerT Tryz.prog 188 y188 := zerT_of (z := .agg #[.int .i64 0, .int .i64 0, .string ByteArray.empty]) (by kernel_rfl) rfl rfl
theorem bt127 : BldT Tryz.prog 127 y127 [(0, 1), (1, 1), (2, 1)] := bldT_of zt127 rfl (by kernel_rfl)
theorem bt188 : BldT Tryz.prog 188 y188 [(0, 1), (1, 1), (2, 1)] := bldT_of zt188 rfl (by kernel_rfl)
theorem eq188 : EqT Tryz.prog 188 y188 := eqT_of (by kernel_rfl)
theorem sCheckAt_ok {l : List (ByteArray × ByteArray × ByteArray × (List ByteArray) × (Int × Int))} {t : Int} (hl : l.length < 5000) (hk : PermOk l) : VF Tryz.prog OA 139 [.v y43 l, I t] (I (firstE [permsE l, rangeE t 0 100000])) := by
  refine VF.enter Tryz.func139 rfl (fun _ _ => rfl) rfl ?_
  show VC _ _ _ _ _ [(0, .v y43 l), (1, I t)] [] _
  refine VC.seq (VC.text ?_)
  refine VO.c (.assign rfl) ?_
  refine VO.go (VC.seq (VC.text ?_))
  refine VO.c (.move rfl) ?_
  refine VO.call rfl rfl (VF.call (sPermits_ok (by first | assumption | omega | simp) (by first | assumption | omega | simp))) ?_
  refine VO.c (.move rfl) ?_
  refine VO.call rfl rfl (VF.call (sWithin_ok )) ?_
  refine VO.new (.lit [permsE l, rangeE t (0 : Int) (100000 : Int)] el204) ?_
  refine VO.call rfl rfl (VF.call (sFirst_ok (by first | assumption | omega | simp))) ?_
  refine VO.c (.assign rfl) ?_
  refine VO.go ?_
  refine VC.ret ?_
  exact VEnd.one rfl evT (pvI (by rfl))
theorem sOutT_ok {l : List (ByteArray × ByteArray × ByteArray × (List ByteArray) × (Int × Int))} {t : Int} (hl : l.length < 5000) (hk : PermOk l) : VF Tryz.prog OA 69 [.v y43 l, I t] (.tup [.v (.sl .str) (if firstE [permsE l, rangeE t 0 100000] = 0 then outE l t else []), I (firstE [permsE l, rangeE t 0 100000])]) := by
  refine VF.enter Tryz.func69 rfl (fun _ _ => rfl) rfl ?_
  show VC _ _ _ _ _ [(0, .v y43 l), (1, I t)] [] _
  refine VC.seq (VC.text ?_)
  refine VO.c (.assign rfl) ?_
  refine VO.c (.assign rfl) ?_
  refine VO.go (VC.seq (VC.seq (VC.text ?_)))
  refine VO.c (.move rfl) ?_
  refine VO.c (.move rfl) ?_
  refine VO.call rfl rfl (VF.call (sCheckAt_ok (by first | assumption | omega | simp) (by first | assumption | omega | simp))) ?_
  refine VO.c (.assign rfl) ?_
  refine VO.go (VC.seq (VC.text ?_))
  refine VO.c (.move rfl) ?_
  refine VO.c (.neq) ?_
  refine VO.go ?_
  refine VC.condD rfl (fun c2 => ?_) (fun c2 => ?_)
  · refine VC.seq (VC.text ?_)
    refine VO.c (.move rfl) ?_
    refine VO.c (.assign rfl) ?_
    refine VO.c (.assign rfl) ?_
    refine VO.go ?_
    refine VC.ret ?_
    exact VEnd.two rfl (evC .nil) evT (pvE (by rw [if_neg c2])) (pvI (by rfl))
  refine VC.skip (VC.seq (VC.text ?_))
  refine VO.c (.move rfl) ?_
  refine VO.c (.move rfl) ?_
  refine VO.call rfl rfl (VF.call (sOut_ok (by first | assumption | omega | simp))) ?_
  refine VO.c (.assign rfl) ?_
  refine VO.c (.assign rfl) ?_
  refine VO.go ?_
  refine VC.ret ?_
  exact VEnd.two rfl evT evT (pvE (by rw [if_pos (Classical.not_not.1 c2)])) (pvI (by exact (Classical.not_not.1 c2).symm))
def plocksE (p : Permit) : List ByteArray := p.2.2.2.1
theorem lockedE_eq {l : List Permit} {t : Int} {gs : List ByteArray} (h : gs ++ ([] : List Permit).flatMap plocksE = (atE l t).flatMap plocksE) : setE gs = lockedE l t := by
  rw [List.flatMap_nil, List.append_nil] at h
  rw [h] <;> rfl
def Few9 (l : List Permit) : Prop := ∀ p ∈ l, p.2.2.2.1.length ≤ 9
theorem flat9 : ∀ {l : List Permit}, Few9 l → (l.flatMap plocksE).length ≤ 9 * l.length
  | [], _ => Nat.le_refl _
  | p :: l, h => by
    rw [List.flatMap_cons, List.length_append]
    have h1 : (plocksE p).length ≤ 9 := h p List.mem_cons_self
    have h2 := flat9 (l := l) fun q hq => h q (List.mem_cons_of_mem _ hq)
    simp only [List.length_cons]
    omega
theorem at9 {l : List Permit} {t : Int} (h : Few9 l) : Few9 (atE l t) := fun p hp => h p (List.mem_filter.1 hp).1
theorem locks_len {l : List Permit} {t : Int} {gs : List ByteArray} {rest : List Permit} (h9 : Few9 l) (h : gs ++ rest.flatMap plocksE = (atE l t).flatMap plocksE) : gs.length + (rest.flatMap plocksE).length ≤ 9 * l.length := by
  have h1 := congrArg List.length h
  rw [List.length_append] at h1
  have h2 := flat9 (at9 (t := t) h9)
  have h3 : (atE l t).length ≤ l.length := List.length_filter_le _ _
  omega
theorem few_ok {l : List Permit} (h : Few9 l) : PermOk l := fun p hp => by have := h p hp; omega
theorem sLockedT_ok {l : List (ByteArray × ByteArray × ByteArray × (List ByteArray) × (Int × Int))} {t : Int} (hl : l.length < 5000) (h9 : Few9 l) : VF Tryz.prog OA 70 [.v y43 l, I t] (.tup [.v (.sl .str) (if firstE [permsE l, rangeE t 0 100000] = 0 then lockedE l t else []), I (firstE [permsE l, rangeE t 0 100000])]) := by
  refine VF.enter Tryz.func70 rfl (fun _ _ => rfl) rfl ?_
  show VC _ _ _ _ _ [(0, .v y43 l), (1, I t)] [] _
  refine VC.seq (VC.text ?_)
  have hk := few_ok h9
  refine VO.c (.assign rfl) ?_
  refine VO.c (.assign rfl) ?_
  refine VO.go (VC.seq (VC.seq (VC.text ?_)))
  refine VO.c (.move rfl) ?_
  refine VO.c (.move rfl) ?_
  refine VO.call rfl rfl (VF.call (sCheckAt_ok (by first | assumption | omega | simp) (by first | assumption | omega | simp))) ?_
  refine VO.c (.assign rfl) ?_
  refine VO.go (VC.seq (VC.text ?_))
  refine VO.c (.move rfl) ?_
  refine VO.c (.neq) ?_
  refine VO.go ?_
  refine VC.condD rfl (fun c2 => ?_) (fun c2 => ?_)
  · refine VC.seq (VC.text ?_)
    refine VO.c (.move rfl) ?_
    refine VO.c (.assign rfl) ?_
    refine VO.c (.assign rfl) ?_
    refine VO.go ?_
    refine VC.ret ?_
    exact VEnd.two rfl (evC .nil) evT (pvE (by rw [if_neg c2])) (pvI (by rfl))
  refine VC.skip (VC.seq (VC.text ?_))
  refine VO.cell (.alloc0 zt27) ?_
  intro ww1
  refine VO.go (VC.seq (VC.seq ?_))
  refine VC.nilRow 9 .str ?_
  refine VC.text ?_
  refine VO.c (.move rfl) ?_
  refine VO.c (.move rfl) ?_
  refine VO.call rfl rfl (VF.call (sAt_ok )) ?_
  refine VO.go (VC.block ?_)
  refine VC.keep [(7, .raw ww1), (17, .clo 176 [] [.p y43 l, .p (.int .i64) t])] ⟨rfl, rfl, trivial⟩ ?_
  refine VC.rangeFunc rfl (sAt1_ok (by omega)) (fun _ => rfl) rfl rfl (fun rest ss => ∃ (gs : List ByteArray), ∃ (wg : Value), ss = [(wg, .row 9 .str gs), (ww1, .var [.raw wg])] ∧ (gs ++ rest.flatMap plocksE = (atE l t).flatMap plocksE)) (fun ee ss => False) ⟨[], (.slice none 0 0), rfl, (by rfl)⟩ ?_ ?_ ?_
  · rintro jj x rest _ ⟨gs, wg, rfl, hg⟩
    show VC _ _ _ _ _ [(18, .v y35 x), (7, .raw ww1), (17, .clo 176 [] [.p y43 l, .p (.int .i64) t])] [(wg, .row 9 .str gs), (ww1, .var [.raw wg])] _
    refine VC.text ?_
    refine VO.cell (.alloc zt35) ?_
    intro ww2
    refine VO.setV (cs' := [St x.1, St x.2.1, St x.2.2.1, .v (.sl .str) x.2.2.2.1, I x.2.2.2.2.1, I x.2.2.2.2.2]) vt35 .v ?_
    refine VO.shut [(8, .p y35 x)] (.cons rfl (.var m0 .refl) .nil) ?_
    refine VO.nil ?_
    refine ⟨rfl, ?_⟩
    refine VC.block (VC.text ?_)
    refine VO.r (.ldV m1 vt27) ?_
    refine VO.c (.fa (.r (.r (.r (.l .o))))) ?_
    refine VO.r (.ld vt27) ?_
    refine VO.app rfl rfl el27 el27 (by have := locks_len h9 hg; rw [List.flatMap_cons, List.length_append] at this; unfold plocksE at this; first | omega | (simp; omega)) ?_
    intro ww3
    refine VO.perm swap1 ?_
    refine VO.one m1 fun ho4 => ?_
    refine VO.setV (cs' := [.raw ww3]) vt27 (.raw rfl (agg_one ho4) ho4) ?_
    refine VO.perm swap1 ?_
    refine VO.nil ?_
    exact .inl ⟨rfl, gs ++ x.2.2.2.1, ww3, rfl, (by rw [List.append_assoc]; exact hg)⟩
  · rintro _ ⟨gs, wg, rfl, hg⟩
    refine VC.seq (VC.text ?_)
    refine VO.r (.ldV m1 vt27) ?_
    refine VO.callG [(wg, .row 9 .str gs)] rfl rfl rfl (VFG.call (sDistinct_ok (by have := locks_len h9 hg; omega))) ?_
    rintro _ _ ⟨rfl, rfl⟩
    show VO _ _ _ _ _ _ [(ww1, .var [.raw wg])] _
    refine VO.c (.assign rfl) ?_
    refine VO.c (.assign rfl) ?_
    refine VO.go ?_
    refine VC.ret ?_
    exact VEnd.two rfl evT evT (pvE (by rw [if_pos (Classical.not_not.1 c2), lockedE_eq hg])) (pvI (by exact (Classical.not_not.1 c2).symm))
  rintro _ _ _ ⟨⟩
def busyF (l : List Permit) (m : Int × Int) (p : Permit) : Int × Int := if m.2 < ((outE l p.2.2.2.2.1).length : Int) ∨ (((outE l p.2.2.2.2.1).length : Int) = m.2 ∧ p.2.2.2.2.1 < m.1) then (p.2.2.2.2.1, ((outE l p.2.2.2.2.1).length : Int)) else m
def busyE (l : List Permit) (i : Nat) : Int × Int := (l.take i).foldl (busyF l) (0, 0)
theorem busy_t {l : List Permit} {i : Nat} (h : i < l.length) (hc : (busyE l i).2 < ((outE l l[i].2.2.2.2.1).length : Int) ∨ (((outE l l[i].2.2.2.2.1).length : Int) = (busyE l i).2 ∧ l[i].2.2.2.2.1 < (busyE l i).1)) : busyE l (i + 1) = (l[i].2.2.2.2.1, ((outE l l[i].2.2.2.2.1).length : Int)) := by
  have e : busyE l (i + 1) = busyF l (busyE l i) l[i] := by unfold busyE; rw [List.take_succ_eq_append_getElem h, List.foldl_append] <;> rfl
  rw [e]; exact if_pos hc
theorem busy_f {l : List Permit} {i : Nat} (h : i < l.length) (hc : ¬ ((busyE l i).2 < ((outE l l[i].2.2.2.2.1).length : Int) ∨ (((outE l l[i].2.2.2.2.1).length : Int) = (busyE l i).2 ∧ l[i].2.2.2.2.1 < (busyE l i).1))) : busyE l (i + 1) = busyE l i := by
  have e : busyE l (i + 1) = busyF l (busyE l i) l[i] := by unfold busyE; rw [List.take_succ_eq_append_getElem h, List.foldl_append] <;> rfl
  rw [e]; exact if_neg hc
def busyC (l : List Permit) : Int := firstE [permsE l, whenE (decide ((l.length : Int) = 0)) 12]
theorem sBusy_ok {l : List (ByteArray × ByteArray × ByteArray × (List ByteArray) × (Int × Int))} (hl : l.length < 5000) (hk : PermOk l) : VF Tryz.prog OA 71 [.v y43 l] (.tup [I (if busyC l = 0 then (busyE l l.length).1 else 0), I (if busyC l = 0 then (busyE l l.length).2 else 0), I (busyC l)]) := by
  refine VF.enter Tryz.func71 rfl (fun _ _ => rfl) rfl ?_
  show VC _ _ _ _ _ [(0, .v y43 l)] [] _
  refine VC.seq (VC.text ?_)
  refine VO.c (.assign rfl) ?_
  refine VO.c (.assign rfl) ?_
  refine VO.c (.assign rfl) ?_
  refine VO.go (VC.seq (VC.seq (VC.text ?_)))
  refine VO.c (.move rfl) ?_
  refine VO.call rfl rfl (VF.call (sPermits_ok (by first | assumption | omega | simp) (by first | assumption | omega | simp))) ?_
  refine VO.c (.move rfl) ?_
  refine VO.r (.len el43) ?_
  refine VO.c (.eql) ?_
  refine VO.call rfl rfl (VF.call (sWhen_ok )) ?_
  refine VO.new (.lit [permsE l, whenE (decide (((l.length : Nat) : Int) = (0 : Int))) (12 : Int)] el204) ?_
  refine VO.call rfl rfl (VF.call (sFirst_ok (by first | assumption | omega | simp))) ?_
  refine VO.c (.assign rfl) ?_
  refine VO.go (VC.seq (VC.text ?_))
  refine VO.c (.move rfl) ?_
  refine VO.c (.neq) ?_
  refine VO.go ?_
  refine VC.condD rfl (fun c2 => ?_) (fun c2 => ?_)
  · have hb : ¬ busyC l = 0 := c2
    refine VC.seq (VC.text ?_)
    refine VO.c (.move rfl) ?_
    refine VO.c (.assign rfl) ?_
    refine VO.c (.assign rfl) ?_
    refine VO.c (.assign rfl) ?_
    refine VO.go ?_
    refine VC.ret ?_
    exact VEnd.three rfl evT evT evT (pvI (by rw [if_neg hb])) (pvI (by rw [if_neg hb])) (pvI (by rfl))
  have hb : busyC l = 0 := Classical.not_not.1 c2
  refine VC.skip (VC.seq (VC.text ?_))
  refine VO.c (.assign rfl) ?_
  refine VO.c (.assign rfl) ?_
  refine VO.go (VC.seq (VC.seq (VC.text ?_)))
  refine VO.c (.move rfl) ?_
  refine VO.r (.len el43) ?_
  refine VO.c (.move rfl) ?_
  refine VO.go (VC.block ?_)
  refine VC.keep [(0, .v y43 l), (6, I ((busyE l 0).1)), (7, I ((busyE l 0).2)), (23, .v y43 l), (24, I ((l.length : Nat) : Int)), (25, I ((0 : Nat) : Int))] ⟨rfl, rfl, rfl, rfl, rfl, rfl, trivial⟩ ?_
  refine VC.loop (I := fun kk ff ss => ∃ (i : Nat), kk = l.length - i ∧ ff = [(0, .v y43 l), (6, I ((busyE l i).1)), (7, I ((busyE l i).2)), (23, .v y43 l), (24, I ((l.length : Nat) : Int)), (25, I ((i : Nat) : Int))] ∧ ss = [] ∧ (i ≤ l.length)) ?_ _ _ _ ⟨0, rfl, rfl, rfl, Nat.zero_le _⟩
  rintro kk ff ss ⟨i, hk0, rfl, rfl, hi⟩
  refine VC.seq (VC.text ?_)
  refine VO.c (.lss) ?_
  refine VO.go (VC.seq ?_)
  refine VC.condD rfl (fun c6 => ?_) (fun c6 => ?_)
  · refine VC.skip (VC.seq (VC.block (VC.seq (VC.text ?_))))
    refine VO.c (.ix (j := i) rfl rfl el43 (by omega)) ?_
    refine VO.r (.ld vt35) ?_
    refine VO.cell (.alloc zt35) ?_
    intro ww6
    refine VO.setV (cs' := [St ((l[i]).1), St ((l[i]).2.1), St ((l[i]).2.2.1), .v (.sl .str) ((l[i]).2.2.2.1), I (((l[i]).2.2.2.2).1), I (((l[i]).2.2.2.2).2)]) vt35 .v ?_
    refine VO.shut [(9, .p y35 (l[i]))] (.cons rfl (.var m0 .refl) .nil) ?_
    refine VO.go (VC.seq (VC.text ?_))
    refine VO.c (.fa (.r (.r (.r (.r .o))))) ?_
    refine VO.c (.fa (.l .o)) ?_
    refine VO.r (.ld vt3) ?_
    refine VO.c (.assign rfl) ?_
    refine VO.go (VC.seq (VC.text ?_))
    refine VO.c (.move rfl) ?_
    refine VO.c (.move rfl) ?_
    refine VO.call rfl rfl (VF.call (sOut_ok (by first | assumption | omega | simp))) ?_
    refine VO.r (.len el27) ?_
    refine VO.c (.assign rfl) ?_
    refine VO.go (VC.seq (VC.text ?_))
    refine VO.c (.move rfl) ?_
    refine VO.c (.move rfl) ?_
    refine VO.c (.gtr) ?_
    refine VO.c (.move rfl) ?_
    refine VO.splitD (x := 39) rfl (fun g10_3 => ?_) (fun g10_3 => ?_)
    · refine VO.skip ?_
      refine VO.skip ?_
      refine VO.skip ?_
      refine VO.skip ?_
      refine VO.skip ?_
      refine VO.skip ?_
      refine VO.skip ?_
      refine VO.skip ?_
      refine VO.c (.pickT rfl rfl) ?_
      refine VO.go ?_
      refine VC.condT rfl ?_
      refine VC.text ?_
      refine VO.c (.move rfl) ?_
      refine VO.c (.move rfl) ?_
      refine VO.c (.assign rfl) ?_
      refine VO.c (.assign rfl) ?_
      refine VO.nil (VC.text ?_)
      refine VO.c (.add rfl rfl (by omega)) ?_
      refine VO.c (.move rfl) ?_
      refine VO.nil ?_
      refine ⟨_, [(0, .v y43 l), (6, I ((busyE l (i + 1)).1)), (7, I ((busyE l (i + 1)).2)), (23, .v y43 l), (24, I ((l.length : Nat) : Int)), (25, I (((i + 1) : Nat) : Int))], ?_, ⟨rfl, slI rfl (by first | rw [busy_t (by omega) (.inl g10_3)] | rw [busy_t (by omega) (.inr c10)] | rw [busy_f (by omega) (fun h => h.elim g10_3 (fun h => c10.elim (fun h2 => h2 h.1) (fun h2 => h2 h.2)))]), slI rfl (by first | rw [busy_t (by omega) (.inl g10_3)] | rw [busy_t (by omega) (.inr c10)] | rw [busy_f (by omega) (fun h => h.elim g10_3 (fun h => c10.elim (fun h2 => h2 h.1) (fun h2 => h2 h.2)))]), rfl, rfl, rfl, trivial⟩, (i + 1), rfl, rfl, rfl, (by omega)⟩
      omega
    refine VO.c (.move rfl) ?_
    refine VO.c (.move rfl) ?_
    refine VO.c (.eql) ?_
    refine VO.c (.move rfl) ?_
    refine VO.cg (r := decide ((((outE l (((l[i]).2.2.2.2).1)).length : Nat) : Int) = ((busyE l i).2))) (w := true) [] trivial (fun hgd => have g10_7 : (((outE l (((l[i]).2.2.2.2).1)).length : Nat) : Int) = ((busyE l i).2) := (by simpa using hgd); (.move rfl)) ?_
    refine VO.cg (r := decide ((((outE l (((l[i]).2.2.2.2).1)).length : Nat) : Int) = ((busyE l i).2))) (w := true) [] trivial (fun hgd => have g10_7 : (((outE l (((l[i]).2.2.2.2).1)).length : Nat) : Int) = ((busyE l i).2) := (by simpa using hgd); (.move rfl)) ?_
    refine VO.cg (r := decide ((((outE l (((l[i]).2.2.2.2).1)).length : Nat) : Int) = ((busyE l i).2))) (w := true) [(44, I (((l[i]).2.2.2.2).1)), (45, I ((busyE l i).1))] ⟨rfl, rfl, trivial⟩ (fun hgd => have g10_7 : (((outE l (((l[i]).2.2.2.2).1)).length : Nat) : Int) = ((busyE l i).2) := (by simpa using hgd); (.lss)) ?_
    refine VO.c (.and) ?_
    refine VO.c (.pickF rfl rfl) ?_
    refine VO.go ?_
    refine VC.condB rfl (fun c10 => ?_) (fun c10 => ?_)
    · try simp only [Bool.and_eq_true, Bool.or_eq_true, Bool.and_eq_false_iff, Bool.or_eq_false_iff, Bool.not_eq_true', Bool.not_eq_false', decide_eq_true_eq, decide_eq_false_iff_not] at c10
      refine VC.text ?_
      refine VO.c (.move rfl) ?_
      refine VO.c (.move rfl) ?_
      refine VO.c (.assign rfl) ?_
      refine VO.c (.assign rfl) ?_
      refine VO.nil (VC.text ?_)
      refine VO.c (.add rfl rfl (by omega)) ?_
      refine VO.c (.move rfl) ?_
      refine VO.nil ?_
      refine ⟨_, [(0, .v y43 l), (6, I ((busyE l (i + 1)).1)), (7, I ((busyE l (i + 1)).2)), (23, .v y43 l), (24, I ((l.length : Nat) : Int)), (25, I (((i + 1) : Nat) : Int))], ?_, ⟨rfl, slI rfl (by first | rw [busy_t (by omega) (.inl g10_3)] | rw [busy_t (by omega) (.inr c10)] | rw [busy_f (by omega) (fun h => h.elim g10_3 (fun h => c10.elim (fun h2 => h2 h.1) (fun h2 => h2 h.2)))]), slI rfl (by first | rw [busy_t (by omega) (.inl g10_3)] | rw [busy_t (by omega) (.inr c10)] | rw [busy_f (by omega) (fun h => h.elim g10_3 (fun h => c10.elim (fun h2 => h2 h.1) (fun h2 => h2 h.2)))]), rfl, rfl, rfl, trivial⟩, (i + 1), rfl, rfl, rfl, (by omega)⟩
      omega
    try simp only [Bool.and_eq_true, Bool.or_eq_true, Bool.and_eq_false_iff, Bool.or_eq_false_iff, Bool.not_eq_true', Bool.not_eq_false', decide_eq_true_eq, decide_eq_false_iff_not] at c10
    refine VC.skip (VC.text ?_)
    refine VO.c (.add rfl rfl (by omega)) ?_
    refine VO.c (.move rfl) ?_
    refine VO.nil ?_
    refine ⟨_, [(0, .v y43 l), (6, I ((busyE l (i + 1)).1)), (7, I ((busyE l (i + 1)).2)), (23, .v y43 l), (24, I ((l.length : Nat) : Int)), (25, I (((i + 1) : Nat) : Int))], ?_, ⟨rfl, slI rfl (by first | rw [busy_t (by omega) (.inl g10_3)] | rw [busy_t (by omega) (.inr c10)] | rw [busy_f (by omega) (fun h => h.elim g10_3 (fun h => c10.elim (fun h2 => h2 h.1) (fun h2 => h2 h.2)))]), slI rfl (by first | rw [busy_t (by omega) (.inl g10_3)] | rw [busy_t (by omega) (.inr c10)] | rw [busy_f (by omega) (fun h => h.elim g10_3 (fun h => c10.elim (fun h2 => h2 h.1) (fun h2 => h2 h.2)))]), rfl, rfl, rfl, trivial⟩, (i + 1), rfl, rfl, rfl, (by omega)⟩
    omega
  refine VC.exit (VC.seq (VC.text ?_))
  refine VO.c (.move rfl) ?_
  refine VO.c (.move rfl) ?_
  refine VO.c (.assign rfl) ?_
  refine VO.c (.assign rfl) ?_
  refine VO.c (.assign rfl) ?_
  refine VO.go ?_
  refine VC.ret ?_
  exact VEnd.three rfl evT evT evT (pvI (by rw [if_pos hb, show i = l.length by omega])) (pvI (by rw [if_pos hb, show i = l.length by omega])) (pvI (by exact hb.symm))
theorem rBusy_ok {l : List (ByteArray × ByteArray × ByteArray × (List ByteArray) × (Int × Int))} (hl : l.length < 5000) : VF Tryz.prog OA 74 [.v y22 l] (.tup [I ((busyE l l.length).1), I ((busyE l l.length).2), I (whenE (decide ((l.length : Int) = 0)) 12)]) := by
  refine VF.enter Tryz.func74 rfl (fun _ _ => rfl) rfl ?_
  show VC _ _ _ _ _ [(0, .v y22 l)] [] _
  refine VC.seq (VC.text ?_)
  refine VO.c (.assign rfl) ?_
  refine VO.c (.assign rfl) ?_
  refine VO.c (.assign rfl) ?_
  refine VO.go (VC.seq (VC.seq (VC.text ?_)))
  refine VO.c (.move rfl) ?_
  refine VO.r (.len el22) ?_
  refine VO.c (.eql) ?_
  refine VO.go ?_
  refine VC.condD rfl (fun c1 => ?_) (fun c1 => ?_)
  · refine VC.seq (VC.text ?_)
    refine VO.c (.assign rfl) ?_
    refine VO.c (.assign rfl) ?_
    refine VO.c (.assign rfl) ?_
    refine VO.go ?_
    refine VC.ret ?_
    exact VEnd.three rfl evT evT evT (pvI (by rw [show l.length = 0 by omega] <;> rfl)) (pvI (by rw [show l.length = 0 by omega] <;> rfl)) (pvI (by rw [decide_eq_true c1] <;> rfl))
  refine VC.skip (VC.seq (VC.text ?_))
  refine VO.c (.assign rfl) ?_
  refine VO.c (.assign rfl) ?_
  refine VO.go (VC.seq (VC.seq (VC.text ?_)))
  refine VO.c (.assign rfl) ?_
  refine VO.go (VC.block ?_)
  refine VC.keep [(0, .v y22 l), (5, I ((busyE l 0).1)), (6, I ((busyE l 0).2)), (7, I ((0 : Nat) : Int))] ⟨rfl, rfl, rfl, rfl, trivial⟩ ?_
  refine VC.loop (I := fun kk ff ss => ∃ (i : Nat), kk = l.length - i ∧ ff = [(0, .v y22 l), (5, I ((busyE l i).1)), (6, I ((busyE l i).2)), (7, I ((i : Nat) : Int))] ∧ ss = [] ∧ (i ≤ l.length)) ?_ _ _ _ ⟨0, rfl, rfl, rfl, Nat.zero_le _⟩
  rintro kk ff ss ⟨i, hk0, rfl, rfl, hi⟩
  refine VC.seq (VC.seq (VC.text ?_))
  refine VO.c (.move rfl) ?_
  refine VO.c (.move rfl) ?_
  refine VO.r (.len el22) ?_
  refine VO.c (.lss) ?_
  refine VO.go ?_
  refine VC.condD rfl (fun c5 => ?_) (fun c5 => ?_)
  · refine VC.skip (VC.seq (VC.block (VC.seq (VC.text ?_))))
    refine VO.c (.move rfl) ?_
    refine VO.c (.move rfl) ?_
    refine VO.c (.ix (j := i) rfl rfl el22 (by omega)) ?_
    refine VO.c (.fa (.r (.r (.r (.r .o))))) ?_
    refine VO.c (.fa (.l .o)) ?_
    refine VO.r (.ld vt3) ?_
    refine VO.c (.assign rfl) ?_
    refine VO.go (VC.seq (VC.text ?_))
    refine VO.c (.move rfl) ?_
    refine VO.c (.move rfl) ?_
    refine VO.call rfl rfl (VF.call (rOut_ok (by first | assumption | omega | simp))) ?_
    refine VO.r (.len el27) ?_
    refine VO.c (.assign rfl) ?_
    refine VO.go (VC.seq (VC.text ?_))
    refine VO.c (.move rfl) ?_
    refine VO.c (.move rfl) ?_
    refine VO.c (.gtr) ?_
    refine VO.c (.move rfl) ?_
    refine VO.splitD (x := 32) rfl (fun g9_3 => ?_) (fun g9_3 => ?_)
    · refine VO.skip ?_
      refine VO.skip ?_
      refine VO.skip ?_
      refine VO.skip ?_
      refine VO.skip ?_
      refine VO.skip ?_
      refine VO.skip ?_
      refine VO.skip ?_
      refine VO.c (.pickT rfl rfl) ?_
      refine VO.go ?_
      refine VC.condT rfl ?_
      refine VC.text ?_
      refine VO.c (.move rfl) ?_
      refine VO.c (.move rfl) ?_
      refine VO.c (.assign rfl) ?_
      refine VO.c (.assign rfl) ?_
      refine VO.nil ?_
      refine VC.keep [(0, .v y22 l), (5, I (((l[i]).2.2.2.2).1)), (6, I (((outE l (((l[i]).2.2.2.2).1)).length : Nat) : Int)), (7, I ((i : Nat) : Int))] ⟨rfl, rfl, rfl, rfl, trivial⟩ ?_
      refine VC.text ?_
      refine VO.c (.move rfl) ?_
      refine VO.c (.add rfl rfl (by omega)) ?_
      refine VO.c (.assign rfl) ?_
      refine VO.nil ?_
      refine ⟨_, [(0, .v y22 l), (5, I ((busyE l (i + 1)).1)), (6, I ((busyE l (i + 1)).2)), (7, I (((i + 1) : Nat) : Int))], ?_, ⟨rfl, slI rfl (by first | rw [busy_t (by omega) (.inl g9_3)] | rw [busy_t (by omega) (.inr c9)] | rw [busy_f (by omega) (fun h => h.elim g9_3 (fun h => c9.elim (fun h2 => h2 h.1) (fun h2 => h2 h.2)))]), slI rfl (by first | rw [busy_t (by omega) (.inl g9_3)] | rw [busy_t (by omega) (.inr c9)] | rw [busy_f (by omega) (fun h => h.elim g9_3 (fun h => c9.elim (fun h2 => h2 h.1) (fun h2 => h2 h.2)))]), rfl, trivial⟩, (i + 1), rfl, rfl, rfl, (by omega)⟩
      omega
    refine VO.c (.move rfl) ?_
    refine VO.c (.move rfl) ?_
    refine VO.c (.eql) ?_
    refine VO.c (.move rfl) ?_
    refine VO.cg (r := decide ((((outE l (((l[i]).2.2.2.2).1)).length : Nat) : Int) = ((busyE l i).2))) (w := true) [] trivial (fun hgd => have g9_7 : (((outE l (((l[i]).2.2.2.2).1)).length : Nat) : Int) = ((busyE l i).2) := (by simpa using hgd); (.move rfl)) ?_
    refine VO.cg (r := decide ((((outE l (((l[i]).2.2.2.2).1)).length : Nat) : Int) = ((busyE l i).2))) (w := true) [] trivial (fun hgd => have g9_7 : (((outE l (((l[i]).2.2.2.2).1)).length : Nat) : Int) = ((busyE l i).2) := (by simpa using hgd); (.move rfl)) ?_
    refine VO.cg (r := decide ((((outE l (((l[i]).2.2.2.2).1)).length : Nat) : Int) = ((busyE l i).2))) (w := true) [(37, I (((l[i]).2.2.2.2).1)), (38, I ((busyE l i).1))] ⟨rfl, rfl, trivial⟩ (fun hgd => have g9_7 : (((outE l (((l[i]).2.2.2.2).1)).length : Nat) : Int) = ((busyE l i).2) := (by simpa using hgd); (.lss)) ?_
    refine VO.c (.and) ?_
    refine VO.c (.pickF rfl rfl) ?_
    refine VO.go ?_
    refine VC.condB rfl (fun c9 => ?_) (fun c9 => ?_)
    · try simp only [Bool.and_eq_true, Bool.or_eq_true, Bool.and_eq_false_iff, Bool.or_eq_false_iff, Bool.not_eq_true', Bool.not_eq_false', decide_eq_true_eq, decide_eq_false_iff_not] at c9
      refine VC.text ?_
      refine VO.c (.move rfl) ?_
      refine VO.c (.move rfl) ?_
      refine VO.c (.assign rfl) ?_
      refine VO.c (.assign rfl) ?_
      refine VO.nil (VC.text ?_)
      refine VO.c (.move rfl) ?_
      refine VO.c (.add rfl rfl (by omega)) ?_
      refine VO.c (.assign rfl) ?_
      refine VO.nil ?_
      refine ⟨_, [(0, .v y22 l), (5, I ((busyE l (i + 1)).1)), (6, I ((busyE l (i + 1)).2)), (7, I (((i + 1) : Nat) : Int))], ?_, ⟨rfl, slI rfl (by first | rw [busy_t (by omega) (.inl g9_3)] | rw [busy_t (by omega) (.inr c9)] | rw [busy_f (by omega) (fun h => h.elim g9_3 (fun h => c9.elim (fun h2 => h2 h.1) (fun h2 => h2 h.2)))]), slI rfl (by first | rw [busy_t (by omega) (.inl g9_3)] | rw [busy_t (by omega) (.inr c9)] | rw [busy_f (by omega) (fun h => h.elim g9_3 (fun h => c9.elim (fun h2 => h2 h.1) (fun h2 => h2 h.2)))]), rfl, trivial⟩, (i + 1), rfl, rfl, rfl, (by omega)⟩
      omega
    try simp only [Bool.and_eq_true, Bool.or_eq_true, Bool.and_eq_false_iff, Bool.or_eq_false_iff, Bool.not_eq_true', Bool.not_eq_false', decide_eq_true_eq, decide_eq_false_iff_not] at c9
    refine VC.skip (VC.text ?_)
    refine VO.c (.move rfl) ?_
    refine VO.c (.add rfl rfl (by omega)) ?_
    refine VO.c (.assign rfl) ?_
    refine VO.nil ?_
    refine ⟨_, [(0, .v y22 l), (5, I ((busyE l (i + 1)).1)), (6, I ((busyE l (i + 1)).2)), (7, I (((i + 1) : Nat) : Int))], ?_, ⟨rfl, slI rfl (by first | rw [busy_t (by omega) (.inl g9_3)] | rw [busy_t (by omega) (.inr c9)] | rw [busy_f (by omega) (fun h => h.elim g9_3 (fun h => c9.elim (fun h2 => h2 h.1) (fun h2 => h2 h.2)))]), slI rfl (by first | rw [busy_t (by omega) (.inl g9_3)] | rw [busy_t (by omega) (.inr c9)] | rw [busy_f (by omega) (fun h => h.elim g9_3 (fun h => c9.elim (fun h2 => h2 h.1) (fun h2 => h2 h.2)))]), rfl, trivial⟩, (i + 1), rfl, rfl, rfl, (by omega)⟩
    omega
  refine VC.exit (VC.seq (VC.text ?_))
  refine VO.c (.move rfl) ?_
  refine VO.c (.move rfl) ?_
  refine VO.c (.assign rfl) ?_
  refine VO.c (.assign rfl) ?_
  refine VO.c (.assign rfl) ?_
  refine VO.go ?_
  refine VC.ret ?_
  exact VEnd.three rfl evT evT evT (pvI (by rw [show i = l.length by omega])) (pvI (by rw [show i = l.length by omega])) (pvI (by rw [decide_eq_false c1] <;> rfl))
theorem locked_len {l : List Permit} {t : Int} (h : Few9 l) : (lockedE l t).length ≤ 9 * l.length := by
  have h1 := setE_len ((atE l t).flatMap plocksE)
  have h2 := flat9 (at9 (t := t) h)
  have h3 : (atE l t).length ≤ l.length := List.length_filter_le _ _
  have h1 : (lockedE l t).length ≤ ((atE l t).flatMap plocksE).length := h1
  omega
theorem putE_len {l : List ByteArray} {w : ByteArray} : (putE l w).length ≤ l.length + 1 := by
  unfold putE
  split
  · omega
  have : ∀ l : List ByteArray, (insE w l).length = l.length + 1 := fun l => by
    induction l with
    | nil => rfl
    | cons x l ih => unfold insE; split <;> simp [ih]
  rw [this]; exact Nat.le_refl _
theorem puts_len : ∀ {l b : List ByteArray}, (l.foldl putE b).length ≤ b.length + l.length
  | [], _ => Nat.le_refl _
  | w :: l, b => by
    have h1 := puts_len (l := l) (b := putE b w)
    have h2 := putE_len (l := b) (w := w)
    simp only [List.foldl_cons, List.length_cons]
    omega
def lkB (p : Permit) (t : Int) (b : List ByteArray) (k : Nat) : List ByteArray := if hasT p.2.2.2.2 t = true then (p.2.2.2.1.take k).foldl putE b else b
theorem lkB_len {p : Permit} {t : Int} {b : List ByteArray} {k : Nat} : (lkB p t b k).length ≤ b.length + k := by
  unfold lkB
  split
  · have := puts_len (l := p.2.2.2.1.take k) (b := b)
    have h2 := List.length_take_le k p.2.2.2.1
    omega
  omega
theorem lkB_put {p : Permit} {t : Int} {b : List ByteArray} {k : Nat} (hk : k < p.2.2.2.1.length) (ht : hasT p.2.2.2.2 t = true) : lkB p t b (k + 1) = putE (lkB p t b k) p.2.2.2.1[k] := by
  unfold lkB
  rw [if_pos ht, if_pos ht, List.take_succ_eq_append_getElem hk, List.foldl_append] <;> rfl
theorem lkB_all {p : Permit} {t : Int} {b : List ByteArray} {k : Nat} (h : p.2.2.2.1.length ≤ k ∨ hasT p.2.2.2.2 t = false) : lkB p t b k = lkB p t b p.2.2.2.1.length := by
  unfold lkB
  rcases h with h | h
  · rw [List.take_of_length_le h, List.take_length]
  rw [h] <;> rfl
theorem locked_step {l : List Permit} {t : Int} {i : Nat} (h : i < l.length) : lockedE (l.take (i + 1)) t = lkB l[i] t (lockedE (l.take i) t) l[i].2.2.2.1.length := by
  unfold lockedE setE atE lkB
  rw [List.take_succ_eq_append_getElem h, List.filter_append, List.flatMap_append, List.foldl_append, List.take_length]
  by_cases ht : hasT l[i].2.2.2.2 t = true
  · rw [if_pos ht]; simp [List.filter_cons, ht]
  rw [if_neg ht]; simp [List.filter_cons, ht]
theorem rLocked_ok {l : List (ByteArray × ByteArray × ByteArray × (List ByteArray) × (Int × Int))} {t : Int} (hl : l.length < 5000) (h9 : Few9 l) : VF Tryz.prog OA 76 [.v y22 l, I t] (.v (.sl .str) (lockedE l t)) := by
  refine VF.enter Tryz.func76 rfl (fun _ _ => rfl) rfl ?_
  show VC _ _ _ _ _ [(0, .v y22 l), (1, I t)] [] _
  refine VC.seq (VC.text ?_)
  refine VO.c (.assign rfl) ?_
  refine VO.go (VC.seq (VC.text ?_))
  refine VO.c (.assign rfl) ?_
  refine VO.go (VC.seq (VC.seq ?_))
  refine VC.nilD 5 .str rfl ?_
  refine VC.text ?_
  refine VO.c (.assign rfl) ?_
  refine VO.go (VC.block ?_)
  refine VC.keep [(0, .v y22 l), (1, I t), (5, .v (.sl .str) (lockedE (l.take 0) t)), (6, I ((0 : Nat) : Int))] ⟨rfl, rfl, rfl, rfl, trivial⟩ ?_
  refine VC.loop (I := fun kk ff ss => ∃ (i : Nat), kk = l.length - i ∧ ff = [(0, .v y22 l), (1, I t), (5, .v (.sl .str) (lockedE (l.take i) t)), (6, I ((i : Nat) : Int))] ∧ ss = [] ∧ (i ≤ l.length)) ?_ _ _ _ ⟨0, rfl, rfl, rfl, Nat.zero_le _⟩
  rintro kk ff ss ⟨i, hk0, rfl, rfl, hi⟩
  refine VC.seq (VC.seq (VC.text ?_))
  refine VO.c (.move rfl) ?_
  refine VO.c (.move rfl) ?_
  refine VO.r (.len el22) ?_
  refine VO.c (.lss) ?_
  refine VO.go ?_
  refine VC.condD rfl (fun c3 => ?_) (fun c3 => ?_)
  · have hil : i < l.length := by omega
    have h9i := h9 _ (List.getElem_mem hil)
    have hlk := locked_len (t := t) (l := l.take i) fun p hp => h9 p (List.mem_of_mem_take hp)
    have hlt := List.length_take_le i l
    refine VC.skip (VC.seq (VC.block (VC.seq (VC.text ?_))))
    refine VO.c (.assign rfl) ?_
    refine VO.go (VC.block ?_)
    refine VC.keep [(0, .v y22 l), (1, I t), (5, .v (.sl .str) (lkB l[i] t (lockedE (l.take i) t) 0)), (6, I ((i : Nat) : Int)), (7, I ((0 : Nat) : Int))] ⟨rfl, rfl, slE rfl (by unfold lkB; split <;> rfl), rfl, rfl, trivial⟩ ?_
    refine VC.loop (I := fun kk ff ss => ∃ (k : Nat), kk = (l[i]).2.2.2.1.length - k ∧ ff = [(0, .v y22 l), (1, I t), (5, .v (.sl .str) (lkB l[i] t (lockedE (l.take i) t) k)), (6, I ((i : Nat) : Int)), (7, I ((k : Nat) : Int))] ∧ ss = [] ∧ (k ≤ (l[i]).2.2.2.1.length)) ?_ _ _ _ ⟨0, rfl, rfl, rfl, (by omega)⟩
    rintro kk ff ss ⟨k, hk2, rfl, rfl, hk⟩
    have hlb := lkB_len (p := l[i]) (t := t) (b := lockedE (l.take i) t) (k := k)
    refine VC.seq (VC.seq (VC.text ?_))
    refine VO.c (.move rfl) ?_
    refine VO.c (.move rfl) ?_
    refine VO.c (.move rfl) ?_
    refine VO.c (.ix (j := i) rfl rfl el22 (by omega)) ?_
    refine VO.c (.fa (.r (.r (.r (.l .o))))) ?_
    refine VO.r (.ld vt27) ?_
    refine VO.r (.len el27) ?_
    refine VO.c (.lss) ?_
    refine VO.c (.move rfl) ?_
    refine VO.cg (r := decide (((k : Nat) : Int) < ((((l[i]).2.2.2.1).length : Nat) : Int))) (w := true) [] trivial (fun hgd => have g6_8 : ((k : Nat) : Int) < ((((l[i]).2.2.2.1).length : Nat) : Int) := (by simpa using hgd); (.move rfl)) ?_
    refine VO.cg (r := decide (((k : Nat) : Int) < ((((l[i]).2.2.2.1).length : Nat) : Int))) (w := true) [] trivial (fun hgd => have g6_8 : ((k : Nat) : Int) < ((((l[i]).2.2.2.1).length : Nat) : Int) := (by simpa using hgd); (.move rfl)) ?_
    refine VO.cg (r := decide (((k : Nat) : Int) < ((((l[i]).2.2.2.1).length : Nat) : Int))) (w := true) [(23, .v y22 l), (24, I ((i : Nat) : Int))] ⟨rfl, rfl, trivial⟩ (fun hgd => have g6_8 : ((k : Nat) : Int) < ((((l[i]).2.2.2.1).length : Nat) : Int) := (by simpa using hgd); (.ixD rfl rfl (ByteArray.empty, ByteArray.empty, ByteArray.empty, [], (0, 0)) el22 (by omega))) ?_
    refine VO.rg (r := decide (((k : Nat) : Int) < ((((l[i]).2.2.2.1).length : Nat) : Int))) (w := true) [(25, .p y31 (l.getD i (ByteArray.empty, ByteArray.empty, ByteArray.empty, [], (0, 0))))] ⟨rfl, trivial⟩ (fun hgd => have g6_8 : ((k : Nat) : Int) < ((((l[i]).2.2.2.1).length : Nat) : Int) := (by simpa using hgd); (.ld vt31)) ?_
    refine VO.cg (r := decide (((k : Nat) : Int) < ((((l[i]).2.2.2.1).length : Nat) : Int))) (w := true) [] trivial (fun hgd => have g6_8 : ((k : Nat) : Int) < ((((l[i]).2.2.2.1).length : Nat) : Int) := (by simpa using hgd); (.move rfl)) ?_
    refine VO.callg (r0 := decide (((k : Nat) : Int) < ((((l[i]).2.2.2.1).length : Nat) : Int))) (w := true) [(26, .v y31 (l.getD i (ByteArray.empty, ByteArray.empty, ByteArray.empty, [], (0, 0)))), (27, I t)] ⟨rfl, rfl, trivial⟩ rfl rfl .same .refl rfl (fun hgd => have g6_8 : ((k : Nat) : Int) < ((((l[i]).2.2.2.1).length : Nat) : Int) := (by simpa using hgd); VF.call (rAt_ok )) ?_
    refine VO.c (.and) ?_
    refine VO.go ?_
    refine VC.condB rfl (fun c6 => ?_) (fun c6 => ?_)
    · try simp only [Bool.and_eq_true, Bool.or_eq_true, Bool.and_eq_false_iff, Bool.or_eq_false_iff, Bool.not_eq_true', Bool.not_eq_false', decide_eq_true_eq, decide_eq_false_iff_not] at c6
      rw [getD_at hil] at c6
      refine VC.skip (VC.seq (VC.block (VC.text ?_)))
      refine VO.c (.move rfl) ?_
      refine VO.c (.move rfl) ?_
      refine VO.c (.move rfl) ?_
      refine VO.c (.ix (j := i) rfl rfl el22 (by omega)) ?_
      refine VO.c (.fa (.r (.r (.r (.l .o))))) ?_
      refine VO.r (.ld vt27) ?_
      refine VO.c (.move rfl) ?_
      refine VO.c (.ix (j := k) rfl rfl el27 (by omega)) ?_
      refine VO.r (.ld vt9) ?_
      refine VO.call rfl rfl (VF.call (rPut_ok (by first | assumption | omega | simp))) ?_
      refine VO.c (.assign rfl) ?_
      refine VO.nil (VC.text ?_)
      refine VO.c (.move rfl) ?_
      refine VO.c (.add rfl rfl (by omega)) ?_
      refine VO.c (.assign rfl) ?_
      refine VO.nil ?_
      refine ⟨_, [(0, .v y22 l), (1, I t), (5, .v (.sl .str) (lkB l[i] t (lockedE (l.take i) t) (k + 1))), (6, I ((i : Nat) : Int)), (7, I (((k + 1) : Nat) : Int))], ?_, ⟨rfl, rfl, slE rfl (by rw [lkB_put (by omega) c6.2]), rfl, rfl, trivial⟩, (k + 1), rfl, rfl, rfl, (by omega)⟩
      omega
    try simp only [Bool.and_eq_true, Bool.or_eq_true, Bool.and_eq_false_iff, Bool.or_eq_false_iff, Bool.not_eq_true', Bool.not_eq_false', decide_eq_true_eq, decide_eq_false_iff_not] at c6
    rw [getD_at hil] at c6
    refine VC.exit (VC.text ?_)
    refine VO.c (.move rfl) ?_
    refine VO.c (.add rfl rfl (by omega)) ?_
    refine VO.c (.assign rfl) ?_
    refine VO.nil ?_
    refine ⟨_, [(0, .v y22 l), (1, I t), (5, .v (.sl .str) (lockedE (l.take (i + 1)) t)), (6, I (((i + 1) : Nat) : Int))], ?_, ⟨rfl, rfl, slE rfl (by rw [locked_step hil, lkB_all (c6.elim (fun h => .inl (by omega)) .inr)]), rfl, trivial⟩, (i + 1), rfl, rfl, rfl, (by omega)⟩
    omega
  refine VC.exit (VC.seq (VC.text ?_))
  refine VO.c (.move rfl) ?_
  refine VO.c (.assign rfl) ?_
  refine VO.go ?_
  refine VC.ret ?_
  exact VEnd.one rfl evT (pvE (by rw [List.take_of_length_le (by omega)]))
abbrev Clsh := Int × Int × ByteArray
def pAt (l : List Permit) (i : Nat) : Permit := l.getD i (ByteArray.empty, ByteArray.empty, ByteArray.empty, [], 0, 0)
theorem pAt_eq {l : List Permit} {i : Nat} (h : i < l.length) : pAt l i = l[i] := getD_at h
def clsN (l : List Permit) (i k : Nat) : ByteArray := nameR (reasonIx (pAt l i) (pAt l k))
def clsAt (l : List Permit) (i k : Nat) : List Clsh := if clsN l i k = ByteArray.empty then [] else [((i : Int), (k : Int), clsN l i k)]
theorem clsAt_t {l : List Permit} {i k : Nat} (h : ¬ clsN l i k = ByteArray.empty) : clsAt l i k = [((i : Int), (k : Int), clsN l i k)] := if_neg h
theorem clsAt_f {l : List Permit} {i k : Nat} (h : clsN l i k = ByteArray.empty) : clsAt l i k = [] := if_pos h
theorem clsAt_len {l : List Permit} {i k : Nat} : (clsAt l i k).length ≤ 1 := by unfold clsAt; split <;> simp
theorem flat_len {α β : Type} {f : α → List β} {n : Nat} : ∀ {l : List α}, (∀ x ∈ l, (f x).length ≤ n) → (l.flatMap f).length ≤ l.length * n
  | [], _ => by simp
  | x :: l, h => by
    rw [List.flatMap_cons, List.length_append]
    have h1 := h x List.mem_cons_self
    have h2 := flat_len (l := l) fun y hy => h y (List.mem_cons_of_mem _ hy)
    simp only [List.length_cons, Nat.add_mul, Nat.one_mul]
    omega
def clRow (l : List Permit) (k i : Nat) : List Clsh := (List.range i).flatMap fun a => clsAt l a k
def clP (l : List Permit) (k : Nat) : List Clsh := (List.range k).flatMap fun b => clRow l b b
theorem clRow_succ {l : List Permit} {k i : Nat} : clRow l k (i + 1) = clRow l k i ++ clsAt l i k := by
  unfold clRow
  rw [List.range_succ, List.flatMap_append]; simp
theorem clP_succ {l : List Permit} {k : Nat} : clP l (k + 1) = clP l k ++ clRow l k k := by
  unfold clP
  rw [List.range_succ, List.flatMap_append]; simp
theorem clRow_len {l : List Permit} {k i : Nat} : (clRow l k i).length ≤ i := by
  have := flat_len (f := fun a => clsAt l a k) (n := 1) (l := List.range i) fun x _ => clsAt_len
  rw [List.length_range] at this
  unfold clRow; omega
theorem clP_len {l : List Permit} {k n : Nat} (h : k ≤ n) : (clP l k).length ≤ k * n := by
  have := flat_len (f := fun b => clRow l b b) (n := n) (l := List.range k) fun x hx => by
    have h1 := clRow_len (l := l) (k := x) (i := x)
    have h2 := List.mem_range.1 hx
    omega
  rwa [List.length_range] at this
def clUp (l : List Permit) (i d : Nat) : List Clsh := (List.range d).flatMap fun x => clsAt l i (i + 1 + x)
def clR (l : List Permit) (n i : Nat) : List Clsh := (List.range i).flatMap fun a => clUp l a (n - (a + 1))
theorem clUp_succ {l : List Permit} {i d : Nat} : clUp l i (d + 1) = clUp l i d ++ clsAt l i (i + 1 + d) := by
  unfold clUp
  rw [List.range_succ, List.flatMap_append]; simp
theorem clR_succ {l : List Permit} {n i : Nat} : clR l n (i + 1) = clR l n i ++ clUp l i (n - (i + 1)) := by
  unfold clR
  rw [List.range_succ, List.flatMap_append]; simp
theorem clUp_len {l : List Permit} {i d : Nat} : (clUp l i d).length ≤ d := by
  have := flat_len (f := fun x => clsAt l i (i + 1 + x)) (n := 1) (l := List.range d) fun x _ => clsAt_len
  rw [List.length_range] at this
  unfold clUp; omega
theorem clR_len {l : List Permit} {n i : Nat} : (clR l n i).length ≤ i * n := by
  have := flat_len (f := fun a => clUp l a (n - (a + 1))) (n := n) (l := List.range i) fun x _ => by
    have h1 := clUp_len (l := l) (i := x) (d := n - (x + 1))
    omega
  rwa [List.length_range] at this
theorem rClashes_ok {l : List (ByteArray × ByteArray × ByteArray × (List ByteArray) × (Int × Int))} (hl : l.length ≤ 100) (hk : PermOk l) (hv : PermV l) : VF Tryz.prog OA 73 [.v y22 l] (.v y117 (clR l l.length l.length)) := by
  refine VF.enter Tryz.func73 rfl (fun _ _ => rfl) rfl ?_
  show VC _ _ _ _ _ [(0, .v y22 l)] [] _
  refine VC.seq (VC.text ?_)
  refine VO.c (.assign rfl) ?_
  refine VO.go (VC.seq (VC.text ?_))
  refine VO.c (.assign rfl) ?_
  refine VO.go (VC.seq (VC.seq (VC.text ?_)))
  refine VO.c (.assign rfl) ?_
  refine VO.go (VC.block ?_)
  refine VC.cell0 188 y188 ?_
  refine VC.keep [(0, .v y22 l), (3, .raw (.slice none 0 0)), (4, I ((0 : Nat) : Int))] ⟨rfl, rfl, rfl, trivial⟩ ?_
  refine VC.loop (I := fun kk ff ss => ∃ (i : Nat) (out : Value), kk = l.length - i ∧ ff = [(0, .v y22 l), (3, .raw out), (4, I ((i : Nat) : Int))] ∧ ss = [(out, .row 188 y188 (clR l l.length i))] ∧ (i ≤ l.length)) ?_ _ _ _ ⟨0, (.slice none 0 0), rfl, rfl, rfl, Nat.zero_le _⟩
  rintro kk ff ss ⟨i, out, hk0, rfl, rfl, hi⟩
  refine VC.seq (VC.seq (VC.text ?_))
  refine VO.c (.move rfl) ?_
  refine VO.c (.move rfl) ?_
  refine VO.r (.len el22) ?_
  refine VO.c (.lss) ?_
  refine VO.go ?_
  refine VC.condD rfl (fun c3 => ?_) (fun c3 => ?_)
  · have hil : i < l.length := by omega
    have hki := hk _ (List.getElem_mem hil)
    have hvi := hv _ (List.getElem_mem hil)
    have hlc := clR_len (l := l) (n := l.length) (i := i)
    have hlm : i * l.length ≤ 100 * 100 := Nat.mul_le_mul (by omega) hl
    refine VC.skip (VC.seq (VC.block (VC.seq (VC.text ?_))))
    refine VO.c (.move rfl) ?_
    refine VO.c (.add rfl rfl (by omega)) ?_
    refine VO.c (.assign rfl) ?_
    refine VO.go (VC.block ?_)
    refine VC.keep [(0, .v y22 l), (3, .raw out), (4, I ((i : Nat) : Int)), (5, I (((i + 1 + 0) : Nat) : Int))] ⟨rfl, rfl, rfl, rfl, trivial⟩ ?_
    refine VC.loop (I := fun kk ff ss => ∃ (d : Nat) (out2 : Value), kk = l.length - (i + 1 + d) ∧ ff = [(0, .v y22 l), (3, .raw out2), (4, I ((i : Nat) : Int)), (5, I (((i + 1 + d) : Nat) : Int))] ∧ ss = [(out2, .row 188 y188 (clR l l.length i ++ clUp l i d))] ∧ (i + 1 + d ≤ l.length)) ?_ _ _ _ ⟨0, out, rfl, rfl, (by rw [show clUp l i 0 = [] from rfl, List.append_nil]), (by omega)⟩
    rintro kk ff ss ⟨d, out2, hk2, rfl, rfl, hd⟩
    refine VC.seq (VC.seq (VC.text ?_))
    refine VO.c (.move rfl) ?_
    refine VO.c (.move rfl) ?_
    refine VO.r (.len el22) ?_
    refine VO.c (.lss) ?_
    refine VO.go ?_
    refine VC.condD rfl (fun c6 => ?_) (fun c6 => ?_)
    · have hdl : i + 1 + d < l.length := by omega
      have hkd := hk _ (List.getElem_mem hdl)
      have hvd := hv _ (List.getElem_mem hdl)
      have hlu := clUp_len (l := l) (i := i) (d := d)
      have hnm : nameR (reasonIx l[i] l[i + 1 + d]) = clsN l i (i + 1 + d) := by unfold clsN; rw [pAt_eq hil, pAt_eq hdl]
      refine VC.skip (VC.seq (VC.block (VC.seq (VC.drawn ?_))))
      refine VD.c (.move rfl) ?_
      refine VD.c (.move rfl) ?_
      refine VD.c (.ix (j := i) rfl rfl el22 (by omega)) ?_
      refine VD.r [] (.ld vt31) (.inl rfl) ?_
      refine VD.c (.move rfl) ?_
      refine VD.c (.move rfl) ?_
      refine VD.nw [] ?_
      refine VD.c (.ix (j := (i + 1 + d)) rfl rfl el22 (by omega)) ?_
      refine VD.r [] (.ld vt31) (.inl rfl) ?_
      refine VD.call rfl rfl (VF.call (rExclude_ok (by first | assumption | omega | simp) (by first | assumption | omega | simp) (by first | assumption | omega | simp) (by first | assumption | omega | simp))) ?_
      refine VD.c (.assign rfl) ?_
      refine VD.go (VC.seq (VC.text ?_))
      refine VO.c (.move rfl) ?_
      refine VO.c (.sneq) ?_
      refine VO.go ?_
      refine VC.condD rfl (fun c9 => ?_) (fun c9 => ?_)
      · refine VC.text ?_
        refine VO.c (.move rfl) ?_
        refine VO.c (.move rfl) ?_
        refine VO.c (.move rfl) ?_
        refine VO.c (.move rfl) ?_
        refine VO.c (.build (((i : Nat) : Int), (((i + 1 + d) : Nat) : Int), nameR (reasonIx (l[i]) (l[(i + 1 + d)]))) bt188) ?_
        refine VO.new (.lit [(((i : Nat) : Int), (((i + 1 + d) : Nat) : Int), nameR (reasonIx (l[i]) (l[(i + 1 + d)])))] el117) ?_
        refine VO.app rfl rfl el117 el117 (by simp; omega) ?_
        intro ww7
        refine VO.c (.assign rfl) ?_
        refine VO.nil (VC.text ?_)
        refine VO.c (.move rfl) ?_
        refine VO.c (.add rfl rfl (by omega)) ?_
        refine VO.c (.assign rfl) ?_
        refine VO.nil ?_
        refine ⟨_, [(0, .v y22 l), (3, .raw ww7), (4, I ((i : Nat) : Int)), (5, I (((i + 1 + (d + 1)) : Nat) : Int))], ?_, ⟨rfl, rfl, rfl, rfl, trivial⟩, (d + 1), ww7, rfl, rfl, (by first | rw [clUp_succ, clsAt_t (show ¬ _ = _ by rw [← hnm]; exact c9), ← hnm, List.append_assoc] | rw [clUp_succ, clsAt_f (hnm.symm.trans (Classical.not_not.1 c9)), List.append_nil]), (by omega)⟩
        omega
      refine VC.skip (VC.text ?_)
      refine VO.c (.move rfl) ?_
      refine VO.c (.add rfl rfl (by omega)) ?_
      refine VO.c (.assign rfl) ?_
      refine VO.nil ?_
      refine ⟨_, [(0, .v y22 l), (3, .raw out2), (4, I ((i : Nat) : Int)), (5, I (((i + 1 + (d + 1)) : Nat) : Int))], ?_, ⟨rfl, rfl, rfl, rfl, trivial⟩, (d + 1), out2, rfl, rfl, (by first | rw [clUp_succ, clsAt_t (show ¬ _ = _ by rw [← hnm]; exact c9), ← hnm, List.append_assoc] | rw [clUp_succ, clsAt_f (hnm.symm.trans (Classical.not_not.1 c9)), List.append_nil]), (by omega)⟩
      omega
    refine VC.exit (VC.text ?_)
    refine VO.c (.move rfl) ?_
    refine VO.c (.add rfl rfl (by omega)) ?_
    refine VO.c (.assign rfl) ?_
    refine VO.nil ?_
    refine ⟨_, [(0, .v y22 l), (3, .raw out2), (4, I (((i + 1) : Nat) : Int))], ?_, ⟨rfl, rfl, rfl, trivial⟩, (i + 1), out2, rfl, rfl, (by rw [clR_succ, show d = l.length - (i + 1) by omega]), (by omega)⟩
    omega
  refine VC.exit (VC.seq (VC.text ?_))
  refine VO.c (.move rfl) ?_
  refine VO.c (.assign rfl) ?_
  refine VO.go ?_
  refine VC.ret ?_
  exact VEnd.one rfl (evC (.row m0)) (pvE (by rw [show i = l.length by omega]))
theorem zSortC_ok {w_l : Value} {l : List Clsh} (hl : l.length ≤ 1000000) : VFG Tryz.prog OA 137 [.raw w_l, .clo 138 [] []] [(w_l, .row 127 (.pair (.int .i64) (.pair (.int .i64) .str)) l)] (fun r g => r = .tup [] ∧ g = [(w_l, .row 127 (.pair (.int .i64) (.pair (.int .i64) .str)) (sortC l))]) := VFG.sortC hl
theorem sClashes_ok {l : List (ByteArray × ByteArray × ByteArray × (List ByteArray) × (Int × Int))} (hl : l.length ≤ 100) (hk : PermOk l) : VF Tryz.prog OA 68 [.v y43 l] (.tup [.v y110 (if permsE l = 0 then sortC (clP l l.length) else []), I (permsE l)]) := by
  refine VF.enter Tryz.func68 rfl (fun _ _ => rfl) rfl ?_
  show VC _ _ _ _ _ [(0, .v y43 l)] [] _
  refine VC.seq (VC.text ?_)
  refine VO.c (.assign rfl) ?_
  refine VO.c (.assign rfl) ?_
  refine VO.go (VC.seq (VC.seq (VC.text ?_)))
  refine VO.c (.move rfl) ?_
  refine VO.call rfl rfl (VF.call (sPermits_ok (by first | assumption | omega | simp) (by first | assumption | omega | simp))) ?_
  refine VO.c (.assign rfl) ?_
  refine VO.go (VC.seq (VC.text ?_))
  refine VO.c (.move rfl) ?_
  refine VO.c (.neq) ?_
  refine VO.go ?_
  refine VC.condD rfl (fun c2 => ?_) (fun c2 => ?_)
  · refine VC.seq (VC.text ?_)
    refine VO.c (.move rfl) ?_
    refine VO.c (.assign rfl) ?_
    refine VO.c (.assign rfl) ?_
    refine VO.go ?_
    refine VC.ret ?_
    exact VEnd.two rfl (evC .nil) evT (pvE (by rw [if_neg c2])) (pvI (by rfl))
  refine VC.skip (VC.seq (VC.text ?_))
  refine VO.c (.assign rfl) ?_
  refine VO.go (VC.seq (VC.seq (VC.text ?_)))
  refine VO.c (.move rfl) ?_
  refine VO.r (.len el43) ?_
  refine VO.c (.move rfl) ?_
  refine VO.go (VC.block ?_)
  refine VC.cell0 127 y127 ?_
  refine VC.keep [(0, .v y43 l), (5, .raw (.slice none 0 0)), (16, .v y43 l), (17, I ((l.length : Nat) : Int)), (18, I ((0 : Nat) : Int))] ⟨rfl, rfl, rfl, rfl, rfl, trivial⟩ ?_
  refine VC.loop (I := fun kk ff ss => ∃ (k : Nat) (out : Value), kk = l.length - k ∧ ff = [(0, .v y43 l), (5, .raw out), (16, .v y43 l), (17, I ((l.length : Nat) : Int)), (18, I ((k : Nat) : Int))] ∧ ss = [(out, .row 127 y127 (clP l k))] ∧ (k ≤ l.length)) ?_ _ _ _ ⟨0, (.slice none 0 0), rfl, rfl, rfl, Nat.zero_le _⟩
  rintro kk ff ss ⟨k, out, hk0, rfl, rfl, hkm⟩
  refine VC.seq (VC.text ?_)
  refine VO.c (.lss) ?_
  refine VO.go (VC.seq ?_)
  refine VC.condD rfl (fun c6 => ?_) (fun c6 => ?_)
  · have hkl : k < l.length := by omega
    have hkk := hk _ (List.getElem_mem hkl)
    have hlc := clP_len (l := l) (k := k) (n := l.length) (by omega)
    have hlm : k * l.length ≤ 100 * 100 := Nat.mul_le_mul (by omega) hl
    have hlt : (l.take k).length = k := by rw [List.length_take]; omega
    refine VC.skip (VC.seq (VC.block (VC.seq (VC.text ?_))))
    refine VO.c (.move rfl) ?_
    refine VO.c (.ix (j := k) rfl rfl el43 (by omega)) ?_
    refine VO.r (.ld vt35) ?_
    refine VO.cell (.alloc zt35) ?_
    intro ww8
    refine VO.c (.assign rfl) ?_
    refine VO.setV (cs' := [St ((l[k]).1), St ((l[k]).2.1), St ((l[k]).2.2.1), .v (.sl .str) ((l[k]).2.2.2.1), I (((l[k]).2.2.2.2).1), I (((l[k]).2.2.2.2).2)]) vt35 .v ?_
    refine VO.shut [(7, .p y35 (l[k]))] (.cons rfl (.var m0 .refl) .nil) ?_
    refine VO.go (VC.seq (VC.text ?_))
    refine VO.c (.move rfl) ?_
    refine VO.c (.move rfl) ?_
    refine VO.r (.cutH rfl rfl el43 (by omega)) ?_
    rw [Int.toNat_natCast]
    refine VO.r (.len el43) ?_
    refine VO.c (.move rfl) ?_
    refine VO.go (VC.block ?_)
    refine VC.keep [(0, .v y43 l), (5, .raw out), (6, I ((k : Nat) : Int)), (7, .p y35 (l[k])), (16, .v y43 l), (17, I ((l.length : Nat) : Int)), (18, I ((k : Nat) : Int)), (25, .v y43 (l.take k)), (26, I (((l.take k).length : Nat) : Int)), (27, I ((0 : Nat) : Int))] ⟨rfl, rfl, rfl, rfl, rfl, rfl, rfl, rfl, rfl, rfl, trivial⟩ ?_
    refine VC.loop (I := fun kk ff ss => ∃ (i : Nat) (out2 : Value), kk = k - i ∧ ff = [(0, .v y43 l), (5, .raw out2), (6, I ((k : Nat) : Int)), (7, .p y35 (l[k])), (16, .v y43 l), (17, I ((l.length : Nat) : Int)), (18, I ((k : Nat) : Int)), (25, .v y43 (l.take k)), (26, I (((l.take k).length : Nat) : Int)), (27, I ((i : Nat) : Int))] ∧ ss = [(out2, .row 127 y127 (clP l k ++ clRow l k i))] ∧ (i ≤ k)) ?_ _ _ _ ⟨0, out, rfl, rfl, (by rw [show clRow l k 0 = [] from rfl, List.append_nil]), Nat.zero_le _⟩
    rintro kk ff ss ⟨i, out2, hk2, rfl, rfl, hi⟩
    refine VC.seq (VC.text ?_)
    refine VO.c (.lss) ?_
    refine VO.go (VC.seq ?_)
    refine VC.condD rfl (fun c9 => ?_) (fun c9 => ?_)
    · have hik : i < k := by omega
      have hil : i < l.length := by omega
      have hgi : (l.take k)[i]'(by omega) = l[i] := List.getElem_take
      have hki := hk _ (List.getElem_mem hil)
      have hnm : (reasonR (reasonIx ((l.take k)[i]'(by omega)) l[k])).1 = clsN l i k := by rw [hgi, reasonR_name]; unfold clsN; rw [pAt_eq hil, pAt_eq hkl]
      have hlr := clRow_len (l := l) (k := k) (i := i)
      refine VC.skip (VC.seq (VC.block (VC.seq (VC.text ?_))))
      refine VO.c (.move rfl) ?_
      refine VO.c (.ix (j := i) rfl rfl el43 (by omega)) ?_
      refine VO.r (.ld vt35) ?_
      refine VO.cell (.alloc zt35) ?_
      intro ww9
      refine VO.c (.assign rfl) ?_
      refine VO.setV (cs' := [St (((l.take k)[i]).1), St (((l.take k)[i]).2.1), St (((l.take k)[i]).2.2.1), .v (.sl .str) (((l.take k)[i]).2.2.2.1), I ((((l.take k)[i]).2.2.2.2).1), I ((((l.take k)[i]).2.2.2.2).2)]) vt35 .v ?_
      refine VO.shut [(9, .p y35 ((l.take k)[i]))] (.cons rfl (.var m0 .refl) .nil) ?_
      refine VO.go (VC.seq (VC.text ?_))
      refine VO.r (.ld vt35) ?_
      refine VO.r (.ld vt35) ?_
      refine VO.call rfl rfl (VF.call (sExcl_ok (by rw [hgi]; exact hki) hkk)) ?_
      refine VO.cell (.alloc zt140) ?_
      intro ww10
      refine VO.setV (cs' := [St ((reasonR (reasonIx ((l.take k)[i]) (l[k]))).1), .v .fn ((reasonR (reasonIx ((l.take k)[i]) (l[k]))).2.1), I ((reasonR (reasonIx ((l.take k)[i]) (l[k]))).2.2)]) vt140 .v ?_
      refine VO.shut [(10, .p y140 (reasonR (reasonIx ((l.take k)[i]) (l[k]))))] (.cons rfl (.var m0 .refl) .nil) ?_
      refine VO.go (VC.seq (VC.text ?_))
      refine VO.c (.fa (.l .o)) ?_
      refine VO.r (.ld vt9) ?_
      refine VO.c (.sneq) ?_
      refine VO.go ?_
      refine VC.condD rfl (fun c12 => ?_) (fun c12 => ?_)
      · refine VC.text ?_
        refine VO.c (.move rfl) ?_
        refine VO.c (.move rfl) ?_
        refine VO.c (.move rfl) ?_
        refine VO.c (.fa (.l .o)) ?_
        refine VO.r (.ld vt9) ?_
        refine VO.c (.build (((i : Nat) : Int), ((k : Nat) : Int), (reasonR (reasonIx ((l.take k)[i]) (l[k]))).1) bt127) ?_
        refine VO.new (.lit [(((i : Nat) : Int), ((k : Nat) : Int), (reasonR (reasonIx ((l.take k)[i]) (l[k]))).1)] el110) ?_
        refine VO.app rfl rfl el110 el110 (by simp; omega) ?_
        intro ww11
        refine VO.c (.assign rfl) ?_
        refine VO.nil (VC.text ?_)
        refine VO.c (.add rfl rfl (by omega)) ?_
        refine VO.c (.move rfl) ?_
        refine VO.nil ?_
        refine ⟨_, [(0, .v y43 l), (5, .raw ww11), (6, I ((k : Nat) : Int)), (7, .p y35 (l[k])), (16, .v y43 l), (17, I ((l.length : Nat) : Int)), (18, I ((k : Nat) : Int)), (25, .v y43 (l.take k)), (26, I (((l.take k).length : Nat) : Int)), (27, I (((i + 1) : Nat) : Int))], ?_, ⟨rfl, rfl, rfl, rfl, rfl, rfl, rfl, rfl, rfl, rfl, trivial⟩, (i + 1), ww11, rfl, rfl, (by first | rw [clRow_succ, clsAt_t (show ¬ _ = _ by rw [← hnm]; exact c12), ← hnm, List.append_assoc] | rw [clRow_succ, clsAt_f (hnm.symm.trans (Classical.not_not.1 c12)), List.append_nil]), (by omega)⟩
        omega
      refine VC.skip (VC.text ?_)
      refine VO.c (.add rfl rfl (by omega)) ?_
      refine VO.c (.move rfl) ?_
      refine VO.nil ?_
      refine ⟨_, [(0, .v y43 l), (5, .raw out2), (6, I ((k : Nat) : Int)), (7, .p y35 (l[k])), (16, .v y43 l), (17, I ((l.length : Nat) : Int)), (18, I ((k : Nat) : Int)), (25, .v y43 (l.take k)), (26, I (((l.take k).length : Nat) : Int)), (27, I (((i + 1) : Nat) : Int))], ?_, ⟨rfl, rfl, rfl, rfl, rfl, rfl, rfl, rfl, rfl, rfl, trivial⟩, (i + 1), out2, rfl, rfl, (by first | rw [clRow_succ, clsAt_t (show ¬ _ = _ by rw [← hnm]; exact c12), ← hnm, List.append_assoc] | rw [clRow_succ, clsAt_f (hnm.symm.trans (Classical.not_not.1 c12)), List.append_nil]), (by omega)⟩
      omega
    refine VC.exit (VC.text ?_)
    refine VO.c (.add rfl rfl (by omega)) ?_
    refine VO.c (.move rfl) ?_
    refine VO.nil ?_
    refine ⟨_, [(0, .v y43 l), (5, .raw out2), (16, .v y43 l), (17, I ((l.length : Nat) : Int)), (18, I (((k + 1) : Nat) : Int))], ?_, ⟨rfl, rfl, rfl, rfl, rfl, trivial⟩, (k + 1), out2, rfl, rfl, (by rw [clP_succ, show i = k by omega]), (by omega)⟩
    omega
  have hlc := clP_len (l := l) (k := k) (n := l.length) (by omega)
  have hlm : k * l.length ≤ 100 * 100 := Nat.mul_le_mul (by omega) hl
  refine VC.exit (VC.seq (VC.text ?_))
  refine VO.c (.move rfl) ?_
  refine VO.callG [(out, .row 127 y127 (clP l k))] rfl rfl rfl (VFG.call (zSortC_ok (by first | assumption | omega | simp))) ?_
  rintro _ _ ⟨rfl, rfl⟩
  show VO _ _ _ _ _ _ [(out, .row 127 y127 (sortC (clP l k)))] _
  refine VO.go (VC.seq (VC.text ?_))
  refine VO.c (.move rfl) ?_
  refine VO.c (.assign rfl) ?_
  refine VO.c (.assign rfl) ?_
  refine VO.go ?_
  refine VC.ret ?_
  exact VEnd.two rfl (evC (.row m0)) evT (pvE (by rw [if_pos (Classical.not_not.1 c2), show k = l.length by omega])) (pvI (by exact (Classical.not_not.1 c2).symm))
theorem rSameCl_ok {a : List (Int × Int × ByteArray)} {b : List (Int × Int × ByteArray)} (ha : a.length < 1000000) (hb : b.length < 1000000) : VF Tryz.prog OA 77 [.v y117 a, .v y117 b] (B (decide (a = b))) := by
  refine VF.enter Tryz.func77 rfl (fun _ _ => rfl) rfl ?_
  show VC _ _ _ _ _ [(0, .v y117 a), (1, .v y117 b)] [] _
  refine VC.seq (VC.text ?_)
  refine VO.c (.assign rfl) ?_
  refine VO.go (VC.seq (VC.seq (VC.text ?_)))
  refine VO.c (.move rfl) ?_
  refine VO.r (.len el117) ?_
  refine VO.c (.move rfl) ?_
  refine VO.r (.len el117) ?_
  refine VO.c (.neq) ?_
  refine VO.go ?_
  refine VC.condD rfl (fun c1 => ?_) (fun c1 => ?_)
  · refine VC.seq (VC.text ?_)
    refine VO.c (.assign rfl) ?_
    refine VO.go ?_
    refine VC.ret ?_
    exact VEnd.one rfl evT (pvE (by exact (decide_eq_false (same_noV c1)).symm))
  refine VC.skip (VC.seq (VC.seq (VC.text ?_)))
  refine VO.c (.assign rfl) ?_
  refine VO.go (VC.block ?_)
  refine VC.keep [(0, .v y117 a), (1, .v y117 b), (5, I ((0 : Nat) : Int))] ⟨rfl, rfl, rfl, trivial⟩ ?_
  refine VC.loop (I := fun kk ff ss => ∃ (j : Nat), kk = a.length - j ∧ ff = [(0, .v y117 a), (1, .v y117 b), (5, I ((j : Nat) : Int))] ∧ ss = [] ∧ (j ≤ a.length) ∧ (a.length = b.length) ∧ (∀ k (h : k < a.length) (h2 : k < b.length), k < j → a[k] = b[k])) ?_ _ _ _ ⟨0, rfl, rfl, rfl, Nat.zero_le _, (by omega), (by exact fun k _ _ h => absurd h (by omega))⟩
  rintro kk ff ss ⟨j, hk0, rfl, rfl, hj, hl, hi⟩
  refine VC.seq (VC.seq (VC.text ?_))
  refine VO.c (.move rfl) ?_
  refine VO.c (.move rfl) ?_
  refine VO.r (.len el117) ?_
  refine VO.c (.lss) ?_
  refine VO.go ?_
  refine VC.condD rfl (fun c4 => ?_) (fun c4 => ?_)
  · refine VC.skip (VC.seq (VC.block (VC.seq (VC.drawn ?_))))
    refine VD.c (.move rfl) ?_
    refine VD.c (.move rfl) ?_
    refine VD.c (.ix (j := j) rfl rfl el117 (by omega)) ?_
    refine VD.r [] (.ld vt188) (.inl rfl) ?_
    refine VD.c (.move rfl) ?_
    refine VD.c (.move rfl) ?_
    refine VD.nw [] ?_
    refine VD.c (.ix (j := j) rfl rfl el117 (by omega)) ?_
    refine VD.r [] (.ld vt188) (.inl rfl) ?_
    refine VD.c (.eneq eq188) ?_
    refine VD.go ?_
    refine VC.condD rfl (fun c6 => ?_) (fun c6 => ?_)
    · refine VC.seq (VC.text ?_)
      refine VO.c (.assign rfl) ?_
      refine VO.go ?_
      refine VC.ret ?_
      exact VEnd.one rfl evT (pvE (by exact (decide_eq_false (fun h => c6 (List.getElem_of_eq h _))).symm))
    refine VC.skip (VC.text ?_)
    refine VO.c (.move rfl) ?_
    refine VO.c (.add rfl rfl (by omega)) ?_
    refine VO.c (.assign rfl) ?_
    refine VO.nil ?_
    refine ⟨_, [(0, .v y117 a), (1, .v y117 b), (5, I (((j + 1) : Nat) : Int))], ?_, ⟨rfl, rfl, rfl, trivial⟩, (j + 1), rfl, rfl, rfl, (by omega), (by omega), (by exact same_goV hi c6)⟩
    omega
  refine VC.exit (VC.seq (VC.text ?_))
  refine VO.c (.assign rfl) ?_
  refine VO.go ?_
  refine VC.ret ?_
  exact VEnd.one rfl evT (pvE (by exact (decide_eq_true (List.ext_getElem hl (fun k h h2 => hi k h h2 (by omega)))).symm))
theorem lClashes_ok {l : List (Int × Int × ByteArray)} (hl : l.length < 100000) : VF Tryz.prog OA 78 [.v y110 l] (.v y117 l) := by
  refine VF.enter Tryz.func78 rfl (fun _ _ => rfl) rfl ?_
  show VC _ _ _ _ _ [(0, .v y110 l)] [] _
  refine VC.seq (VC.text ?_)
  refine VO.c (.assign rfl) ?_
  refine VO.go (VC.seq (VC.text ?_))
  refine VO.c (.assign rfl) ?_
  refine VO.go (VC.seq (VC.seq (VC.text ?_)))
  refine VO.c (.move rfl) ?_
  refine VO.r (.len el110) ?_
  refine VO.c (.move rfl) ?_
  refine VO.go (VC.block ?_)
  refine VC.cell0 188 y188 ?_
  refine VC.keep [(3, .raw (.slice none 0 0)), (6, .v y110 l), (7, I ((l.length : Nat) : Int)), (8, I ((0 : Nat) : Int))] ⟨rfl, rfl, rfl, rfl, trivial⟩ ?_
  refine VC.loop (I := fun kk ff ss => ∃ (i : Nat) (out : Value), kk = l.length - i ∧ ff = [(3, .raw out), (6, .v y110 l), (7, I ((l.length : Nat) : Int)), (8, I ((i : Nat) : Int))] ∧ ss = [(out, .row 188 y188 (l.take i))] ∧ (i ≤ l.length)) ?_ _ _ _ ⟨0, (.slice none 0 0), rfl, rfl, rfl, Nat.zero_le _⟩
  rintro kk ff ss ⟨i, out, hk0, rfl, rfl, hi⟩
  refine VC.seq (VC.text ?_)
  refine VO.c (.lss) ?_
  refine VO.go (VC.seq ?_)
  refine VC.condD rfl (fun c3 => ?_) (fun c3 => ?_)
  · refine VC.skip (VC.seq (VC.block (VC.seq (VC.text ?_))))
    refine VO.c (.ix (j := i) rfl rfl el110 (by omega)) ?_
    refine VO.r (.ld vt127) ?_
    refine VO.cell (.alloc zt127) ?_
    intro ww13
    refine VO.setV (cs' := [I ((l[i]).1), I ((l[i]).2.1), St ((l[i]).2.2)]) vt127 .v ?_
    refine VO.shut [(5, .p y127 (l[i]))] (.cons rfl (.var m0 .refl) .nil) ?_
    refine VO.go (VC.text ?_)
    refine VO.c (.move rfl) ?_
    refine VO.r (.ld vt127) ?_
    refine VO.new (.lit [l[i]] el117) ?_
    refine VO.app rfl rfl el117 el117 (by simp; omega) ?_
    intro ww14
    refine VO.c (.assign rfl) ?_
    refine VO.nil (VC.text ?_)
    refine VO.c (.add rfl rfl (by omega)) ?_
    refine VO.c (.move rfl) ?_
    refine VO.nil ?_
    refine ⟨_, [(3, .raw ww14), (6, .v y110 l), (7, I ((l.length : Nat) : Int)), (8, I (((i + 1) : Nat) : Int))], ?_, ⟨rfl, rfl, rfl, rfl, trivial⟩, (i + 1), ww14, rfl, rfl, (by rw [List.take_succ_eq_append_getElem (by omega)]), (by omega)⟩
    omega
  refine VC.exit (VC.seq (VC.text ?_))
  refine VO.c (.move rfl) ?_
  refine VO.c (.assign rfl) ?_
  refine VO.go ?_
  refine VC.ret ?_
  exact VEnd.one rfl (evC (.row m0)) (pvE (by rw [List.take_of_length_le (by omega)]))
end Go.Proofs
