/- Runs told by what the slots tell: slices and nil. No condition. Runs told by what the slots tell: ranges over functions. No condition. -/
import Derived.Test.YtednnfllcafliaaGreatDoorP5
set_option linter.all false
namespace Go.Proofs
open Go.Fs Ieee
set_option linter.unusedVariables false
abbrev y104 : Ty := (.sl (.pair .str (.int .i64)))
abbrev y106 : Ty := (.pair (.int .i64) (.pair (.int .i64) (.pair (.int .i64) (.sl (.pair .str (.int .i64))))))
abbrev y205 : Ty := (.mp .str (.int .i64))
abbrev y210 : Ty := (.pair .str (.int .i64))
theorem vt9 : ValT Tryz.prog 9 .str := valT_of (by kernel_rfl)
theorem vt104 : ValT Tryz.prog 104 y104 := valT_of (by kernel_rfl)
theorem vt210 : ValT Tryz.prog 210 y210 := valT_of (by kernel_rfl)
theorem el104 : ElT Tryz.prog 104 210 y210 := elT_of (by kernel_rfl)
theorem zt4 : ZerT Tryz.prog 4 .bool := zerT_of (z := .bool false) (by kernel_rfl) rfl rfl
theorem zt210 : ZerT Tryz.prog 210 y210 := zerT_of (z := .agg #[.string ByteArray.empty, .int .i64 0]) (by kernel_rfl) rfl rfl
theorem mt205 : MapT Tryz.prog 205 .str (.int .i64) := ⟨9, 3, by kernel_rfl, keyStr (by kernel_rfl), zt3⟩
theorem mt238 : MapT Tryz.prog 238 .str .bool := ⟨9, 4, by kernel_rfl, keyStr (by kernel_rfl), zt4⟩
/-! ## Members -/
abbrev Mems := List (ByteArray × Int)
def nmE (l : Mems) (i : Nat) : ByteArray := (l.map (·.1)).getD i ByteArray.empty
def wgtE (l : Mems) (i : Nat) : Int := (l.map (·.2)).getD i 0
theorem nmE_eq {l : Mems} {i : Nat} (h : i < l.length) : l[i].1 = nmE l i := by simp [nmE, h]
theorem wgtE_eq {l : Mems} {i : Nat} (h : i < l.length) : l[i].2 = wgtE l i := by simp [wgtE, h]
def knownM (l : Mems) : Nat → List (ByteArray × Bool)
  | 0 => []
  | i + 1 => mset (knownM l i) (nmE l i) true
def idxM (l : Mems) : Nat → List (ByteArray × Int)
  | 0 => []
  | i + 1 => mset (idxM l i) (nmE l i) (i : Int)
theorem mget_mset {α β : Type} [DecidableEq α] : ∀ (m : List (α × β)) (x z : α) (y : β), mget (mset m x y) z = if z = x then some y else mget m z
  | [], x, z, y => by simp [mset, mget]
  | (k, v) :: r, x, z, y => by
    by_cases h : x = k
    · subst h
      simp only [mset, if_pos, mget]
      split <;> rfl
    · simp only [mset, if_neg h, mget, mget_mset r x z y]
      by_cases h2 : z = k
      · rw [if_pos h2, if_pos h2, if_neg (fun e => h (e.symm.trans h2))]
      · rw [if_neg h2, if_neg h2]
theorem known_iff {l : Mems} {x : ByteArray} : ∀ (i : Nat), (mget (knownM l i) x).getD false = true ↔ ∃ k, k < i ∧ nmE l k = x
  | 0 => by simp [knownM, mget]
  | i + 1 => by
    rw [knownM, mget_mset]
    by_cases h : x = nmE l i
    · rw [if_pos h]
      simp only [Option.getD_some, true_iff]
      exact ⟨i, by omega, h.symm⟩
    · rw [if_neg h, known_iff i]
      constructor
      · rintro ⟨k, h1, h2⟩; exact ⟨k, by omega, h2⟩
      · rintro ⟨k, h1, h2⟩
        rcases Nat.lt_succ_iff_lt_or_eq.1 h1 with h3 | h3
        · exact ⟨k, h3, h2⟩
        · subst h3; exact absurd h2.symm h
def memE (l : Mems) (i : Nat) : Int := firstE [whenE (!nameB (nmE l i)) 8, rangeE (wgtE l i) 1 1000, whenE ((mget (knownM l i) (nmE l i)).getD false) 9]
theorem memX {l : Mems} {i : Nat} (h : i < l.length) : firstE [whenE (!nameB l[i].1) 8, rangeE l[i].2 1 1000, whenE ((mget (knownM l i) l[i].1).getD false) 9] = memE l i := by rw [nmE_eq h, wgtE_eq h] <;> rfl
def domP (d : Int × Int × Int × Mems) : Int := firstE [rangeE d.1 1 8, rangeE d.2.1 1 8, rangeE d.2.2.1 1 96, whenE (decide ((d.2.2.2.length : Int) = 0)) 12, whenE (decide ((16 : Int) < d.2.2.2.length)) 5]
def domE (d : Int × Int × Int × Mems) : Int := if domP d = 0 then firstE ((List.range d.2.2.2.length).map (memE d.2.2.2)) else domP d
theorem firstE_range {f : Nat → Int} {n i : Nat} (hi : i < n) (hz : ∀ k, k < i → f k = 0) (h : f i ≠ 0) : f i = firstE ((List.range n).map f) := by
  have e : List.range n = List.range i ++ (i :: (List.range' (i + 1) (n - i - 1))) := by
    apply List.ext_getElem
    · simp; omega
    · intro k h1 h2
      rw [List.getElem_append]
      by_cases hk : k < i
      · simp [hk]
      · simp only [List.length_range, hk, dite_false, List.getElem_range, List.getElem_cons]
        by_cases h3 : k - i = 0
        · simp [h3]; omega
        · simp [h3]; omega
  have h0 : firstE ((List.range i).map f) = 0 := firstE_zero.2 fun x hx => by
    obtain ⟨k, h1, rfl⟩ := List.mem_map.1 hx
    exact hz k (List.mem_range.1 h1)
  rw [e, List.map_append, firstE_app, if_pos h0, List.map_cons, firstE]
  simp [h]
theorem firstE_range0 {f : Nat → Int} {n : Nat} (hz : ∀ k, k < n → f k = 0) : 0 = firstE ((List.range n).map f) := (firstE_zero.2 fun x hx => by
  obtain ⟨k, h1, rfl⟩ := List.mem_map.1 hx
  exact hz k (List.mem_range.1 h1)).symm
theorem domP_len {d : Int × Int × Int × Mems} (h : domP d = 0) : d.2.2.2.length ≤ 16 ∧ d.2.2.2.length ≠ 0 := by
  unfold domP at h
  rw [firstE_zero] at h
  constructor
  · have := whenE_zero (by decide) (h _ (List.mem_cons_of_mem _ (List.mem_cons_of_mem _ (List.mem_cons_of_mem _ (List.mem_cons_of_mem _ List.mem_cons_self)))))
    omega
  · have := whenE_zero (by decide) (h _ (List.mem_cons_of_mem _ (List.mem_cons_of_mem _ (List.mem_cons_of_mem _ List.mem_cons_self))))
    omega
theorem sDom_ok {d : Int × Int × Int × (List (ByteArray × Int))} : VF Tryz.prog OA 80 [.v y106 d] (I (domE d)) := by
  refine VF.enter Tryz.func80 rfl (fun _ _ => rfl) rfl ?_
  show VC _ _ _ _ _ [(0, .v y106 d)] [] _
  refine VC.seq ?_
  refine VC.text ?_
  refine VO.new (.box) ?_
  refine VO.c (.assign rfl) ?_
  refine VO.go ?_
  refine VC.seq ?_
  refine VC.seq ?_
  refine VC.drawn ?_
  refine VD.c (.fa (.l .o)) ?_
  refine VD.r [] (.ld vt3) (.inl rfl) ?_
  refine VD.call rfl rfl (VF.call (sWithin_ok )) ?_
  refine VD.c (.fa (.r (.l .o))) ?_
  refine VD.r [] (.ld vt3) (.inl rfl) ?_
  refine VD.call rfl rfl (VF.call (sWithin_ok )) ?_
  refine VD.nw [] ?_
  refine VD.c (.fa (.r (.r (.l .o)))) ?_
  refine VD.r [] (.ld vt3) (.inl rfl) ?_
  refine VD.call rfl rfl (VF.call (sWithin_ok )) ?_
  refine VD.c (.fa (.r (.r (.r .o)))) ?_
  refine VD.r [] (.ld vt104) (.inl rfl) ?_
  refine VD.r [] (.len el104) (.inl rfl) ?_
  refine VD.c (.eql) ?_
  refine VD.nw [] ?_
  refine VD.call rfl rfl (VF.call (sWhen_ok )) ?_
  refine VD.c (.fa (.r (.r (.r .o)))) ?_
  refine VD.r [] (.ld vt104) (.inl rfl) ?_
  refine VD.r [] (.len el104) (.inl rfl) ?_
  refine VD.c (.gtr) ?_
  refine VD.call rfl rfl (VF.call (sWhen_ok )) ?_
  refine VD.new (.lit [rangeE d.1 (1 : Int) (8 : Int), rangeE d.2.1 (1 : Int) (8 : Int), rangeE d.2.2.1 (1 : Int) (96 : Int), whenE (decide (((d.2.2.2.length : Nat) : Int) = (0 : Int))) (12 : Int), whenE (decide ((16 : Int) < ((d.2.2.2.length : Nat) : Int))) (5 : Int)] el179) ?_
  refine VD.nw [27] ?_
  refine VD.callO rfl rfl (VF.call (sFirst_ok (by first | assumption | omega | simp))) ?_
  refine VD.c (.assign rfl) ?_
  refine VD.go ?_
  refine VC.seq ?_
  refine VC.text ?_
  refine VO.c (.move rfl) ?_
  refine VO.c (.neq) ?_
  refine VO.go ?_
  refine VC.condD rfl (fun c2 => ?_) (fun c2 => ?_)
  · have c2' : ¬ domP d = 0 := c2
    refine VC.seq ?_
    refine VC.text ?_
    refine VO.c (.move rfl) ?_
    refine VO.c (.assign rfl) ?_
    refine VO.go ?_
    refine VC.ret ?_
    exact VEnd.one rfl evT (pvI (by rw [domE, if_neg c2'] <;> rfl))
  · have c2' : domP d = 0 := by simpa [domP] using c2
    have hl := (domP_len c2').1
    refine VC.skip ?_
    show VC _ _ _ _ _ _ _ _
    refine VC.seq ?_
    refine VC.text ?_
    refine VO.cell (.mkMap .str .bool) ?_
    intro ww1
    refine VO.c (.assign rfl) ?_
    refine VO.go ?_
    refine VC.seq ?_
    refine VC.seq ?_
    refine VC.text ?_
    refine VO.c (.fa (.r (.r (.r .o)))) ?_
    refine VO.r (.ld vt104) ?_
    refine VO.r (.len el104) ?_
    refine VO.c (.move rfl) ?_
    refine VO.go ?_
    refine VC.block ?_
    refine VC.keep [(4, .raw ww1), (34, .v y104 d.2.2.2), (35, I ((d.2.2.2.length : Nat) : Int)), (36, I ((0 : Nat) : Int))] ⟨rfl, rfl, rfl, rfl, trivial⟩ ?_
    refine VC.loop (I := fun kk ff ss => ∃ (i : Nat), kk = d.2.2.2.length - i ∧ ff = [(4, .raw ww1), (34, .v y104 d.2.2.2), (35, I ((d.2.2.2.length : Nat) : Int)), (36, I ((i : Nat) : Int))] ∧ ss = [(ww1, .mp .str .bool (knownM d.2.2.2 i))] ∧ (i ≤ d.2.2.2.length) ∧ (∀ k, k < i → memE d.2.2.2 k = 0)) ?_ _ _ _ ⟨0, rfl, rfl, rfl, Nat.zero_le _, (by intro k hk; omega)⟩
    rintro kk ff ss ⟨i, hk0, rfl, rfl, hi, hz⟩
    refine VC.seq ?_
    refine VC.text ?_
    refine VO.c (.lss) ?_
    refine VO.go ?_
    refine VC.seq ?_
    refine VC.condD rfl (fun c6 => ?_) (fun c6 => ?_)
    · refine VC.skip ?_
      show VC _ _ _ _ _ _ _ _
      refine VC.seq ?_
      refine VC.block ?_
      refine VC.seq ?_
      refine VC.text ?_
      refine VO.c (.ix (j := i) rfl rfl el104 (by omega)) ?_
      refine VO.r (.ld vt210) ?_
      refine VO.cell (.alloc zt210) ?_
      intro ww2
      refine VO.setV (cs' := [St ((d.2.2.2[i]).1), I ((d.2.2.2[i]).2)]) vt210 .v ?_
      refine VO.shut [(6, .p y210 (d.2.2.2[i]))] (.cons rfl (.var m0 .refl) .nil) ?_
      refine VO.go ?_
      refine VC.seq ?_
      refine VC.seq ?_
      refine VC.drawn ?_
      refine VD.c (.fa (.l .o)) ?_
      refine VD.r [] (.ld vt9) (.inl rfl) ?_
      refine VD.call rfl rfl (VF.call (gName_ok )) ?_
      refine VD.c (.not) ?_
      refine VD.call rfl rfl (VF.call (sWhen_ok )) ?_
      refine VD.c (.fa (.r .o)) ?_
      refine VD.nw [] ?_
      refine VD.r [] (.ld vt3) (.inl rfl) ?_
      refine VD.call rfl rfl (VF.call (sWithin_ok )) ?_
      refine VD.c (.move rfl) ?_
      refine VD.c (.fa (.l .o)) ?_
      refine VD.r [] (.ld vt9) (.inl rfl) ?_
      refine VD.r [(ww1, .mp .str .bool (knownM d.2.2.2 i))] (.lookO mt238 m0) (.inr ⟨rfl, rfl⟩) ?_
      refine VD.call rfl rfl (VF.call (sWhen_ok )) ?_
      refine VD.nw [] ?_
      refine VD.new (.lit [whenE (!(nameB ((d.2.2.2[i]).1))) (8 : Int), rangeE ((d.2.2.2[i]).2) (1 : Int) (1000 : Int), whenE ((mget (knownM d.2.2.2 i) ((d.2.2.2[i]).1)).getD false) (9 : Int)] el179) ?_
      refine VD.callO rfl rfl (VF.call (sFirst_ok (by first | assumption | omega | simp))) ?_
      refine VD.c (.assign rfl) ?_
      refine VD.go ?_
      refine VC.seq ?_
      refine VC.text ?_
      refine VO.c (.move rfl) ?_
      refine VO.c (.neq) ?_
      refine VO.go ?_
      refine VC.condD rfl (fun c9 => ?_) (fun c9 => ?_)
      · have hm : ¬ memE d.2.2.2 i = 0 := by rw [← memX (by omega)]; exact c9
        refine VC.seq ?_
        refine VC.text ?_
        refine VO.c (.move rfl) ?_
        refine VO.c (.assign rfl) ?_
        refine VO.go ?_
        refine VC.ret ?_
        exact VEnd.one rfl evT (pvI (by rw [domE, if_pos c2', ← firstE_range (by omega) hz hm, ← memX (by omega)]))
      · have hm : memE d.2.2.2 i = 0 := by rw [← memX (by omega)]; simpa using c9
        refine VC.skip ?_
        show VC _ _ _ _ _ _ _ _
        refine VC.text ?_
        refine VO.c (.move rfl) ?_
        refine VO.c (.fa (.l .o)) ?_
        refine VO.r (.ld vt9) ?_
        refine VO.mput mt238 ?_
        refine VO.nil ?_
        show VC _ _ _ _ _ _ _ _
        refine VC.text ?_
        refine VO.c (.add rfl rfl (by omega)) ?_
        refine VO.c (.move rfl) ?_
        refine VO.nil ?_
        refine ⟨_, [(4, .raw ww1), (34, .v y104 d.2.2.2), (35, I ((d.2.2.2.length : Nat) : Int)), (36, I (((i + 1) : Nat) : Int))], ?_, ⟨rfl, rfl, rfl, rfl, trivial⟩, (i + 1), rfl, rfl, (by rw [knownM, nmE_eq]), (by omega), (by intro k hk; rcases Nat.lt_succ_iff_lt_or_eq.1 hk with h | h; exact hz k h; subst h; exact hm)⟩
        omega
    · refine VC.exit ?_
      show VC _ _ _ _ _ _ _ _
      refine VC.seq ?_
      refine VC.text ?_
      refine VO.c (.assign rfl) ?_
      refine VO.go ?_
      refine VC.ret ?_
      exact VEnd.one rfl evT (pvI (by rw [domE, if_pos c2']; exact firstE_range0 (fun k hk => hz k (by omega))))
theorem sMems_ok {d : Int × Int × Int × (List (ByteArray × Int))} (hl : d.2.2.2.length ≤ 16) : VF Tryz.prog OA 126 [.v y106 d] (.v y205 (idxM d.2.2.2 d.2.2.2.length)) := by
  refine VF.enter Tryz.func126 rfl (fun _ _ => rfl) rfl ?_
  show VC _ _ _ _ _ [(0, .v y106 d)] [] _
  refine VC.seq ?_
  refine VC.text ?_
  refine VO.new (.box) ?_
  refine VO.c (.assign rfl) ?_
  refine VO.go ?_
  refine VC.seq ?_
  refine VC.text ?_
  refine VO.cell (.mkMap .str (.int .i64)) ?_
  intro ww3
  refine VO.c (.assign rfl) ?_
  refine VO.go ?_
  refine VC.seq ?_
  refine VC.seq ?_
  refine VC.text ?_
  refine VO.c (.fa (.r (.r (.r .o)))) ?_
  refine VO.r (.ld vt104) ?_
  refine VO.r (.len el104) ?_
  refine VO.c (.move rfl) ?_
  refine VO.go ?_
  refine VC.block ?_
  refine VC.keep [(3, .raw ww3), (8, .v y104 d.2.2.2), (9, I ((d.2.2.2.length : Nat) : Int)), (10, I ((0 : Nat) : Int))] ⟨rfl, rfl, rfl, rfl, trivial⟩ ?_
  refine VC.loop (I := fun kk ff ss => ∃ (i : Nat), kk = d.2.2.2.length - i ∧ ff = [(3, .raw ww3), (8, .v y104 d.2.2.2), (9, I ((d.2.2.2.length : Nat) : Int)), (10, I ((i : Nat) : Int))] ∧ ss = [(ww3, .mp .str (.int .i64) (idxM d.2.2.2 i))] ∧ (i ≤ d.2.2.2.length)) ?_ _ _ _ ⟨0, rfl, rfl, rfl, Nat.zero_le _⟩
  rintro kk ff ss ⟨i, hk0, rfl, rfl, hi⟩
  refine VC.seq ?_
  refine VC.text ?_
  refine VO.c (.lss) ?_
  refine VO.go ?_
  refine VC.seq ?_
  refine VC.condD rfl (fun c3 => ?_) (fun c3 => ?_)
  · refine VC.skip ?_
    show VC _ _ _ _ _ _ _ _
    refine VC.seq ?_
    refine VC.block ?_
    refine VC.seq ?_
    refine VC.text ?_
    refine VO.c (.move rfl) ?_
    refine VO.c (.ix (j := i) rfl rfl el104 (by omega)) ?_
    refine VO.r (.ld vt210) ?_
    refine VO.cell (.alloc zt210) ?_
    intro ww4
    refine VO.c (.assign rfl) ?_
    refine VO.setV (cs' := [St ((d.2.2.2[i]).1), I ((d.2.2.2[i]).2)]) vt210 .v ?_
    refine VO.shut [(5, .p y210 (d.2.2.2[i]))] (.cons rfl (.var m0 .refl) .nil) ?_
    refine VO.go ?_
    refine VC.text ?_
    refine VO.c (.move rfl) ?_
    refine VO.c (.fa (.l .o)) ?_
    refine VO.r (.ld vt9) ?_
    refine VO.c (.move rfl) ?_
    refine VO.mput mt205 ?_
    refine VO.nil ?_
    show VC _ _ _ _ _ _ _ _
    refine VC.text ?_
    refine VO.c (.add rfl rfl (by omega)) ?_
    refine VO.c (.move rfl) ?_
    refine VO.nil ?_
    refine ⟨_, [(3, .raw ww3), (8, .v y104 d.2.2.2), (9, I ((d.2.2.2.length : Nat) : Int)), (10, I (((i + 1) : Nat) : Int))], ?_, ⟨rfl, rfl, rfl, rfl, trivial⟩, (i + 1), rfl, rfl, (by rw [idxM, nmE_eq]), (by omega)⟩
    omega
  · refine VC.exit ?_
    show VC _ _ _ _ _ _ _ _
    refine VC.seq ?_
    refine VC.text ?_
    refine VO.c (.move rfl) ?_
    refine VO.c (.assign rfl) ?_
    refine VO.go ?_
    refine VC.ret ?_
    exact VEnd.one rfl (evC (.mp m0)) (pvE (by rw [show i = d.2.2.2.length by omega]))
end Go.Proofs
namespace Go.Proofs
open Go.Fs Ieee
set_option linter.unusedVariables false
abbrev y95 : Ty := (.pair (.int .i64) (.pair (.int .i64) (.pair (.int .i64) (.sl (.pair .str (.int .i64))))))
theorem vt93 : ValT Tryz.prog 93 (.sl (.pair .str (.int .i64))) := valT_of (by kernel_rfl)
theorem el93 : ElT Tryz.prog 93 203 (.pair .str (.int .i64)) := elT_of (by kernel_rfl)
/-! ## The reference's domains -/
theorem mem_pre {l : Mems} {i : Nat} (h : i < l.length) : memE l i = if firstE [whenE (!nameB l[i].1) 8, rangeE l[i].2 1 1000] = 0 then whenE ((mget (knownM l i) (nmE l i)).getD false) 9 else firstE [whenE (!nameB l[i].1) 8, rangeE l[i].2 1 1000] := by
  have e : memE l i = firstE ([whenE (!nameB l[i].1) 8, rangeE l[i].2 1 1000] ++ [whenE ((mget (knownM l i) (nmE l i)).getD false) 9]) := by rw [nmE_eq h, wgtE_eq h] <;> rfl
  rw [e, firstE_app, firstE_one]
theorem mem_nine {l : Mems} {i k : Nat} (h : i < l.length) (hk : k < i) (h0 : firstE [whenE (!nameB l[i].1) 8, rangeE l[i].2 1 1000] = 0) (e : l[k].1 = l[i].1) : memE l i = 9 := by
  rw [mem_pre h, if_pos h0, (known_iff i).2 ⟨k, hk, by rw [← nmE_eq (by omega), ← nmE_eq h]; exact e⟩] <;> rfl
theorem mem_zero {l : Mems} {i : Nat} (h : i < l.length) (h0 : firstE [whenE (!nameB l[i].1) 8, rangeE l[i].2 1 1000] = 0) (e : ∀ k (hk : k < i), ¬ l[k].1 = l[i].1) : memE l i = 0 := by
  rw [mem_pre h, if_pos h0]
  cases hb : (mget (knownM l i) (nmE l i)).getD false with
  | false => rfl
  | true =>
    obtain ⟨k, hk, h2⟩ := (known_iff i).1 hb
    rw [← nmE_eq (by omega), ← nmE_eq h] at h2
    exact absurd h2 (e k hk)
theorem domP_pre {d : Int × Int × Int × Mems} : domP d = if firstE [rangeE d.1 1 8, rangeE d.2.1 1 8, rangeE d.2.2.1 1 96] = 0 then (if (d.2.2.2.length : Int) = 0 then 12 else if (16 : Int) < d.2.2.2.length then 5 else 0) else firstE [rangeE d.1 1 8, rangeE d.2.1 1 8, rangeE d.2.2.1 1 96] := by
  have e : domP d = firstE ([rangeE d.1 1 8, rangeE d.2.1 1 8, rangeE d.2.2.1 1 96] ++ [whenE (decide ((d.2.2.2.length : Int) = 0)) 12, whenE (decide ((16 : Int) < d.2.2.2.length)) 5]) := rfl
  rw [e, firstE_app]
  congr 1
  by_cases h1 : (d.2.2.2.length : Int) = 0
  · rw [whenE_t h1, if_pos h1] <;> rfl
  · rw [whenE_f h1, if_neg h1]
    by_cases h2 : (16 : Int) < d.2.2.2.length
    · rw [whenE_t h2, if_pos h2] <;> rfl
    · rw [whenE_f h2, if_neg h2] <;> rfl
theorem rDom_ok {d : Int × Int × Int × (List (ByteArray × Int))} : VF Tryz.prog OA 81 [.v y95 d] (I (domE d)) := by
  refine VF.enter Tryz.func81 rfl (fun _ _ => rfl) rfl ?_
  show VC _ _ _ _ _ [(0, .v y95 d)] [] _
  refine VC.seq ?_
  refine VC.text ?_
  refine VO.new (.box) ?_
  refine VO.c (.assign rfl) ?_
  refine VO.go ?_
  refine VC.seq ?_
  refine VC.seq ?_
  refine VC.drawn ?_
  refine VD.c (.fa (.l .o)) ?_
  refine VD.r [] (.ld vt3) (.inl rfl) ?_
  refine VD.call rfl rfl (VF.call (rCheckRange_ok )) ?_
  refine VD.c (.fa (.r (.l .o))) ?_
  refine VD.r [] (.ld vt3) (.inl rfl) ?_
  refine VD.call rfl rfl (VF.call (rCheckRange_ok )) ?_
  refine VD.nw [] ?_
  refine VD.c (.fa (.r (.r (.l .o)))) ?_
  refine VD.r [] (.ld vt3) (.inl rfl) ?_
  refine VD.call rfl rfl (VF.call (rCheckRange_ok )) ?_
  refine VD.new (.lit [rangeE d.1 (1 : Int) (8 : Int), rangeE d.2.1 (1 : Int) (8 : Int), rangeE d.2.2.1 (1 : Int) (96 : Int)] el22) ?_
  refine VD.callO rfl rfl (VF.call (rFirst_ok (by first | assumption | omega | simp))) ?_
  refine VD.c (.assign rfl) ?_
  refine VD.go ?_
  refine VC.seq ?_
  refine VC.text ?_
  refine VO.c (.move rfl) ?_
  refine VO.c (.neq) ?_
  refine VO.go ?_
  refine VC.condD rfl (fun c2 => ?_) (fun c2 => ?_)
  · have hp : domP d ≠ 0 := by rw [domP_pre, if_neg c2]; exact c2
    refine VC.seq ?_
    refine VC.text ?_
    refine VO.c (.move rfl) ?_
    refine VO.c (.assign rfl) ?_
    refine VO.go ?_
    refine VC.ret ?_
    exact VEnd.one rfl evT (pvI (by rw [domE, if_neg hp, domP_pre, if_neg c2]))
  · have c2' : firstE [rangeE d.1 1 8, rangeE d.2.1 1 8, rangeE d.2.2.1 1 96] = 0 := by simpa using c2
    refine VC.skip ?_
    show VC _ _ _ _ _ _ _ _
    refine VC.seq ?_
    refine VC.seq ?_
    refine VC.text ?_
    refine VO.c (.fa (.r (.r (.r .o)))) ?_
    refine VO.r (.ld vt93) ?_
    refine VO.r (.len el93) ?_
    refine VO.c (.eql) ?_
    refine VO.go ?_
    refine VC.condD rfl (fun c4 => ?_) (fun c4 => ?_)
    · refine VC.seq ?_
      refine VC.text ?_
      refine VO.c (.assign rfl) ?_
      refine VO.go ?_
      refine VC.ret ?_
      exact VEnd.one rfl evT (pvI (by rw [domE, domP_pre, if_pos c2', if_pos c4] <;> rfl))
    · refine VC.skip ?_
      show VC _ _ _ _ _ _ _ _
      refine VC.seq ?_
      refine VC.seq ?_
      refine VC.text ?_
      refine VO.c (.fa (.r (.r (.r .o)))) ?_
      refine VO.r (.ld vt93) ?_
      refine VO.r (.len el93) ?_
      refine VO.c (.gtr) ?_
      refine VO.go ?_
      refine VC.condD rfl (fun c6 => ?_) (fun c6 => ?_)
      · refine VC.seq ?_
        refine VC.text ?_
        refine VO.c (.assign rfl) ?_
        refine VO.go ?_
        refine VC.ret ?_
        exact VEnd.one rfl evT (pvI (by rw [domE, domP_pre, if_pos c2', if_neg c4, if_pos c6] <;> rfl))
      · have hl : d.2.2.2.length ≤ 16 := by omega
        have hp : domP d = 0 := by rw [domP_pre, if_pos c2', if_neg c4, if_neg c6]
        refine VC.skip ?_
        show VC _ _ _ _ _ _ _ _
        refine VC.seq ?_
        refine VC.seq ?_
        refine VC.text ?_
        refine VO.c (.assign rfl) ?_
        refine VO.go ?_
        refine VC.block ?_
        refine VC.keep [(1, .p y95 d), (4, I ((0 : Nat) : Int))] ⟨rfl, rfl, trivial⟩ ?_
        refine VC.loop (I := fun kk ff ss => ∃ (i : Nat), kk = d.2.2.2.length - i ∧ ff = [(1, .p y95 d), (4, I ((i : Nat) : Int))] ∧ ss = [] ∧ (i ≤ d.2.2.2.length) ∧ (∀ k, k < i → memE d.2.2.2 k = 0)) ?_ _ _ _ ⟨0, rfl, rfl, rfl, Nat.zero_le _, (by intro k hk; omega)⟩
        rintro kk ff ss ⟨i, hk0, rfl, rfl, hi, hz⟩
        refine VC.seq ?_
        refine VC.seq ?_
        refine VC.text ?_
        refine VO.c (.move rfl) ?_
        refine VO.c (.fa (.r (.r (.r .o)))) ?_
        refine VO.r (.ld vt93) ?_
        refine VO.r (.len el93) ?_
        refine VO.c (.lss) ?_
        refine VO.go ?_
        refine VC.condD rfl (fun c9 => ?_) (fun c9 => ?_)
        · have hi' : i < d.2.2.2.length := by omega
          refine VC.skip ?_
          show VC _ _ _ _ _ _ _ _
          refine VC.seq ?_
          refine VC.block ?_
          refine VC.seq ?_
          refine VC.seq ?_
          refine VC.drawn ?_
          refine VD.c (.fa (.r (.r (.r .o)))) ?_
          refine VD.r [] (.ld vt93) (.inl rfl) ?_
          refine VD.c (.move rfl) ?_
          refine VD.c (.ix (j := i) rfl rfl el93 (by omega)) ?_
          refine VD.c (.fa (.l .o)) ?_
          refine VD.r [] (.ld vt9) (.inl rfl) ?_
          refine VD.nw [] ?_
          refine VD.call rfl rfl (VF.call (rNameE_ok )) ?_
          refine VD.c (.fa (.r (.r (.r .o)))) ?_
          refine VD.r [] (.ld vt93) (.inl rfl) ?_
          refine VD.c (.move rfl) ?_
          refine VD.c (.ix (j := i) rfl rfl el93 (by omega)) ?_
          refine VD.c (.fa (.r .o)) ?_
          refine VD.r [] (.ld vt3) (.inl rfl) ?_
          refine VD.nw [] ?_
          refine VD.call rfl rfl (VF.call (rCheckRange_ok )) ?_
          refine VD.new (.lit [whenE (!nameB ((d.2.2.2[i]).1)) 8, rangeE ((d.2.2.2[i]).2) (1 : Int) (1000 : Int)] el22) ?_
          refine VD.callO rfl rfl (VF.call (rFirst_ok (by first | assumption | omega | simp))) ?_
          refine VD.c (.assign rfl) ?_
          refine VD.go ?_
          refine VC.seq ?_
          refine VC.text ?_
          refine VO.c (.move rfl) ?_
          refine VO.c (.neq) ?_
          refine VO.go ?_
          refine VC.condD rfl (fun c12 => ?_) (fun c12 => ?_)
          · have hm : memE d.2.2.2 i ≠ 0 := by rw [mem_pre hi', if_neg c12]; exact c12
            refine VC.seq ?_
            refine VC.text ?_
            refine VO.c (.move rfl) ?_
            refine VO.c (.assign rfl) ?_
            refine VO.go ?_
            refine VC.ret ?_
            exact VEnd.one rfl evT (pvI (by rw [domE, if_pos hp, ← firstE_range hi' hz hm, mem_pre hi', if_neg c12]))
          · have c12' : firstE [whenE (!nameB d.2.2.2[i].1) 8, rangeE d.2.2.2[i].2 1 1000] = 0 := by simpa using c12
            refine VC.skip ?_
            show VC _ _ _ _ _ _ _ _
            refine VC.seq ?_
            refine VC.text ?_
            refine VO.c (.assign rfl) ?_
            refine VO.go ?_
            refine VC.block ?_
            refine VC.keep [(1, .p y95 d), (4, I ((i : Nat) : Int)), (6, I ((0 : Nat) : Int))] ⟨rfl, rfl, rfl, trivial⟩ ?_
            refine VC.loop (I := fun kk ff ss => ∃ (k : Nat), kk = i - k ∧ ff = [(1, .p y95 d), (4, I ((i : Nat) : Int)), (6, I ((k : Nat) : Int))] ∧ ss = [] ∧ (k ≤ i) ∧ (∀ j (hj : j < k) (hj' : j < d.2.2.2.length), ¬ d.2.2.2[j].1 = d.2.2.2[i].1)) ?_ _ _ _ ⟨0, rfl, rfl, rfl, Nat.zero_le _, (by intro j hj; omega)⟩
            rintro kk ff ss ⟨k, hk2, rfl, rfl, hk, hn⟩
            refine VC.seq ?_
            refine VC.seq ?_
            refine VC.text ?_
            refine VO.c (.move rfl) ?_
            refine VO.c (.move rfl) ?_
            refine VO.c (.lss) ?_
            refine VO.go ?_
            refine VC.condD rfl (fun c15 => ?_) (fun c15 => ?_)
            · refine VC.skip ?_
              show VC _ _ _ _ _ _ _ _
              refine VC.seq ?_
              refine VC.block ?_
              refine VC.seq ?_
              refine VC.drawn ?_
              refine VD.c (.fa (.r (.r (.r .o)))) ?_
              refine VD.r [] (.ld vt93) (.inl rfl) ?_
              refine VD.c (.move rfl) ?_
              refine VD.c (.ix (j := k) rfl rfl el93 (by omega)) ?_
              refine VD.c (.fa (.l .o)) ?_
              refine VD.r [] (.ld vt9) (.inl rfl) ?_
              refine VD.nw [] ?_
              refine VD.c (.fa (.r (.r (.r .o)))) ?_
              refine VD.r [] (.ld vt93) (.inl rfl) ?_
              refine VD.c (.move rfl) ?_
              refine VD.c (.ix (j := i) rfl rfl el93 (by omega)) ?_
              refine VD.c (.fa (.l .o)) ?_
              refine VD.r [] (.ld vt9) (.inl rfl) ?_
              refine VD.c (.seql) ?_
              refine VD.go ?_
              refine VC.condD rfl (fun c17 => ?_) (fun c17 => ?_)
              · have hm := mem_nine hi' (show k < i by omega) c12' c17
                refine VC.seq ?_
                refine VC.text ?_
                refine VO.c (.assign rfl) ?_
                refine VO.go ?_
                refine VC.ret ?_
                exact VEnd.one rfl evT (pvI (by rw [domE, if_pos hp, ← firstE_range hi' hz (by rw [hm]; decide), hm]))
              · refine VC.skip ?_
                show VC _ _ _ _ _ _ _ _
                refine VC.text ?_
                refine VO.c (.move rfl) ?_
                refine VO.c (.add rfl rfl (by omega)) ?_
                refine VO.c (.assign rfl) ?_
                refine VO.nil ?_
                refine ⟨_, [(1, .p y95 d), (4, I ((i : Nat) : Int)), (6, I (((k + 1) : Nat) : Int))], ?_, ⟨rfl, rfl, rfl, trivial⟩, (k + 1), rfl, rfl, rfl, (by omega), (by intro j hj hj'; rcases Nat.lt_succ_iff_lt_or_eq.1 hj with h | h; exact hn j h hj'; subst h; exact c17)⟩
                omega
            · refine VC.exit ?_
              show VC _ _ _ _ _ _ _ _
              refine VC.text ?_
              refine VO.c (.move rfl) ?_
              refine VO.c (.add rfl rfl (by omega)) ?_
              refine VO.c (.assign rfl) ?_
              refine VO.nil ?_
              refine ⟨_, [(1, .p y95 d), (4, I (((i + 1) : Nat) : Int))], ?_, ⟨rfl, rfl, trivial⟩, (i + 1), rfl, rfl, rfl, (by omega), (by intro k hk; rcases Nat.lt_succ_iff_lt_or_eq.1 hk with h | h; exact hz k h; subst h; exact mem_zero (by omega) c12' (fun j hj => hn j (by omega) (by omega)))⟩
              omega
        · refine VC.exit ?_
          show VC _ _ _ _ _ _ _ _
          refine VC.seq ?_
          refine VC.text ?_
          refine VO.c (.assign rfl) ?_
          refine VO.go ?_
          refine VC.ret ?_
          exact VEnd.one rfl evT (pvI (by rw [domE, if_pos hp]; exact firstE_range0 (fun k hk => hz k (by omega))))
def memAt (l : Mems) (x : ByteArray) : Int := if l.findIdx (fun m => decide (m.1 = x)) < l.length then (l.findIdx (fun m => decide (m.1 = x)) : Nat) else -1
theorem memAt_some {l : Mems} {x : ByteArray} {i : Nat} (h : i < l.length) (he : l[i].1 = x) (hn : ∀ k (hk : k < i), ¬ l[k].1 = x) : ((i : Nat) : Int) = memAt l x := by
  have e : l.findIdx (fun m => decide (m.1 = x)) = i := (List.findIdx_eq h).2 ⟨decide_eq_true he, fun j hj => decide_eq_false (hn j hj)⟩
  rw [memAt, e, if_pos h]
theorem memAt_none {l : Mems} {x : ByteArray} (hn : ∀ k (hk : k < l.length), ¬ l[k].1 = x) : -1 = memAt l x := by
  have e : l.findIdx (fun m => decide (m.1 = x)) = l.length := List.findIdx_eq_length.2 fun m hm => by
    obtain ⟨k, hk, rfl⟩ := List.getElem_of_mem hm
    exact decide_eq_false (hn k hk)
  rw [memAt, e, if_neg (by omega)]
theorem rMemAt_ok {d : Int × Int × Int × (List (ByteArray × Int))} {x : ByteArray} (hl : d.2.2.2.length ≤ 16) : VF Tryz.prog OA 131 [.v y95 d, St x] (I (memAt d.2.2.2 x)) := by
  refine VF.enter Tryz.func131 rfl (fun _ _ => rfl) rfl ?_
  show VC _ _ _ _ _ [(0, .v y95 d), (1, St x)] [] _
  refine VC.seq ?_
  refine VC.text ?_
  refine VO.new (.box) ?_
  refine VO.c (.assign rfl) ?_
  refine VO.go ?_
  refine VC.seq ?_
  refine VC.seq ?_
  refine VC.text ?_
  refine VO.c (.assign rfl) ?_
  refine VO.go ?_
  refine VC.block ?_
  refine VC.keep [(1, St x), (2, .p y95 d), (5, I ((0 : Nat) : Int))] ⟨rfl, rfl, rfl, trivial⟩ ?_
  refine VC.loop (I := fun kk ff ss => ∃ (i : Nat), kk = d.2.2.2.length - i ∧ ff = [(1, St x), (2, .p y95 d), (5, I ((i : Nat) : Int))] ∧ ss = [] ∧ (i ≤ d.2.2.2.length) ∧ (∀ j (hj : j < i) (hj' : j < d.2.2.2.length), ¬ d.2.2.2[j].1 = x)) ?_ _ _ _ ⟨0, rfl, rfl, rfl, Nat.zero_le _, (by intro j hj; omega)⟩
  rintro kk ff ss ⟨i, hk0, rfl, rfl, hi, hn⟩
  refine VC.seq ?_
  refine VC.seq ?_
  refine VC.text ?_
  refine VO.c (.move rfl) ?_
  refine VO.c (.fa (.r (.r (.r .o)))) ?_
  refine VO.r (.ld vt93) ?_
  refine VO.r (.len el93) ?_
  refine VO.c (.lss) ?_
  refine VO.go ?_
  refine VC.condD rfl (fun c2 => ?_) (fun c2 => ?_)
  · refine VC.skip ?_
    show VC _ _ _ _ _ _ _ _
    refine VC.seq ?_
    refine VC.block ?_
    refine VC.seq ?_
    refine VC.text ?_
    refine VO.c (.fa (.r (.r (.r .o)))) ?_
    refine VO.r (.ld vt93) ?_
    refine VO.c (.move rfl) ?_
    refine VO.c (.ix (j := i) rfl rfl el93 (by omega)) ?_
    refine VO.c (.fa (.l .o)) ?_
    refine VO.r (.ld vt9) ?_
    refine VO.c (.move rfl) ?_
    refine VO.c (.seql) ?_
    refine VO.go ?_
    refine VC.condD rfl (fun c4 => ?_) (fun c4 => ?_)
    · refine VC.seq ?_
      refine VC.text ?_
      refine VO.c (.move rfl) ?_
      refine VO.c (.assign rfl) ?_
      refine VO.go ?_
      refine VC.ret ?_
      exact VEnd.one rfl evT (pvI (by exact memAt_some (by omega) c4 (fun k hk => hn k hk (by omega))))
    · refine VC.skip ?_
      show VC _ _ _ _ _ _ _ _
      refine VC.text ?_
      refine VO.c (.move rfl) ?_
      refine VO.c (.add rfl rfl (by omega)) ?_
      refine VO.c (.assign rfl) ?_
      refine VO.nil ?_
      refine ⟨_, [(1, St x), (2, .p y95 d), (5, I (((i + 1) : Nat) : Int))], ?_, ⟨rfl, rfl, rfl, trivial⟩, (i + 1), rfl, rfl, rfl, (by omega), (by intro j hj hj'; rcases Nat.lt_succ_iff_lt_or_eq.1 hj with h | h; exact hn j h hj'; subst h; exact c4)⟩
      omega
  · refine VC.exit ?_
    show VC _ _ _ _ _ _ _ _
    refine VC.seq ?_
    refine VC.text ?_
    refine VO.c (.assign rfl) ?_
    refine VO.go ?_
    refine VC.ret ?_
    exact VEnd.one rfl evT (pvI (by exact memAt_none (fun k hk => hn k (by omega) hk)))
end Go.Proofs
namespace Go.Proofs
open Go.Fs Ieee
set_option linter.unusedVariables false
abbrev y108 : Ty := (.sl (.pair (.int .i64) (.pair .str (.pair (.int .i64) (.pair (.int .i64) (.sl (.flt .f32)))))))
abbrev y160 : Ty := (.pair (.int .i64) (.pair .str (.pair (.int .i64) (.pair (.int .i64) (.sl (.flt .f32))))))
abbrev y229 : Ty := (.sl (.pair (.pair (.int .i64) (.pair .str (.pair (.int .i64) (.pair (.int .i64) (.sl (.flt .f32)))))) (.int .i64)))
abbrev y232 : Ty := (.pair (.pair (.int .i64) (.pair .str (.pair (.int .i64) (.pair (.int .i64) (.sl (.flt .f32)))))) (.int .i64))
theorem vt106 : ValT Tryz.prog 106 y106 := valT_of (by kernel_rfl)
theorem vt160 : ValT Tryz.prog 160 y160 := valT_of (by kernel_rfl)
theorem vt205 : ValT Tryz.prog 205 y205 := valT_of (by kernel_rfl)
theorem vt232 : ValT Tryz.prog 232 y232 := valT_of (by kernel_rfl)
theorem el108 : ElT Tryz.prog 108 160 y160 := elT_of (by kernel_rfl)
theorem el229 : ElT Tryz.prog 229 232 y232 := elT_of (by kernel_rfl)
theorem zt160 : ZerT Tryz.prog 160 y160 := zerT_of (z := .agg #[.int .i64 0, .string ByteArray.empty, .int .i64 0, .int .i64 0, .slice none 0 0]) (by kernel_rfl) rfl rfl
theorem zt205 : ZerT Tryz.prog 205 y205 := zerT_of (z := .map none) (by kernel_rfl) rfl rfl
theorem zt232 : ZerT Tryz.prog 232 y232 := zerT_of (z := .agg #[.int .i64 0, .string ByteArray.empty, .int .i64 0, .int .i64 0, .slice none 0 0, .int .i64 0]) (by kernel_rfl) rfl rfl
theorem bt232 : BldT Tryz.prog 232 y232 [(0, 5), (5, 1)] := bldT_of zt232 rfl (by kernel_rfl)
/-! ## Pieces and stores -/
abbrev Dom := Int × Int × Int × Mems
abbrev Pc := Int × ByteArray × Int × Int × List Nat
theorem dom_ok {d : Dom} (h : domE d = 0) : (1 ≤ d.1 ∧ d.1 ≤ 8) ∧ (1 ≤ d.2.1 ∧ d.2.1 ≤ 8) ∧ (1 ≤ d.2.2.1 ∧ d.2.2.1 ≤ 96) ∧ d.2.2.2.length ≤ 16 ∧ d.2.2.2.length ≠ 0 ∧ ∀ k, k < d.2.2.2.length → memE d.2.2.2 k = 0 := by
  unfold domE at h
  split at h
  · rename_i h0
    have hl := domP_len h0
    rw [firstE_zero] at h
    unfold domP at h0
    rw [firstE_zero] at h0
    exact ⟨rangeE_zero.1 (h0 _ (by simp)), rangeE_zero.1 (h0 _ (by simp)), rangeE_zero.1 (h0 _ (by simp)), hl.1, hl.2, fun k hk => h _ (List.mem_map_of_mem (List.mem_range.2 hk))⟩
  · contradiction
def hasM (d : Dom) (x : ByteArray) : Option Int := mget (idxM d.2.2.2 d.2.2.2.length) x
def pcPre (d : Dom) (p : Pc) : Int := firstE [rangeE p.1 0 100000, whenE (!(hasM d p.2.1).isSome) 10, rangeE p.2.2.1 0 (d.2.2.1 - 1), rangeE p.2.2.2.1 0 (d.1 - 1), whenE (decide ((p.2.2.2.2.length : Int) ≠ d.2.1)) 2]
def pcE (d : Dom) (p : Pc) : Int := if pcPre d p = 0 then firstE (p.2.2.2.2.map lvlE) else pcPre d p
theorem sTime_ok {t : Int} : VF Tryz.prog OA 125 [I t] (I (rangeE t 0 100000)) := by
  refine VF.enter Tryz.func125 rfl (fun _ _ => rfl) rfl ?_
  show VC _ _ _ _ _ [(0, I t)] [] _
  refine VC.seq ?_
  refine VC.text ?_
  refine VO.c (.assign rfl) ?_
  refine VO.go ?_
  refine VC.seq ?_
  refine VC.text ?_
  refine VO.c (.move rfl) ?_
  refine VO.call rfl rfl (VF.call (sWithin_ok )) ?_
  refine VO.c (.assign rfl) ?_
  refine VO.go ?_
  refine VC.ret ?_
  exact VEnd.one rfl evT (pvI (by first | rfl | simp))
theorem sPc_ok {d : Int × Int × Int × (List (ByteArray × Int))} {p : Int × ByteArray × Int × Int × (List Nat)} (hd : domE d = 0) (hv : p.2.2.2.2.length < 100000) : VF Tryz.prog OA 153 [.v y106 d, .v y160 p] (I (pcE d p)) := by
  refine VF.enter Tryz.func153 rfl (fun _ _ => rfl) rfl ?_
  show VC _ _ _ _ _ [(0, .v y106 d), (1, .v y160 p)] [] _
  refine VC.seq ?_
  refine VC.text ?_
  have hdd := dom_ok hd
  refine VO.new (.box) ?_
  refine VO.new (.box) ?_
  refine VO.c (.assign rfl) ?_
  refine VO.go ?_
  refine VC.seq ?_
  refine VC.drawn ?_
  refine VD.r [] (.ld vt106) (.inl rfl) ?_
  refine VD.call rfl rfl (VF.call (sMems_ok (by omega))) ?_
  refine VD.c (.fa (.r (.l .o))) ?_
  refine VD.r [] (.ld vt9) (.inl rfl) ?_
  refine VD.ro (.lookOk mt205) ?_
  refine VD.c (.move rfl) ?_
  refine VD.nw [8, 13, 10] ?_
  refine VD.c (.extract) ?_
  refine VD.c (.extract) ?_
  refine VD.c (.assign rfl) ?_
  refine VD.c (.assign rfl) ?_
  refine VD.go ?_
  refine VC.seq ?_
  refine VC.seq ?_
  refine VC.drawn ?_
  refine VD.c (.fa (.l .o)) ?_
  refine VD.r [] (.ld vt3) (.inl rfl) ?_
  refine VD.call rfl rfl (VF.call (sTime_ok )) ?_
  refine VD.c (.move rfl) ?_
  refine VD.c (.not) ?_
  refine VD.call rfl rfl (VF.call (sWhen_ok )) ?_
  refine VD.nw [] ?_
  refine VD.c (.fa (.r (.r (.l .o)))) ?_
  refine VD.r [] (.ld vt3) (.inl rfl) ?_
  refine VD.c (.fa (.r (.r (.l .o)))) ?_
  refine VD.r [] (.ld vt3) (.inl rfl) ?_
  refine VD.c (.sub rfl rfl (by omega)) ?_
  refine VD.call rfl rfl (VF.call (sWithin_ok )) ?_
  refine VD.c (.fa (.r (.r (.r (.l .o))))) ?_
  refine VD.nw [] ?_
  refine VD.r [] (.ld vt3) (.inl rfl) ?_
  refine VD.c (.fa (.l .o)) ?_
  refine VD.r [] (.ld vt3) (.inl rfl) ?_
  refine VD.c (.sub rfl rfl (by omega)) ?_
  refine VD.call rfl rfl (VF.call (sWithin_ok )) ?_
  refine VD.c (.fa (.r (.r (.r (.r .o))))) ?_
  refine VD.r [] (.ld vt124) (.inl rfl) ?_
  refine VD.nw [] ?_
  refine VD.r [] (.len el124) (.inl rfl) ?_
  refine VD.c (.fa (.r (.l .o))) ?_
  refine VD.r [] (.ld vt3) (.inl rfl) ?_
  refine VD.c (.neq) ?_
  refine VD.call rfl rfl (VF.call (sWhen_ok )) ?_
  refine VD.new (.lit [rangeE p.1 0 100000, whenE (!((mget (idxM d.2.2.2 d.2.2.2.length) p.2.1).isSome)) (10 : Int), rangeE p.2.2.1 (0 : Int) (d.2.2.1 - (1 : Int)), rangeE p.2.2.2.1 (0 : Int) (d.1 - (1 : Int)), whenE (decide (((p.2.2.2.2.length : Nat) : Int) ≠ d.2.1)) (2 : Int)] el179) ?_
  refine VD.callO rfl rfl (VF.call (sFirst_ok (by first | assumption | omega | simp))) ?_
  refine VD.nw [41] ?_
  refine VD.c (.assign rfl) ?_
  refine VD.go ?_
  refine VC.seq ?_
  refine VC.keep [(3, .p y160 p), (7, I (firstE [rangeE p.1 0 100000, whenE (!((mget (idxM d.2.2.2 d.2.2.2.length) p.2.1).isSome)) (10 : Int), rangeE p.2.2.1 (0 : Int) (d.2.2.1 - (1 : Int)), rangeE p.2.2.2.1 (0 : Int) (d.1 - (1 : Int)), whenE (decide (((p.2.2.2.2.length : Nat) : Int) ≠ d.2.1)) (2 : Int)]))] ⟨rfl, rfl, trivial⟩ ?_
  refine VC.text ?_
  refine VO.c (.move rfl) ?_
  refine VO.c (.neq) ?_
  refine VO.go ?_
  refine VC.condD rfl (fun c3 => ?_) (fun c3 => ?_)
  · have c3' : ¬ pcPre d p = 0 := c3
    refine VC.seq ?_
    refine VC.text ?_
    refine VO.c (.move rfl) ?_
    refine VO.c (.assign rfl) ?_
    refine VO.go ?_
    refine VC.ret ?_
    exact VEnd.one rfl evT (pvI (by rw [pcE, if_neg c3'] <;> rfl))
  · have c3' : pcPre d p = 0 := by simpa [pcPre, hasM] using c3
    refine VC.skip ?_
    show VC _ _ _ _ _ _ _ _
    refine VC.seq ?_
    refine VC.text ?_
    refine VO.c (.fa (.r (.r (.r (.r .o))))) ?_
    refine VO.r (.ld vt124) ?_
    refine VO.call rfl rfl (VF.call (sMapFE_ok (F := lvlE) hv (fun _ _ => VF.call gLv_ok))) ?_
    refine VO.call rfl rfl (VF.call (sFirst_ok (by simp; omega))) ?_
    refine VO.c (.assign rfl) ?_
    refine VO.go ?_
    refine VC.ret ?_
    exact VEnd.one rfl evT (pvI (by rw [pcE, if_pos c3']))
def cmpI (a b : Int) : Int := if a < b then -1 else if b < a then 1 else 0
theorem cCmp_ok {a : Int} {b : Int} : VF Tryz.prog OA 181 [I a, I b] (I (cmpI a b)) := by
  refine VF.enter Tryz.func181 rfl (fun _ _ => rfl) rfl ?_
  show VC _ _ _ _ _ [(0, I a), (1, I b)] [] _
  refine VC.seq ?_
  refine VC.text ?_
  refine VO.c (.assign rfl) ?_
  refine VO.go ?_
  refine VC.seq ?_
  refine VC.text ?_
  refine VO.c (.move rfl) ?_
  refine VO.call rfl rfl (VF.call (cNaN_ok )) ?_
  refine VO.c (.assign rfl) ?_
  refine VO.go ?_
  refine VC.seq ?_
  refine VC.text ?_
  refine VO.c (.move rfl) ?_
  refine VO.call rfl rfl (VF.call (cNaN_ok )) ?_
  refine VO.c (.assign rfl) ?_
  refine VO.go ?_
  refine VC.seq ?_
  refine VC.seq ?_
  refine VC.text ?_
  refine VO.c (.move rfl) ?_
  refine VO.go ?_
  refine VC.condF rfl ?_
  refine VC.skip ?_
  show VC _ _ _ _ _ _ _ _
  refine VC.seq ?_
  refine VC.seq ?_
  refine VC.text ?_
  refine VO.c (.move rfl) ?_
  refine VO.go ?_
  refine VC.condF rfl ?_
  refine VC.skip ?_
  show VC _ _ _ _ _ _ _ _
  refine VC.seq ?_
  refine VC.seq ?_
  refine VC.text ?_
  refine VO.c (.move rfl) ?_
  refine VO.c (.move rfl) ?_
  refine VO.c (.lss) ?_
  refine VO.go ?_
  refine VC.condD rfl (fun c9 => ?_) (fun c9 => ?_)
  · refine VC.seq ?_
    refine VC.text ?_
    refine VO.c (.assign rfl) ?_
    refine VO.go ?_
    refine VC.ret ?_
    exact VEnd.one rfl evT (pvI (by rw [cmpI, if_pos c9]))
  · refine VC.skip ?_
    show VC _ _ _ _ _ _ _ _
    refine VC.seq ?_
    refine VC.seq ?_
    refine VC.text ?_
    refine VO.c (.move rfl) ?_
    refine VO.c (.move rfl) ?_
    refine VO.c (.gtr) ?_
    refine VO.go ?_
    refine VC.condD rfl (fun c11 => ?_) (fun c11 => ?_)
    · refine VC.seq ?_
      refine VC.text ?_
      refine VO.c (.assign rfl) ?_
      refine VO.go ?_
      refine VC.ret ?_
      exact VEnd.one rfl evT (pvI (by rw [cmpI, if_neg c9, if_pos c11]))
    · refine VC.skip ?_
      show VC _ _ _ _ _ _ _ _
      refine VC.seq ?_
      refine VC.text ?_
      refine VO.c (.assign rfl) ?_
      refine VO.go ?_
      refine VC.ret ?_
      exact VEnd.one rfl evT (pvI (by rw [cmpI, if_neg c9, if_neg c11]))
theorem cOr_ok {l : List Int} (hl : l.length < 1000000) : VF Tryz.prog OA 180 [.v y22 l] (I (firstE l)) := by
  refine VF.enter Tryz.func180 rfl (fun _ _ => rfl) rfl ?_
  show VC _ _ _ _ _ [(0, .v y22 l)] [] _
  refine VC.seq ?_
  refine VC.text ?_
  refine VO.c (.assign rfl) ?_
  refine VO.go ?_
  refine VC.seq ?_
  refine VC.text ?_
  refine VO.c (.assign rfl) ?_
  refine VO.go ?_
  refine VC.seq ?_
  refine VC.seq ?_
  refine VC.text ?_
  refine VO.c (.move rfl) ?_
  refine VO.r (.len el22) ?_
  refine VO.c (.move rfl) ?_
  refine VO.go ?_
  refine VC.block ?_
  refine VC.keep [(3, I (0 : Int)), (6, .v y22 l), (7, I ((l.length : Nat) : Int)), (8, I ((0 : Nat) : Int))] ⟨rfl, rfl, rfl, rfl, trivial⟩ ?_
  refine VC.loop (I := fun kk ff ss => ∃ (j : Nat), kk = l.length - j ∧ ff = [(3, I (0 : Int)), (6, .v y22 l), (7, I ((l.length : Nat) : Int)), (8, I ((j : Nat) : Int))] ∧ ss = [] ∧ (j ≤ l.length) ∧ (firstE l = firstE (l.drop j))) ?_ _ _ _ ⟨0, rfl, rfl, rfl, Nat.zero_le _, (by rfl)⟩
  rintro kk ff ss ⟨j, hk0, rfl, rfl, hj, hf⟩
  refine VC.seq ?_
  refine VC.text ?_
  refine VO.c (.lss) ?_
  refine VO.go ?_
  refine VC.seq ?_
  refine VC.condD rfl (fun c3 => ?_) (fun c3 => ?_)
  · refine VC.skip ?_
    show VC _ _ _ _ _ _ _ _
    refine VC.seq ?_
    refine VC.block ?_
    refine VC.seq ?_
    refine VC.text ?_
    refine VO.c (.ix (j := j) rfl rfl el22 (by omega)) ?_
    refine VO.r (.ld vt3) ?_
    refine VO.c (.assign rfl) ?_
    refine VO.go ?_
    refine VC.seq ?_
    refine VC.text ?_
    refine VO.c (.move rfl) ?_
    refine VO.c (.move rfl) ?_
    refine VO.c (.neq) ?_
    refine VO.go ?_
    refine VC.condD rfl (fun c5 => ?_) (fun c5 => ?_)
    · refine VC.seq ?_
      refine VC.text ?_
      refine VO.c (.move rfl) ?_
      refine VO.c (.assign rfl) ?_
      refine VO.go ?_
      refine VC.ret ?_
      exact VEnd.one rfl evT (pvI (by rw [hf, firstE_drop (by omega), if_neg c5]))
    · refine VC.skip ?_
      show VC _ _ _ _ _ _ _ _
      refine VC.text ?_
      refine VO.c (.add rfl rfl (by omega)) ?_
      refine VO.c (.move rfl) ?_
      refine VO.nil ?_
      refine ⟨_, [(3, I (0 : Int)), (6, .v y22 l), (7, I ((l.length : Nat) : Int)), (8, I (((j + 1) : Nat) : Int))], ?_, ⟨rfl, rfl, rfl, rfl, trivial⟩, (j + 1), rfl, rfl, rfl, (by omega), (by rw [hf, firstE_drop (by omega), if_pos (by simpa using c5)])⟩
      omega
  · refine VC.exit ?_
    show VC _ _ _ _ _ _ _ _
    refine VC.seq ?_
    refine VC.text ?_
    refine VO.c (.move rfl) ?_
    refine VO.c (.assign rfl) ?_
    refine VO.go ?_
    refine VC.ret ?_
    exact VEnd.one rfl evT (pvI (by rw [hf, firstE_end (by omega)]))
def cmpP (a b : Pc × Int) : Int := firstE [cmpI a.1.1 b.1.1, cmpI a.2 b.2, cmpI a.1.2.2.1 b.1.2.2.1, cmpI a.1.2.2.2.1 b.1.2.2.2.1]
theorem sCmpP_ok {a : (Int × ByteArray × Int × Int × (List Nat)) × Int} {b : (Int × ByteArray × Int × Int × (List Nat)) × Int} : VF Tryz.prog OA 148 [.v y232 a, .v y232 b] (I (cmpP a b)) := by
  refine VF.enter Tryz.func148 rfl (fun _ _ => rfl) rfl ?_
  show VC _ _ _ _ _ [(0, .v y232 a), (1, .v y232 b)] [] _
  refine VC.seq ?_
  refine VC.text ?_
  refine VO.new (.box) ?_
  refine VO.new (.box) ?_
  refine VO.c (.assign rfl) ?_
  refine VO.go ?_
  refine VC.seq ?_
  refine VC.drawn ?_
  refine VD.c (.fa (.l .o)) ?_
  refine VD.c (.fa (.l .o)) ?_
  refine VD.r [] (.ld vt3) (.inl rfl) ?_
  refine VD.c (.fa (.l .o)) ?_
  refine VD.c (.fa (.l .o)) ?_
  refine VD.r [] (.ld vt3) (.inl rfl) ?_
  refine VD.nw [] ?_
  refine VD.call rfl rfl (VF.call (cCmp_ok )) ?_
  refine VD.c (.fa (.r .o)) ?_
  refine VD.r [] (.ld vt3) (.inl rfl) ?_
  refine VD.c (.fa (.r .o)) ?_
  refine VD.r [] (.ld vt3) (.inl rfl) ?_
  refine VD.call rfl rfl (VF.call (cCmp_ok )) ?_
  refine VD.c (.fa (.l .o)) ?_
  refine VD.nw [] ?_
  refine VD.c (.fa (.r (.r (.l .o)))) ?_
  refine VD.r [] (.ld vt3) (.inl rfl) ?_
  refine VD.c (.fa (.l .o)) ?_
  refine VD.c (.fa (.r (.r (.l .o)))) ?_
  refine VD.r [] (.ld vt3) (.inl rfl) ?_
  refine VD.call rfl rfl (VF.call (cCmp_ok )) ?_
  refine VD.c (.fa (.l .o)) ?_
  refine VD.nw [] ?_
  refine VD.c (.fa (.r (.r (.r (.l .o))))) ?_
  refine VD.r [] (.ld vt3) (.inl rfl) ?_
  refine VD.c (.fa (.l .o)) ?_
  refine VD.c (.fa (.r (.r (.r (.l .o))))) ?_
  refine VD.r [] (.ld vt3) (.inl rfl) ?_
  refine VD.call rfl rfl (VF.call (cCmp_ok )) ?_
  refine VD.new (.lit [cmpI a.1.1 b.1.1, cmpI a.2 b.2, cmpI a.1.2.2.1 b.1.2.2.1, cmpI a.1.2.2.2.1 b.1.2.2.2.1] el22) ?_
  refine VD.nw [31] ?_
  refine VD.callO rfl rfl (VF.call (cOr_ok (by first | assumption | omega | simp))) ?_
  refine VD.c (.assign rfl) ?_
  refine VD.go ?_
  refine VC.ret ?_
  exact VEnd.one rfl evT (pvI (by first | rfl | simp))
theorem sMapPl_ok {F : Int × ByteArray × Int × Int × List Nat → (Int × ByteArray × Int × Int × List Nat) × Int} {l : List (Int × ByteArray × Int × Int × (List Nat))} {f : PV} (hl : l.length < 100000) (hf : ∀ x ∈ l, VCall Tryz.prog OA f [.v y160 x] (.v y232 (F x))) : VF Tryz.prog OA 177 [.v y108 l, f] (.v y229 (l.map F)) := by
  refine VF.enter Tryz.func177 rfl (fun _ _ => rfl) rfl ?_
  show VC _ _ _ _ _ [(0, .v y108 l), (1, f)] [] _
  refine VC.seq ?_
  refine VC.text ?_
  refine VO.c (.assign rfl) ?_
  refine VO.go ?_
  refine VC.seq ?_
  refine VC.text ?_
  refine VO.c (.assign rfl) ?_
  refine VO.go ?_
  refine VC.seq ?_
  refine VC.seq ?_
  refine VC.text ?_
  refine VO.c (.move rfl) ?_
  refine VO.r (.len el108) ?_
  refine VO.c (.move rfl) ?_
  refine VO.go ?_
  refine VC.block ?_
  refine VC.cell0 232 y232 ?_
  refine VC.keep [(1, f), (5, .raw (.slice none 0 0)), (8, .v y108 l), (9, I ((l.length : Nat) : Int)), (10, I ((0 : Nat) : Int))] ⟨rfl, rfl, rfl, rfl, rfl, trivial⟩ ?_
  refine VC.loop (I := fun kk ff ss => ∃ (j : Nat) (out : Value), kk = l.length - j ∧ ff = [(1, f), (5, .raw out), (8, .v y108 l), (9, I ((l.length : Nat) : Int)), (10, I ((j : Nat) : Int))] ∧ ss = [(out, .row 232 y232 ((l.take j).map F))] ∧ (j ≤ l.length)) ?_ _ _ _ ⟨0, (.slice none 0 0), rfl, rfl, rfl, Nat.zero_le _⟩
  rintro kk ff ss ⟨j, out, hk0, rfl, rfl, hj⟩
  refine VC.seq ?_
  refine VC.text ?_
  refine VO.c (.lss) ?_
  refine VO.go ?_
  refine VC.seq ?_
  refine VC.condD rfl (fun c3 => ?_) (fun c3 => ?_)
  · refine VC.skip ?_
    show VC _ _ _ _ _ _ _ _
    refine VC.seq ?_
    refine VC.block ?_
    refine VC.seq ?_
    refine VC.text ?_
    refine VO.c (.ix (j := j) rfl rfl el108 (by omega)) ?_
    refine VO.r (.ld vt160) ?_
    refine VO.cell (.alloc zt160) ?_
    intro ww1
    refine VO.setV (cs' := [I ((l[j]).1), St ((l[j]).2.1), I ((l[j]).2.2.1), I ((l[j]).2.2.2.1), .v y124 ((l[j]).2.2.2.2)]) vt160 .v ?_
    refine VO.shut [(7, .p y160 (l[j]))] (.cons rfl (.var m0 .refl) .nil) ?_
    refine VO.go ?_
    refine VC.text ?_
    refine VO.c (.move rfl) ?_
    refine VO.c (.move rfl) ?_
    refine VO.r (.ld vt160) ?_
    refine VO.call rfl rfl ((hf _ (List.getElem_mem _)) ) ?_
    refine VO.new (.lit [F (l[j])] el229) ?_
    refine VO.app rfl rfl el229 el229 (by simp; omega) ?_
    intro ww2
    refine VO.c (.assign rfl) ?_
    refine VO.nil ?_
    show VC _ _ _ _ _ _ _ _
    refine VC.text ?_
    refine VO.c (.add rfl rfl (by omega)) ?_
    refine VO.c (.move rfl) ?_
    refine VO.nil ?_
    refine ⟨_, [(1, f), (5, .raw ww2), (8, .v y108 l), (9, I ((l.length : Nat) : Int)), (10, I (((j + 1) : Nat) : Int))], ?_, ⟨rfl, rfl, rfl, rfl, rfl, trivial⟩, (j + 1), ww2, rfl, rfl, (by rw [List.take_succ_eq_append_getElem (by omega), List.map_append] <;> rfl), (by omega)⟩
    omega
  · refine VC.exit ?_
    show VC _ _ _ _ _ _ _ _
    refine VC.seq ?_
    refine VC.text ?_
    refine VO.c (.move rfl) ?_
    refine VO.c (.assign rfl) ?_
    refine VO.go ?_
    refine VC.ret ?_
    exact VEnd.one rfl (evC (.row m0)) (pvE (by rw [List.take_of_length_le (by omega)]))
def plE (d : Dom) (p : Pc) : Pc × Int := (p, (hasM d p.2.1).getD 0)
theorem sPl1_ok {p : Int × ByteArray × Int × Int × (List Nat)} {m : List (ByteArray × Int)} : VF Tryz.prog OA 178 [.v y160 p, .p y205 m] (.v y232 (p, (mget m p.2.1).getD 0)) := by
  refine VF.enter Tryz.func178 rfl (fun _ _ => rfl) rfl ?_
  show VC _ _ _ _ _ [(0, .v y160 p), (1, .p y205 m)] [] _
  refine VC.seq ?_
  refine VC.text ?_
  refine VO.new (.box) ?_
  refine VO.cell (.alloc zt232) ?_
  intro ww3
  refine VO.go ?_
  refine VC.seq ?_
  refine VC.text ?_
  refine VO.r (.ld vt160) ?_
  refine VO.r (.ld vt205) ?_
  refine VO.c (.fa (.r (.l .o))) ?_
  refine VO.r (.ld vt9) ?_
  refine VO.r (.look mt205) ?_
  refine VO.c (.build (p, ((mget m p.2.1).getD 0)) bt232) ?_
  refine VO.setV (cs' := [I p.1, St p.2.1, I p.2.2.1, I p.2.2.2.1, .v y124 p.2.2.2.2, I ((mget m p.2.1).getD 0)]) vt232 .v ?_
  refine VO.go ?_
  refine VC.ret ?_
  exact VEnd.one rfl (.cell (x := (p, ((mget m p.2.1).getD 0))) rfl m0 vt232 .refl) (pvE (by first | rfl | simp))
theorem sPl_ok {d : Int × Int × Int × (List (ByteArray × Int))} {l : List (Int × ByteArray × Int × Int × (List Nat))} (hd : d.2.2.2.length ≤ 16) (hl : l.length < 100000) : VF Tryz.prog OA 146 [.v y106 d, .v y108 l] (.v y229 (l.map (plE d))) := by
  refine VF.enter Tryz.func146 rfl (fun _ _ => rfl) rfl ?_
  show VC _ _ _ _ _ [(0, .v y106 d), (1, .v y108 l)] [] _
  refine VC.seq ?_
  refine VC.text ?_
  refine VO.new (.box) ?_
  refine VO.c (.assign rfl) ?_
  refine VO.go ?_
  refine VC.seq ?_
  refine VC.text ?_
  refine VO.r (.ld vt106) ?_
  refine VO.call rfl rfl (VF.call (sMems_ok hd)) ?_
  refine VO.cell (.alloc zt205) ?_
  intro ww4
  refine VO.setV (cs' := [.v y205 (idxM d.2.2.2 d.2.2.2.length)]) vt205 .v ?_
  refine VO.shut [(5, .p y205 (idxM d.2.2.2 d.2.2.2.length))] (.cons rfl (.var m0 .refl) .nil) ?_
  refine VO.go ?_
  refine VC.seq ?_
  refine VC.text ?_
  refine VO.c (.move rfl) ?_
  refine VO.c (.func) ?_
  refine VO.call rfl rfl (VF.call (sMapPl_ok (F := plE d) hl (fun _ _ => VF.clo sPl1_ok))) ?_
  refine VO.c (.assign rfl) ?_
  refine VO.go ?_
  refine VC.ret ?_
  exact VEnd.one rfl evT (pvE (by first | rfl | simp))
def pcA (l : List Pc) (i : Nat) : Pc := l.getD i (0, ByteArray.empty, 0, 0, [])
theorem pcA_eq {l : List Pc} {i : Nat} (h : i < l.length) : l[i] = pcA l i := by simp [pcA, h]
def pieceE (d : Dom) (l : List Pc) (i : Nat) : Int := firstE [pcE d (pcA l i), whenE (decide (0 < i) && decide (0 ≤ cmpP (plE d (pcA l (i - 1))) (plE d (pcA l i)))) 11]
def storeP (d : Dom) (l : List Pc) : Int := firstE [domE d, whenE (decide ((4096 : Int) < l.length)) 5]
def storeE (d : Dom) (l : List Pc) : Int := if storeP d l = 0 then firstE ((List.range l.length).map (pieceE d l)) else storeP d l
theorem storeP_ok {d : Dom} {l : List Pc} (h : storeP d l = 0) : domE d = 0 ∧ l.length ≤ 4096 := by
  unfold storeP at h
  rw [firstE_zero] at h
  have h1 := whenE_zero (by decide) (h _ (List.mem_cons_of_mem _ List.mem_cons_self))
  exact ⟨h _ List.mem_cons_self, by omega⟩
theorem piece_t {d : Dom} {l : List Pc} {i j : Nat} (h : i < l.length) (hi : 0 < i) (hj : j < (l.map (plE d)).length) (hj' : i < (l.map (plE d)).length) (e : j = i - 1) : firstE [pcE d ((l.map (plE d))[i]).1, whenE (decide (0 ≤ cmpP ((l.map (plE d))[j]) ((l.map (plE d))[i]))) 11] = pieceE d l i := by
  subst e
  rw [pieceE, List.getElem_map, List.getElem_map, pcA_eq, pcA_eq, decide_eq_true hi, Bool.true_and] <;> rfl
theorem piece_f {d : Dom} {l : List Pc} {i : Nat} (h : i < l.length) (hi : ¬ 0 < i) (hj' : i < (l.map (plE d)).length) : firstE [pcE d ((l.map (plE d))[i]).1, whenE false 11] = pieceE d l i := by
  rw [pieceE, List.getElem_map, pcA_eq, decide_eq_false hi, Bool.false_and] <;> rfl
theorem sStore_ok {d : Int × Int × Int × (List (ByteArray × Int))} {l : List (Int × ByteArray × Int × Int × (List Nat))} (hl : l.length < 100000) (hv : ∀ p ∈ l, p.2.2.2.2.length < 100000) : VF Tryz.prog OA 85 [.v y106 d, .v y108 l] (I (storeE d l)) := by
  refine VF.enter Tryz.func85 rfl (fun _ _ => rfl) rfl ?_
  show VC _ _ _ _ _ [(0, .v y106 d), (1, .v y108 l)] [] _
  refine VC.seq ?_
  refine VC.text ?_
  refine VO.new (.box) ?_
  refine VO.c (.assign rfl) ?_
  refine VO.go ?_
  refine VC.seq ?_
  refine VC.seq ?_
  refine VC.text ?_
  refine VO.r (.ld vt106) ?_
  refine VO.call rfl rfl (VF.call (sDom_ok )) ?_
  refine VO.c (.move rfl) ?_
  refine VO.r (.len el108) ?_
  refine VO.c (.gtr) ?_
  refine VO.call rfl rfl (VF.call (sWhen_ok )) ?_
  refine VO.new (.lit [domE d, whenE (decide ((4096 : Int) < ((l.length : Nat) : Int))) (5 : Int)] el179) ?_
  refine VO.call rfl rfl (VF.call (sFirst_ok (by first | assumption | omega | simp))) ?_
  refine VO.c (.assign rfl) ?_
  refine VO.go ?_
  refine VC.seq ?_
  refine VC.text ?_
  refine VO.c (.move rfl) ?_
  refine VO.c (.neq) ?_
  refine VO.go ?_
  refine VC.condD rfl (fun c2 => ?_) (fun c2 => ?_)
  · have c2' : ¬ storeP d l = 0 := c2
    refine VC.seq ?_
    refine VC.text ?_
    refine VO.c (.move rfl) ?_
    refine VO.c (.assign rfl) ?_
    refine VO.go ?_
    refine VC.ret ?_
    exact VEnd.one rfl evT (pvI (by rw [storeE, if_neg c2'] <;> rfl))
  · have c2' : storeP d l = 0 := by simpa [storeP] using c2
    have hs := storeP_ok c2'
    have hdd := dom_ok hs.1
    refine VC.skip ?_
    show VC _ _ _ _ _ _ _ _
    refine VC.seq ?_
    refine VC.text ?_
    refine VO.r (.ld vt106) ?_
    refine VO.c (.move rfl) ?_
    refine VO.call rfl rfl (VF.call (sPl_ok (by omega) hl)) ?_
    refine VO.c (.assign rfl) ?_
    refine VO.go ?_
    refine VC.seq ?_
    refine VC.seq ?_
    refine VC.text ?_
    refine VO.c (.move rfl) ?_
    refine VO.r (.len el229) ?_
    refine VO.c (.move rfl) ?_
    refine VO.go ?_
    refine VC.block ?_
    refine VC.keep [(2, .p y106 d), (6, .v y229 (l.map (plE d))), (24, .v y229 (l.map (plE d))), (25, I (((l.map (plE d)).length : Nat) : Int)), (26, I ((0 : Nat) : Int))] ⟨rfl, rfl, rfl, rfl, rfl, trivial⟩ ?_
    refine VC.loop (I := fun kk ff ss => ∃ (i : Nat), kk = l.length - i ∧ ff = [(2, .p y106 d), (6, .v y229 (l.map (plE d))), (24, .v y229 (l.map (plE d))), (25, I (((l.map (plE d)).length : Nat) : Int)), (26, I ((i : Nat) : Int))] ∧ ss = [] ∧ (i ≤ l.length) ∧ (∀ k, k < i → pieceE d l k = 0)) ?_ _ _ _ ⟨0, rfl, rfl, rfl, Nat.zero_le _, (by intro k hk; omega)⟩
    rintro kk ff ss ⟨i, hk0, rfl, rfl, hi, hz⟩
    refine VC.seq ?_
    refine VC.text ?_
    refine VO.c (.lss) ?_
    refine VO.go ?_
    refine VC.seq ?_
    refine VC.condD rfl (fun c6 => ?_) (fun c6 => ?_)
    · have hi' : i < l.length := by simpa using c6
      refine VC.skip ?_
      show VC _ _ _ _ _ _ _ _
      refine VC.seq ?_
      refine VC.block ?_
      refine VC.seq ?_
      refine VC.text ?_
      refine VO.c (.move rfl) ?_
      refine VO.c (.ix (j := i) rfl rfl el229 (by simp; omega)) ?_
      refine VO.r (.ld vt232) ?_
      refine VO.cell (.alloc zt232) ?_
      intro ww5
      refine VO.c (.assign rfl) ?_
      refine VO.setV (cs' := [I ((((l.map (plE d))[i]).1).1), St ((((l.map (plE d))[i]).1).2.1), I ((((l.map (plE d))[i]).1).2.2.1), I ((((l.map (plE d))[i]).1).2.2.2.1), .v y124 ((((l.map (plE d))[i]).1).2.2.2.2), I (((l.map (plE d))[i]).2)]) vt232 .v ?_
      refine VO.shut [(8, .p y232 ((l.map (plE d))[i]))] (.cons rfl (.var m0 .refl) .nil) ?_
      refine VO.go ?_
      refine VC.seq ?_
      refine VC.join [(2, .p y106 d), (6, .v y229 (l.map (plE d))), (9, I (pieceE d l i)), (24, .v y229 (l.map (plE d))), (25, I (((l.map (plE d)).length : Nat) : Int)), (26, I ((i : Nat) : Int))] [] ?_ ?_
      · skip
        refine VC.drawn ?_
        refine VD.r [] (.ld vt106) (.inl rfl) ?_
        refine VD.c (.fa (.l .o)) ?_
        refine VD.r [] (.ld vt160) (.inl rfl) ?_
        refine VD.call rfl rfl (VF.call (sPc_ok hs.1 (by simp only [List.getElem_map]; exact hv _ (List.getElem_mem _)))) ?_
        refine VD.c (.move rfl) ?_
        refine VD.c (.gtr) ?_
        refine VD.nw [] ?_
        refine VD.c (.move rfl) ?_
        refine VD.splitD (x := 37) rfl (fun g8_6 => ?_) (fun g8_6 => ?_)
        · refine VD.c (.move rfl) ?_
          refine VD.c (.move rfl) ?_
          refine VD.c (.sub rfl rfl (by omega)) ?_
          refine VD.r [] (.max) (.inl rfl) ?_
          refine VD.c (.ixZ (k := (max (0 : Int) (((i : Nat) : Int) - (1 : Int)))) rfl rfl el229 (by omega) (by simp; omega)) ?_
          refine VD.nw [] ?_
          refine VD.r [] (.ld vt232) (.inl rfl) ?_
          refine VD.r [] (.ld vt232) (.inl rfl) ?_
          refine VD.call rfl rfl (VF.call (sCmpP_ok )) ?_
          refine VD.c (.geq) ?_
          refine VD.c (.pickT rfl rfl) ?_
          refine VD.call rfl rfl (VF.call (sWhen_ok )) ?_
          refine VD.new (.lit [pcE d (((l.map (plE d))[i]).1), whenE (decide ((0 : Int) ≤ cmpP ((l.map (plE d))[Int.toNat (max (0 : Int) (((i : Nat) : Int) - (1 : Int)))]) ((l.map (plE d))[i]))) (11 : Int)] el179) ?_
          refine VD.nw [49] ?_
          refine VD.callO rfl rfl (VF.call (sFirst_ok (by first | assumption | omega | simp))) ?_
          refine VD.c (.assign rfl) ?_
          refine VD.nil ?_
          exact ⟨⟨rfl, rfl, slI rfl (by first | exact piece_t hi' (by omega) _ _ (by omega) | exact piece_f hi' (by omega) _), rfl, rfl, rfl, trivial⟩, rfl⟩
        · refine VD.skip ?_
          refine VD.skip ?_
          refine VD.skip ?_
          refine VD.skip ?_
          refine VD.skip ?_
          refine VD.nw [] ?_
          refine VD.skip ?_
          refine VD.skip ?_
          refine VD.skip ?_
          refine VD.skip ?_
          refine VD.c (.pickF rfl rfl) ?_
          refine VD.call rfl rfl (VF.call (sWhen_ok )) ?_
          refine VD.new (.lit [pcE d (((l.map (plE d))[i]).1), whenE false (11 : Int)] el179) ?_
          refine VD.nw [49] ?_
          refine VD.callO rfl rfl (VF.call (sFirst_ok (by first | assumption | omega | simp))) ?_
          refine VD.c (.assign rfl) ?_
          refine VD.nil ?_
          exact ⟨⟨rfl, rfl, slI rfl (by first | exact piece_t hi' (by omega) _ _ (by omega) | exact piece_f hi' (by omega) _), rfl, rfl, rfl, trivial⟩, rfl⟩
      show VC _ _ _ _ _ _ _ _
      refine VC.seq ?_
      refine VC.text ?_
      refine VO.c (.move rfl) ?_
      refine VO.c (.neq) ?_
      refine VO.go ?_
      refine VC.condD rfl (fun c9 => ?_) (fun c9 => ?_)
      · refine VC.seq ?_
        refine VC.text ?_
        refine VO.c (.move rfl) ?_
        refine VO.c (.assign rfl) ?_
        refine VO.go ?_
        refine VC.ret ?_
        exact VEnd.one rfl evT (pvI (by rw [storeE, if_pos c2', ← firstE_range hi' hz c9]))
      · refine VC.skip ?_
        show VC _ _ _ _ _ _ _ _
        refine VC.text ?_
        refine VO.c (.add rfl rfl (by omega)) ?_
        refine VO.c (.move rfl) ?_
        refine VO.nil ?_
        refine ⟨_, [(2, .p y106 d), (6, .v y229 (l.map (plE d))), (24, .v y229 (l.map (plE d))), (25, I (((l.map (plE d)).length : Nat) : Int)), (26, I (((i + 1) : Nat) : Int))], ?_, ⟨rfl, rfl, rfl, rfl, rfl, trivial⟩, (i + 1), rfl, rfl, rfl, (by omega), (by intro k hk; rcases Nat.lt_succ_iff_lt_or_eq.1 hk with h | h; exact hz k h; subst h; simpa using c9)⟩
        omega
    · have hi' : l.length ≤ i := by simpa using c6
      refine VC.exit ?_
      show VC _ _ _ _ _ _ _ _
      refine VC.seq ?_
      refine VC.text ?_
      refine VO.c (.assign rfl) ?_
      refine VO.go ?_
      refine VC.ret ?_
      exact VEnd.one rfl evT (pvI (by rw [storeE, if_pos c2']; exact firstE_range0 (fun k hk => hz k (by omega))))
end Go.Proofs
namespace Go.Proofs
open Go.Fs Ieee
set_option linter.unusedVariables false
abbrev y96 : Ty := (.sl (.pair (.int .i64) (.pair .str (.pair (.int .i64) (.pair (.int .i64) (.sl (.flt .f32)))))))
abbrev y152 : Ty := (.pair (.int .i64) (.pair .str (.pair (.int .i64) (.pair (.int .i64) (.sl (.flt .f32))))))
theorem vt95 : ValT Tryz.prog 95 y95 := valT_of (by kernel_rfl)
theorem vt152 : ValT Tryz.prog 152 y152 := valT_of (by kernel_rfl)
theorem el96 : ElT Tryz.prog 96 152 y152 := elT_of (by kernel_rfl)
/-! ## The reference's stores -/
theorem idx_none {l : Mems} {x : ByteArray} : ∀ (i : Nat), mget (idxM l i) x = none → ∀ k, k < i → nmE l k ≠ x
  | 0, _, k, hk => by omega
  | i + 1, h, k, hk => by
    rw [idxM, mget_mset] at h
    split at h
    · cases h
    · rename_i hx
      rcases Nat.lt_succ_iff_lt_or_eq.1 hk with h3 | h3
      · exact idx_none i h k h3
      · subst h3; exact fun e => hx e.symm
theorem idx_some {l : Mems} {x : ByteArray} {v : Int} : ∀ (i : Nat), mget (idxM l i) x = some v → ∃ k, k < i ∧ v = (k : Int) ∧ nmE l k = x
  | 0, h => by cases h
  | i + 1, h => by
    rw [idxM, mget_mset] at h
    split at h
    · rename_i hx
      injection h with h
      exact ⟨i, by omega, h.symm, hx.symm⟩
    · obtain ⟨k, h1, h2, h3⟩ := idx_some i h
      exact ⟨k, by omega, h2, h3⟩
theorem mem_dist {l : Mems} {i k : Nat} (h : memE l i = 0) (hk : k < i) : nmE l k ≠ nmE l i := fun e => by
  unfold memE at h
  rw [firstE_zero] at h
  have h1 := h _ (List.mem_cons_of_mem _ (List.mem_cons_of_mem _ List.mem_cons_self))
  rw [(known_iff i).2 ⟨k, hk, e⟩] at h1
  cases h1
theorem hasM_eq {d : Dom} (hd : domE d = 0) (x : ByteArray) : hasM d x = if memAt d.2.2.2 x < 0 then none else some (memAt d.2.2.2 x) := by
  obtain ⟨_, _, _, _, _, hz⟩ := dom_ok hd
  cases hg : hasM d x with
  | none =>
    have h1 := idx_none _ hg
    rw [← memAt_none fun k hk => by rw [nmE_eq hk]; exact h1 k hk]
    rfl
  | some v =>
    obtain ⟨k, hk, hv, hn⟩ := idx_some _ hg
    rw [← memAt_some hk (by rw [nmE_eq hk]; exact hn) fun j hj => by rw [nmE_eq (by omega), ← hn]; exact mem_dist (hz k hk) hj]
    rw [if_neg (by omega), hv]
theorem pcPre_eq {d : Dom} {p : Pc} (hd : domE d = 0) : pcPre d p = if rangeE p.1 0 100000 ≠ 0 then rangeE p.1 0 100000 else if memAt d.2.2.2 p.2.1 < 0 then 10 else if firstE [rangeE p.2.2.1 0 (d.2.2.1 - 1), rangeE p.2.2.2.1 0 (d.1 - 1)] ≠ 0 then firstE [rangeE p.2.2.1 0 (d.2.2.1 - 1), rangeE p.2.2.2.1 0 (d.1 - 1)] else if (p.2.2.2.2.length : Int) ≠ d.2.1 then 2 else 0 := by
  have e : pcPre d p = firstE ([rangeE p.1 0 100000] ++ ([whenE (!(hasM d p.2.1).isSome) 10] ++ ([rangeE p.2.2.1 0 (d.2.2.1 - 1), rangeE p.2.2.2.1 0 (d.1 - 1)] ++ [whenE (decide ((p.2.2.2.2.length : Int) ≠ d.2.1)) 2]))) := rfl
  rw [e, firstE_app, firstE_one]
  by_cases h1 : rangeE p.1 0 100000 = 0
  · rw [if_pos h1, if_neg (by simpa using h1), firstE_app, firstE_one, hasM_eq hd]
    by_cases h2 : memAt d.2.2.2 p.2.1 < 0
    · rw [if_pos h2, if_pos h2] <;> rfl
    · rw [if_neg h2, if_neg h2]
      show firstE _ = _
      rw [firstE_app]
      by_cases h3 : firstE [rangeE p.2.2.1 0 (d.2.2.1 - 1), rangeE p.2.2.2.1 0 (d.1 - 1)] = 0
      · rw [if_pos h3, if_neg (by simpa using h3), firstE_one]
        by_cases h4 : (p.2.2.2.2.length : Int) ≠ d.2.1
        · rw [whenE_t h4, if_pos h4]
        · rw [whenE_f h4, if_neg h4]
      · rw [if_neg h3, if_pos h3]
  · rw [if_neg h1, if_pos h1]
theorem rPc_ok {d : Int × Int × Int × (List (ByteArray × Int))} {p : Int × ByteArray × Int × Int × (List Nat)} (hd : domE d = 0) (hv : p.2.2.2.2.length < 100000) : VF Tryz.prog OA 129 [.v y95 d, .v y152 p] (I (pcE d p)) := by
  refine VF.enter Tryz.func129 rfl (fun _ _ => rfl) rfl ?_
  show VC _ _ _ _ _ [(0, .v y95 d), (1, .v y152 p)] [] _
  refine VC.seq ?_
  refine VC.text ?_
  have hdd := dom_ok hd
  have hq := pcPre_eq (p := p) hd
  refine VO.new (.box) ?_
  refine VO.new (.box) ?_
  refine VO.c (.assign rfl) ?_
  refine VO.go ?_
  refine VC.seq ?_
  refine VC.seq ?_
  refine VC.text ?_
  refine VO.c (.fa (.l .o)) ?_
  refine VO.r (.ld vt3) ?_
  refine VO.call rfl rfl (VF.call (rCheckRange_ok )) ?_
  refine VO.c (.assign rfl) ?_
  refine VO.go ?_
  refine VC.seq ?_
  refine VC.text ?_
  refine VO.c (.move rfl) ?_
  refine VO.c (.neq) ?_
  refine VO.go ?_
  refine VC.condD rfl (fun c2 => ?_) (fun c2 => ?_)
  · have hn : pcPre d p ≠ 0 := by rw [hq, if_pos c2]; exact c2
    refine VC.seq ?_
    refine VC.text ?_
    refine VO.c (.move rfl) ?_
    refine VO.c (.assign rfl) ?_
    refine VO.go ?_
    refine VC.ret ?_
    exact VEnd.one rfl evT (pvI (by rw [pcE, if_neg hn, hq, if_pos c2]))
  · have c2' : rangeE p.1 0 100000 = 0 := by simpa using c2
    refine VC.skip ?_
    show VC _ _ _ _ _ _ _ _
    refine VC.seq ?_
    refine VC.seq ?_
    refine VC.text ?_
    refine VO.r (.ld vt95) ?_
    refine VO.c (.fa (.r (.l .o))) ?_
    refine VO.r (.ld vt9) ?_
    refine VO.call rfl rfl (VF.call (rMemAt_ok (by omega))) ?_
    refine VO.c (.lss) ?_
    refine VO.go ?_
    refine VC.condD rfl (fun c4 => ?_) (fun c4 => ?_)
    · have hn : pcPre d p = 10 := by rw [hq, if_neg c2, if_pos c4]
      refine VC.seq ?_
      refine VC.text ?_
      refine VO.c (.assign rfl) ?_
      refine VO.go ?_
      refine VC.ret ?_
      exact VEnd.one rfl evT (pvI (by rw [pcE, hn, if_neg (by decide)]))
    · refine VC.skip ?_
      show VC _ _ _ _ _ _ _ _
      refine VC.seq ?_
      refine VC.seq ?_
      refine VC.drawn ?_
      refine VD.c (.fa (.r (.r (.l .o)))) ?_
      refine VD.r [] (.ld vt3) (.inl rfl) ?_
      refine VD.c (.fa (.r (.r (.l .o)))) ?_
      refine VD.r [] (.ld vt3) (.inl rfl) ?_
      refine VD.c (.sub rfl rfl (by omega)) ?_
      refine VD.call rfl rfl (VF.call (rCheckRange_ok )) ?_
      refine VD.nw [] ?_
      refine VD.c (.fa (.r (.r (.r (.l .o))))) ?_
      refine VD.r [] (.ld vt3) (.inl rfl) ?_
      refine VD.c (.fa (.l .o)) ?_
      refine VD.r [] (.ld vt3) (.inl rfl) ?_
      refine VD.c (.sub rfl rfl (by omega)) ?_
      refine VD.call rfl rfl (VF.call (rCheckRange_ok )) ?_
      refine VD.new (.lit [rangeE p.2.2.1 (0 : Int) (d.2.2.1 - (1 : Int)), rangeE p.2.2.2.1 (0 : Int) (d.1 - (1 : Int))] el22) ?_
      refine VD.nw [32] ?_
      refine VD.callO rfl rfl (VF.call (rFirst_ok (by first | assumption | omega | simp))) ?_
      refine VD.c (.assign rfl) ?_
      refine VD.go ?_
      refine VC.seq ?_
      refine VC.text ?_
      refine VO.c (.move rfl) ?_
      refine VO.c (.neq) ?_
      refine VO.go ?_
      refine VC.condD rfl (fun c7 => ?_) (fun c7 => ?_)
      · have hn : pcPre d p = firstE [rangeE p.2.2.1 0 (d.2.2.1 - 1), rangeE p.2.2.2.1 0 (d.1 - 1)] := by rw [hq, if_neg c2, if_neg c4, if_pos c7]
        refine VC.seq ?_
        refine VC.keep [(2, .p y95 d), (3, .p y152 p), (6, I (firstE [rangeE p.2.2.1 (0 : Int) (d.2.2.1 - (1 : Int)), rangeE p.2.2.2.1 (0 : Int) (d.1 - (1 : Int))]))] ⟨rfl, rfl, rfl, trivial⟩ ?_
        refine VC.text ?_
        refine VO.c (.move rfl) ?_
        refine VO.c (.assign rfl) ?_
        refine VO.go ?_
        refine VC.ret ?_
        exact VEnd.one rfl evT (pvI (by rw [pcE, hn, if_neg c7]))
      · refine VC.skip ?_
        show VC _ _ _ _ _ _ _ _
        refine VC.seq ?_
        refine VC.seq ?_
        refine VC.keep [(2, .p y95 d), (3, .p y152 p)] ⟨rfl, rfl, trivial⟩ ?_
        refine VC.text ?_
        refine VO.c (.fa (.r (.r (.r (.r .o))))) ?_
        refine VO.r (.ld vt124) ?_
        refine VO.r (.len el124) ?_
        refine VO.c (.fa (.r (.l .o))) ?_
        refine VO.r (.ld vt3) ?_
        refine VO.c (.neq) ?_
        refine VO.go ?_
        refine VC.condD rfl (fun c9 => ?_) (fun c9 => ?_)
        · have hn : pcPre d p = 2 := by rw [hq, if_neg c2, if_neg c4, if_neg c7, if_pos c9]
          refine VC.seq ?_
          refine VC.text ?_
          refine VO.c (.assign rfl) ?_
          refine VO.go ?_
          refine VC.ret ?_
          exact VEnd.one rfl evT (pvI (by rw [pcE, hn, if_neg (by decide)]))
        · have hn : pcPre d p = 0 := by rw [hq, if_neg c2, if_neg c4, if_neg c7, if_neg c9]
          refine VC.skip ?_
          show VC _ _ _ _ _ _ _ _
          refine VC.seq ?_
          refine VC.seq ?_
          refine VC.text ?_
          refine VO.c (.assign rfl) ?_
          refine VO.go ?_
          refine VC.block ?_
          refine VC.keep [(3, .p y152 p), (7, I ((0 : Nat) : Int))] ⟨rfl, rfl, trivial⟩ ?_
          refine VC.loop (I := fun kk ff ss => ∃ (i : Nat), kk = p.2.2.2.2.length - i ∧ ff = [(3, .p y152 p), (7, I ((i : Nat) : Int))] ∧ ss = [] ∧ (i ≤ p.2.2.2.2.length) ∧ (firstE (p.2.2.2.2.map lvlE) = firstE ((p.2.2.2.2.drop i).map lvlE))) ?_ _ _ _ ⟨0, rfl, rfl, rfl, Nat.zero_le _, (by rfl)⟩
          rintro kk ff ss ⟨i, hk0, rfl, rfl, hi, hf⟩
          refine VC.seq ?_
          refine VC.seq ?_
          refine VC.text ?_
          refine VO.c (.move rfl) ?_
          refine VO.c (.fa (.r (.r (.r (.r .o))))) ?_
          refine VO.r (.ld vt124) ?_
          refine VO.r (.len el124) ?_
          refine VO.c (.lss) ?_
          refine VO.go ?_
          refine VC.condD rfl (fun c12 => ?_) (fun c12 => ?_)
          · refine VC.skip ?_
            show VC _ _ _ _ _ _ _ _
            refine VC.seq ?_
            refine VC.block ?_
            refine VC.seq ?_
            refine VC.text ?_
            refine VO.c (.fa (.r (.r (.r (.r .o))))) ?_
            refine VO.r (.ld vt124) ?_
            refine VO.c (.move rfl) ?_
            refine VO.c (.ix (j := i) rfl rfl el124 (by omega)) ?_
            refine VO.r (.ld vt127) ?_
            refine VO.call rfl rfl (VF.call (rLv_ok )) ?_
            refine VO.c (.assign rfl) ?_
            refine VO.go ?_
            refine VC.seq ?_
            refine VC.text ?_
            refine VO.c (.move rfl) ?_
            refine VO.c (.neq) ?_
            refine VO.go ?_
            refine VC.condD rfl (fun c15 => ?_) (fun c15 => ?_)
            · refine VC.seq ?_
              refine VC.text ?_
              refine VO.c (.move rfl) ?_
              refine VO.c (.assign rfl) ?_
              refine VO.go ?_
              refine VC.ret ?_
              exact VEnd.one rfl evT (pvI (by rw [pcE, if_pos hn, hf, firstE_map_drop (by omega), if_neg c15]))
            · refine VC.skip ?_
              show VC _ _ _ _ _ _ _ _
              refine VC.text ?_
              refine VO.c (.move rfl) ?_
              refine VO.c (.add rfl rfl (by omega)) ?_
              refine VO.c (.assign rfl) ?_
              refine VO.nil ?_
              refine ⟨_, [(3, .p y152 p), (7, I (((i + 1) : Nat) : Int))], ?_, ⟨rfl, rfl, trivial⟩, (i + 1), rfl, rfl, rfl, (by omega), (by rw [hf, firstE_map_drop (by omega), if_pos (by simpa using c15)])⟩
              omega
          · refine VC.exit ?_
            show VC _ _ _ _ _ _ _ _
            refine VC.seq ?_
            refine VC.text ?_
            refine VO.c (.assign rfl) ?_
            refine VO.go ?_
            refine VC.ret ?_
            exact VEnd.one rfl evT (pvI (by rw [pcE, if_pos hn, hf, firstE_map_end (by omega)]))
def befE (d : Dom) (a b : Pc) : Bool := if a.1 ≠ b.1 then decide (a.1 < b.1) else if memAt d.2.2.2 a.2.1 ≠ memAt d.2.2.2 b.2.1 then decide (memAt d.2.2.2 a.2.1 < memAt d.2.2.2 b.2.1) else if a.2.2.1 ≠ b.2.2.1 then decide (a.2.2.1 < b.2.2.1) else decide (a.2.2.2.1 < b.2.2.2.1)
theorem rBef_ok {d : Int × Int × Int × (List (ByteArray × Int))} {a : Int × ByteArray × Int × Int × (List Nat)} {b : Int × ByteArray × Int × Int × (List Nat)} (hd : d.2.2.2.length ≤ 16) : VF Tryz.prog OA 130 [.v y95 d, .v y152 a, .v y152 b] (B (befE d a b)) := by
  refine VF.enter Tryz.func130 rfl (fun _ _ => rfl) rfl ?_
  show VC _ _ _ _ _ [(0, .v y95 d), (1, .v y152 a), (2, .v y152 b)] [] _
  refine VC.seq ?_
  refine VC.text ?_
  refine VO.new (.box) ?_
  refine VO.new (.box) ?_
  refine VO.new (.box) ?_
  refine VO.c (.assign rfl) ?_
  refine VO.go ?_
  refine VC.seq ?_
  refine VC.seq ?_
  refine VC.text ?_
  refine VO.c (.fa (.l .o)) ?_
  refine VO.r (.ld vt3) ?_
  refine VO.c (.fa (.l .o)) ?_
  refine VO.r (.ld vt3) ?_
  refine VO.c (.neq) ?_
  refine VO.go ?_
  refine VC.condD rfl (fun c1 => ?_) (fun c1 => ?_)
  · refine VC.seq ?_
    refine VC.text ?_
    refine VO.c (.fa (.l .o)) ?_
    refine VO.r (.ld vt3) ?_
    refine VO.c (.fa (.l .o)) ?_
    refine VO.r (.ld vt3) ?_
    refine VO.c (.lss) ?_
    refine VO.c (.assign rfl) ?_
    refine VO.go ?_
    refine VC.ret ?_
    exact VEnd.one rfl evT (pvE (by rw [befE, if_pos c1]))
  · refine VC.skip ?_
    show VC _ _ _ _ _ _ _ _
    refine VC.seq ?_
    refine VC.seq ?_
    refine VC.drawn ?_
    refine VD.r [] (.ld vt95) (.inl rfl) ?_
    refine VD.c (.fa (.r (.l .o))) ?_
    refine VD.r [] (.ld vt9) (.inl rfl) ?_
    refine VD.call rfl rfl (VF.call (rMemAt_ok hd)) ?_
    refine VD.r [] (.ld vt95) (.inl rfl) ?_
    refine VD.c (.fa (.r (.l .o))) ?_
    refine VD.nw [] ?_
    refine VD.r [] (.ld vt9) (.inl rfl) ?_
    refine VD.call rfl rfl (VF.call (rMemAt_ok hd)) ?_
    refine VD.c (.assign rfl) ?_
    refine VD.c (.assign rfl) ?_
    refine VD.go ?_
    refine VC.seq ?_
    refine VC.text ?_
    refine VO.c (.move rfl) ?_
    refine VO.c (.move rfl) ?_
    refine VO.c (.neq) ?_
    refine VO.go ?_
    refine VC.condD rfl (fun c4 => ?_) (fun c4 => ?_)
    · refine VC.seq ?_
      refine VC.text ?_
      refine VO.c (.move rfl) ?_
      refine VO.c (.move rfl) ?_
      refine VO.c (.lss) ?_
      refine VO.c (.assign rfl) ?_
      refine VO.go ?_
      refine VC.ret ?_
      exact VEnd.one rfl evT (pvE (by rw [befE, if_neg c1, if_pos c4]))
    · refine VC.skip ?_
      show VC _ _ _ _ _ _ _ _
      refine VC.seq ?_
      refine VC.seq ?_
      refine VC.text ?_
      refine VO.c (.fa (.r (.r (.l .o)))) ?_
      refine VO.r (.ld vt3) ?_
      refine VO.c (.fa (.r (.r (.l .o)))) ?_
      refine VO.r (.ld vt3) ?_
      refine VO.c (.neq) ?_
      refine VO.go ?_
      refine VC.condD rfl (fun c6 => ?_) (fun c6 => ?_)
      · refine VC.seq ?_
        refine VC.text ?_
        refine VO.c (.fa (.r (.r (.l .o)))) ?_
        refine VO.r (.ld vt3) ?_
        refine VO.c (.fa (.r (.r (.l .o)))) ?_
        refine VO.r (.ld vt3) ?_
        refine VO.c (.lss) ?_
        refine VO.c (.assign rfl) ?_
        refine VO.go ?_
        refine VC.ret ?_
        exact VEnd.one rfl evT (pvE (by rw [befE, if_neg c1, if_neg c4, if_pos c6]))
      · refine VC.skip ?_
        show VC _ _ _ _ _ _ _ _
        refine VC.seq ?_
        refine VC.text ?_
        refine VO.c (.fa (.r (.r (.r (.l .o))))) ?_
        refine VO.r (.ld vt3) ?_
        refine VO.c (.fa (.r (.r (.r (.l .o))))) ?_
        refine VO.r (.ld vt3) ?_
        refine VO.c (.lss) ?_
        refine VO.c (.assign rfl) ?_
        refine VO.go ?_
        refine VC.ret ?_
        exact VEnd.one rfl evT (pvE (by rw [befE, if_neg c1, if_neg c4, if_neg c6]))
theorem cmpI_lt {a b : Int} (h : a < b) : cmpI a b = -1 := by rw [cmpI, if_pos h]
theorem cmpI_eq {a b : Int} (h : a = b) : cmpI a b = 0 := by rw [cmpI, if_neg (by omega), if_neg (by omega)]
theorem cmpI_gt {a b : Int} (h : b < a) : cmpI a b = 1 := by rw [cmpI, if_neg (by omega), if_pos h]
theorem firstE_cmp {a b : Int} {r : List Int} : (0 ≤ firstE (cmpI a b :: r)) = (b < a ∨ a = b ∧ 0 ≤ firstE r) := by
  rcases Int.lt_trichotomy a b with h | h | h
  · rw [cmpI_lt h]
    refine propext ⟨fun hh => by simp [firstE] at hh, fun hh => by omega⟩
  · rw [cmpI_eq h]
    refine propext ⟨fun hh => .inr ⟨h, by simpa [firstE] using hh⟩, fun hh => ?_⟩
    rcases hh with hh | hh
    · omega
    · simpa [firstE] using hh.2
  · rw [cmpI_gt h]
    exact propext ⟨fun _ => .inl h, fun _ => by simp [firstE]⟩
theorem pc_known {d : Dom} {p : Pc} (hd : domE d = 0) (h : pcE d p = 0) : (hasM d p.2.1).getD 0 = memAt d.2.2.2 p.2.1 := by
  have h1 : pcPre d p = 0 := by
    unfold pcE at h
    split at h
    · assumption
    · contradiction
  rw [pcPre_eq hd] at h1
  split at h1
  · contradiction
  · split at h1
    · cases h1
    · rename_i h2
      rw [hasM_eq hd, if_neg h2] <;> rfl
theorem cmp_bef {d : Dom} {a b : Pc} (hd : domE d = 0) (ha : pcE d a = 0) (hb : pcE d b = 0) : decide (0 ≤ cmpP (plE d a) (plE d b)) = !befE d a b := by
  have e1 := pc_known hd ha
  have e2 := pc_known hd hb
  rw [Bool.eq_iff_iff, decide_eq_true_iff]
  unfold cmpP plE befE
  simp only [firstE_cmp, e1, e2]
  have e3 : 0 ≤ firstE [] := by decide
  generalize memAt d.2.2.2 a.2.1 = u
  generalize memAt d.2.2.2 b.2.1 = v
  by_cases h1 : a.1 ≠ b.1
  · rw [if_pos h1]; simp; omega
  · rw [if_neg h1]
    by_cases h2 : u ≠ v
    · rw [if_pos h2]; simp; omega
    · rw [if_neg h2]
      by_cases h3 : a.2.2.1 ≠ b.2.2.1
      · rw [if_pos h3]; simp; omega
      · rw [if_neg h3]; simp [e3]; omega
theorem piece_ne {d : Dom} {l : List Pc} {i : Nat} (h : pcE d (pcA l i) ≠ 0) : pieceE d l i = pcE d (pcA l i) := by
  rw [pieceE, firstE, if_neg h]
theorem piece_z {d : Dom} {l : List Pc} {i : Nat} (h : pcE d (pcA l i) = 0) : pieceE d l i = whenE (decide (0 < i) && decide (0 ≤ cmpP (plE d (pcA l (i - 1))) (plE d (pcA l i)))) 11 := by
  rw [pieceE, show ∀ x y : Int, firstE [x, y] = firstE ([x] ++ [y]) from fun _ _ => rfl, firstE_app, firstE_one, if_pos h, firstE_one]
theorem piece_zero {d : Dom} {l : List Pc} {i : Nat} (h : pieceE d l i = 0) : pcE d (pcA l i) = 0 := by
  unfold pieceE at h
  rw [firstE_zero] at h
  exact h _ List.mem_cons_self
theorem storeP_eq {d : Dom} {l : List Pc} : storeP d l = if domE d ≠ 0 then domE d else if (4096 : Int) < l.length then 5 else 0 := by
  rw [storeP, show ∀ x y : Int, firstE [x, y] = firstE ([x] ++ [y]) from fun _ _ => rfl, firstE_app, firstE_one, firstE_one]
  by_cases h : domE d = 0
  · rw [if_pos h, if_neg (by simpa using h)]
    by_cases h2 : (4096 : Int) < l.length
    · rw [whenE_t h2, if_pos h2]
    · rw [whenE_f h2, if_neg h2]
  · rw [if_neg h, if_pos h]
theorem bef_i {d : Dom} {l : List Pc} {i j : Nat} (h : j < l.length) (hi : i < l.length) (e : j = i - 1) : befE d l[j] l[i] = befE d (pcA l (i - 1)) (pcA l i) := by
  subst e; rw [pcA_eq, pcA_eq]
theorem rStore_ok {d : Int × Int × Int × (List (ByteArray × Int))} {l : List (Int × ByteArray × Int × Int × (List Nat))} (hl : l.length < 100000) (hv : ∀ p ∈ l, p.2.2.2.2.length < 100000) : VF Tryz.prog OA 57 [.v y95 d, .v y96 l] (I (storeE d l)) := by
  refine VF.enter Tryz.func57 rfl (fun _ _ => rfl) rfl ?_
  show VC _ _ _ _ _ [(0, .v y95 d), (1, .v y96 l)] [] _
  refine VC.seq ?_
  refine VC.text ?_
  refine VO.new (.box) ?_
  refine VO.c (.assign rfl) ?_
  refine VO.go ?_
  refine VC.seq ?_
  refine VC.seq ?_
  refine VC.text ?_
  refine VO.r (.ld vt95) ?_
  refine VO.call rfl rfl (VF.call (rDom_ok )) ?_
  refine VO.c (.assign rfl) ?_
  refine VO.go ?_
  refine VC.seq ?_
  refine VC.text ?_
  refine VO.c (.move rfl) ?_
  refine VO.c (.neq) ?_
  refine VO.go ?_
  refine VC.condD rfl (fun c2 => ?_) (fun c2 => ?_)
  · have hn : storeP d l = domE d := by rw [storeP_eq, if_pos c2]
    refine VC.seq ?_
    refine VC.text ?_
    refine VO.c (.move rfl) ?_
    refine VO.c (.assign rfl) ?_
    refine VO.go ?_
    refine VC.ret ?_
    exact VEnd.one rfl evT (pvI (by rw [storeE, hn, if_neg c2]))
  · have hd : domE d = 0 := by simpa using c2
    have hdd := dom_ok hd
    refine VC.skip ?_
    show VC _ _ _ _ _ _ _ _
    refine VC.seq ?_
    refine VC.seq ?_
    refine VC.text ?_
    refine VO.c (.move rfl) ?_
    refine VO.r (.len el96) ?_
    refine VO.c (.gtr) ?_
    refine VO.go ?_
    refine VC.condD rfl (fun c4 => ?_) (fun c4 => ?_)
    · have hn : storeP d l = 5 := by rw [storeP_eq, if_neg c2, if_pos c4]
      refine VC.seq ?_
      refine VC.text ?_
      refine VO.c (.assign rfl) ?_
      refine VO.go ?_
      refine VC.ret ?_
      exact VEnd.one rfl evT (pvI (by rw [storeE, hn, if_neg (by decide)]))
    · have hn : storeP d l = 0 := by rw [storeP_eq, if_neg c2, if_neg c4]
      refine VC.skip ?_
      show VC _ _ _ _ _ _ _ _
      refine VC.seq ?_
      refine VC.seq ?_
      refine VC.text ?_
      refine VO.c (.assign rfl) ?_
      refine VO.go ?_
      refine VC.block ?_
      refine VC.keep [(1, .v y96 l), (2, .p y95 d), (6, I ((0 : Nat) : Int))] ⟨rfl, rfl, rfl, trivial⟩ ?_
      refine VC.loop (I := fun kk ff ss => ∃ (i : Nat), kk = l.length - i ∧ ff = [(1, .v y96 l), (2, .p y95 d), (6, I ((i : Nat) : Int))] ∧ ss = [] ∧ (i ≤ l.length) ∧ (∀ k, k < i → pieceE d l k = 0)) ?_ _ _ _ ⟨0, rfl, rfl, rfl, Nat.zero_le _, (by intro k hk; omega)⟩
      rintro kk ff ss ⟨i, hk0, rfl, rfl, hi, hz⟩
      refine VC.seq ?_
      refine VC.seq ?_
      refine VC.text ?_
      refine VO.c (.move rfl) ?_
      refine VO.c (.move rfl) ?_
      refine VO.r (.len el96) ?_
      refine VO.c (.lss) ?_
      refine VO.go ?_
      refine VC.condD rfl (fun c7 => ?_) (fun c7 => ?_)
      · have hi' : i < l.length := by omega
        refine VC.skip ?_
        show VC _ _ _ _ _ _ _ _
        refine VC.seq ?_
        refine VC.block ?_
        refine VC.seq ?_
        refine VC.seq ?_
        refine VC.drawn ?_
        refine VD.r [] (.ld vt95) (.inl rfl) ?_
        refine VD.c (.move rfl) ?_
        refine VD.c (.move rfl) ?_
        refine VD.c (.ix (j := i) rfl rfl el96 (by omega)) ?_
        refine VD.r [] (.ld vt152) (.inl rfl) ?_
        refine VD.call rfl rfl (VF.call (rPc_ok hd (hv _ (List.getElem_mem _)))) ?_
        refine VD.nw [] ?_
        refine VD.c (.assign rfl) ?_
        refine VD.go ?_
        refine VC.seq ?_
        refine VC.text ?_
        refine VO.c (.move rfl) ?_
        refine VO.c (.neq) ?_
        refine VO.go ?_
        refine VC.condD rfl (fun c10 => ?_) (fun c10 => ?_)
        · have c10' : pcE d (pcA l i) ≠ 0 := by rw [← pcA_eq hi']; exact c10
          refine VC.seq ?_
          refine VC.text ?_
          refine VO.c (.move rfl) ?_
          refine VO.c (.assign rfl) ?_
          refine VO.go ?_
          refine VC.ret ?_
          exact VEnd.one rfl evT (pvI (by rw [storeE, if_pos hn, ← firstE_range hi' hz (by rw [piece_ne c10']; exact c10'), piece_ne c10', pcA_eq hi']))
        · have c10' : pcE d (pcA l i) = 0 := by rw [← pcA_eq hi']; simpa using c10
          refine VC.skip ?_
          show VC _ _ _ _ _ _ _ _
          refine VC.seq ?_
          refine VC.join [(1, .v y96 l), (2, .p y95 d), (6, I ((i : Nat) : Int)), (46, B (decide (0 < i) && decide (0 ≤ cmpP (plE d (pcA l (i - 1))) (plE d (pcA l i)))))] [] ?_ ?_
          · skip
            refine VC.drawn ?_
            refine VD.c (.move rfl) ?_
            refine VD.c (.gtr) ?_
            refine VD.c (.move rfl) ?_
            refine VD.splitD (x := 33) rfl (fun g12_2 => ?_) (fun g12_2 => ?_)
            · refine VD.r [] (.ld vt95) (.inl rfl) ?_
              refine VD.c (.move rfl) ?_
              refine VD.nw [] ?_
              refine VD.c (.move rfl) ?_
              refine VD.c (.sub rfl rfl (by omega)) ?_
              refine VD.c (.ixZ (k := (((i : Nat) : Int) - (1 : Int))) rfl rfl el96 (by omega) (by omega)) ?_
              refine VD.r [] (.ld vt152) (.inl rfl) ?_
              refine VD.c (.move rfl) ?_
              refine VD.c (.move rfl) ?_
              refine VD.c (.ix (j := i) rfl rfl el96 (by omega)) ?_
              refine VD.nw [] ?_
              refine VD.r [] (.ld vt152) (.inl rfl) ?_
              refine VD.call rfl rfl (VF.call (rBef_ok hdd.2.2.2.1)) ?_
              refine VD.c (.not) ?_
              refine VD.c (.pickT rfl rfl) ?_
              refine VD.nil ?_
              exact ⟨⟨rfl, rfl, rfl, slE rfl (by first | (rw [cmp_bef hd (piece_zero (hz (i - 1) (by omega))) c10', decide_eq_true (show 0 < i by omega), Bool.true_and, bef_i _ _ (by omega)]) | (rw [decide_eq_false (by omega)]; rfl)), trivial⟩, rfl⟩
            · refine VD.skip ?_
              refine VD.skip ?_
              refine VD.nw [] ?_
              refine VD.skip ?_
              refine VD.skip ?_
              refine VD.skip ?_
              refine VD.skip ?_
              refine VD.skip ?_
              refine VD.skip ?_
              refine VD.skip ?_
              refine VD.nw [] ?_
              refine VD.skip ?_
              refine VD.skip ?_
              refine VD.skip ?_
              refine VD.c (.pickF rfl rfl) ?_
              refine VD.nil ?_
              exact ⟨⟨rfl, rfl, rfl, slE rfl (by first | (rw [cmp_bef hd (piece_zero (hz (i - 1) (by omega))) c10', decide_eq_true (show 0 < i by omega), Bool.true_and, bef_i _ _ (by omega)]) | (rw [decide_eq_false (by omega)]; rfl)), trivial⟩, rfl⟩
          show VC _ _ _ _ _ _ _ _
          refine VC.condB rfl (fun c12 => ?_) (fun c12 => ?_)
          · try simp only [Bool.and_eq_true, Bool.or_eq_true, Bool.and_eq_false_iff, Bool.or_eq_false_iff, Bool.not_eq_true', Bool.not_eq_false', decide_eq_true_eq, decide_eq_false_iff_not] at c12
            have c12' : (decide (0 < i) && decide (0 ≤ cmpP (plE d (pcA l (i - 1))) (plE d (pcA l i)))) = true := by rw [decide_eq_true c12.1, decide_eq_true c12.2] <;> rfl
            refine VC.seq ?_
            refine VC.text ?_
            refine VO.c (.assign rfl) ?_
            refine VO.go ?_
            refine VC.ret ?_
            exact VEnd.one rfl evT (pvI (by rw [storeE, if_pos hn, ← firstE_range hi' hz (by rw [piece_z c10', c12']; decide), piece_z c10', c12'] <;> rfl))
          · try simp only [Bool.and_eq_true, Bool.or_eq_true, Bool.and_eq_false_iff, Bool.or_eq_false_iff, Bool.not_eq_true', Bool.not_eq_false', decide_eq_true_eq, decide_eq_false_iff_not] at c12
            have c12' : (decide (0 < i) && decide (0 ≤ cmpP (plE d (pcA l (i - 1))) (plE d (pcA l i)))) = false := by rw [Bool.eq_false_iff]; simp only [ne_eq, Bool.and_eq_true, decide_eq_true_iff]; omega
            refine VC.skip ?_
            show VC _ _ _ _ _ _ _ _
            refine VC.text ?_
            refine VO.c (.move rfl) ?_
            refine VO.c (.add rfl rfl (by omega)) ?_
            refine VO.c (.assign rfl) ?_
            refine VO.nil ?_
            refine ⟨_, [(1, .v y96 l), (2, .p y95 d), (6, I (((i + 1) : Nat) : Int))], ?_, ⟨rfl, rfl, rfl, trivial⟩, (i + 1), rfl, rfl, rfl, (by omega), (by intro k hk; rcases Nat.lt_succ_iff_lt_or_eq.1 hk with h | h; exact hz k h; subst h; rw [piece_z c10', c12'] <;> rfl)⟩
            omega
      · refine VC.exit ?_
        show VC _ _ _ _ _ _ _ _
        refine VC.seq ?_
        refine VC.text ?_
        refine VO.c (.assign rfl) ?_
        refine VO.go ?_
        refine VC.ret ?_
        exact VEnd.one rfl evT (pvI (by rw [storeE, if_pos hn]; exact firstE_range0 (fun k hk => hz k (by omega))))
end Go.Proofs
namespace Go.Fs
variable {P : Program} {orc : FuncId → List Value → Heap → Option (Value × Heap)} {fl : VL} {σ : Sto} {T T' e ty : TypeId} {τ : Ty} {ops : Array Oper} {n : Nat} {l : List Oper} {K : VL → Sto → Prop} {d : Tmp} {pos : String} {after : Array Edge} {g : Option (Nat × Bool)} {x y : Operand} {xs : List τ.den}
theorem keyAggB {K : TypeId} {κ : Ty} (hE : EqT P K κ) (hB : (match P.underlying K with | some td => isAggD td | none => false) = true) (ha : κ.agg = true) (hf : κ.isFlat = true) (hc : ∀ (em : Bool) (x : κ.den), (runPure P (Instr.checkKey em 10000 K (.agg (κ.flatC x).toArray))).isSome = true) : KeyT P K κ := by
  cases h : P.underlying K with
  | none => rw [h] at hB; cases hB
  | some td => rw [h] at hB; exact keyAgg hE h hB ha hf hc
theorem agg_one {w : Value} (h : oneCell w = true) : isAggV w = false := by
  cases w <;> first | rfl | cases h
end Go.Fs
namespace Go.Proofs
open Go.Fs Ieee
set_option linter.unusedVariables false
abbrev y141 : Ty := (.pair .str (.pair (.int .i64) (.int .i64)))
abbrev y208 : Ty := (.mp (.pair .str (.pair (.int .i64) (.int .i64))) (.pair (.int .i64) (.pair .str (.pair (.int .i64) (.pair (.int .i64) (.sl (.flt .f32)))))))
theorem vt141 : ValT Tryz.prog 141 y141 := valT_of (by kernel_rfl)
theorem zt141 : ZerT Tryz.prog 141 y141 := zerT_of (z := .agg #[.string ByteArray.empty, .int .i64 0, .int .i64 0]) (by kernel_rfl) rfl rfl
theorem bt141 : BldT Tryz.prog 141 y141 [(0, 1), (1, 1), (2, 1)] := bldT_of zt141 rfl (by kernel_rfl)
theorem eq141 : EqT Tryz.prog 141 y141 := eqT_of (by kernel_rfl)
theorem mt208 : MapT Tryz.prog 208 y141 y160 := ⟨141, 160, by kernel_rfl, keyAggB eq141 (by kernel_rfl) rfl rfl fun _ _ => by kernel_rfl, zt160⟩
/-! ## The pieces of a run -/
abbrev Sl := ByteArray × Int × Int
def slotE (p : Pc) : Sl := (p.2.1, p.2.2.1, p.2.2.2.1)
def runM (l : List Pc) (n : Int) : Nat → List (Sl × Pc)
  | 0 => []
  | i + 1 => if (pcA l i).1 = n then mset (runM l n i) (slotE (pcA l i)) (pcA l i) else runM l n i
theorem sSlot_ok {p : Int × ByteArray × Int × Int × (List Nat)} : VF Tryz.prog OA 167 [.v y160 p] (.v y141 (slotE p)) := by
  refine VF.enter Tryz.func167 rfl (fun _ _ => rfl) rfl ?_
  show VC _ _ _ _ _ [(0, .v y160 p)] [] _
  refine VC.seq ?_
  refine VC.text ?_
  refine VO.new (.box) ?_
  refine VO.cell (.alloc zt141) ?_
  intro ww1
  refine VO.go ?_
  refine VC.seq ?_
  refine VC.text ?_
  refine VO.c (.fa (.r (.l .o))) ?_
  refine VO.r (.ld vt9) ?_
  refine VO.c (.fa (.r (.r (.l .o)))) ?_
  refine VO.r (.ld vt3) ?_
  refine VO.c (.fa (.r (.r (.r (.l .o))))) ?_
  refine VO.r (.ld vt3) ?_
  refine VO.c (.build (p.2.1, p.2.2.1, p.2.2.2.1) bt141) ?_
  refine VO.setV (cs' := [St p.2.1, I p.2.2.1, I p.2.2.2.1]) vt141 .v ?_
  refine VO.go ?_
  refine VC.ret ?_
  exact VEnd.one rfl (.cell (x := (p.2.1, p.2.2.1, p.2.2.2.1)) rfl m0 vt141 .refl) (pvE (by first | rfl | simp))
theorem sRun_ok {l : List (Int × ByteArray × Int × Int × (List Nat))} {n : Int} (hl : l.length < 100000) : VF Tryz.prog OA 128 [.v y108 l, I n] (.v y208 (runM l n l.length)) := by
  refine VF.enter Tryz.func128 rfl (fun _ _ => rfl) rfl ?_
  show VC _ _ _ _ _ [(0, .v y108 l), (1, I n)] [] _
  refine VC.seq ?_
  refine VC.text ?_
  refine VO.c (.assign rfl) ?_
  refine VO.go ?_
  refine VC.seq ?_
  refine VC.text ?_
  refine VO.cell (.mkMap y141 y160) ?_
  intro ww2
  refine VO.c (.assign rfl) ?_
  refine VO.go ?_
  refine VC.seq ?_
  refine VC.seq ?_
  refine VC.text ?_
  refine VO.c (.move rfl) ?_
  refine VO.r (.len el108) ?_
  refine VO.c (.move rfl) ?_
  refine VO.go ?_
  refine VC.block ?_
  refine VC.keep [(1, I n), (5, .raw ww2), (9, .v y108 l), (10, I ((l.length : Nat) : Int)), (11, I ((0 : Nat) : Int))] ⟨rfl, rfl, rfl, rfl, rfl, trivial⟩ ?_
  refine VC.loop (I := fun kk ff ss => ∃ (i : Nat), kk = l.length - i ∧ ff = [(1, I n), (5, .raw ww2), (9, .v y108 l), (10, I ((l.length : Nat) : Int)), (11, I ((i : Nat) : Int))] ∧ ss = [(ww2, .mp y141 y160 (runM l n i))] ∧ (i ≤ l.length)) ?_ _ _ _ ⟨0, rfl, rfl, rfl, Nat.zero_le _⟩
  rintro kk ff ss ⟨i, hk0, rfl, rfl, hi⟩
  refine VC.seq ?_
  refine VC.text ?_
  refine VO.c (.lss) ?_
  refine VO.go ?_
  refine VC.seq ?_
  refine VC.condD rfl (fun c3 => ?_) (fun c3 => ?_)
  · have hi' : i < l.length := by omega
    refine VC.skip ?_
    show VC _ _ _ _ _ _ _ _
    refine VC.seq ?_
    refine VC.block ?_
    refine VC.seq ?_
    refine VC.text ?_
    refine VO.c (.ix (j := i) rfl rfl el108 (by omega)) ?_
    refine VO.r (.ld vt160) ?_
    refine VO.cell (.alloc zt160) ?_
    intro ww3
    refine VO.setV (cs' := [I ((l[i]).1), St ((l[i]).2.1), I ((l[i]).2.2.1), I ((l[i]).2.2.2.1), .v y124 ((l[i]).2.2.2.2)]) vt160 .v ?_
    refine VO.shut [(7, .p y160 (l[i]))] (.cons rfl (.var m0 .refl) .nil) ?_
    refine VO.go ?_
    refine VC.seq ?_
    refine VC.text ?_
    refine VO.c (.fa (.l .o)) ?_
    refine VO.r (.ld vt3) ?_
    refine VO.c (.move rfl) ?_
    refine VO.c (.eql) ?_
    refine VO.go ?_
    refine VC.condD rfl (fun c5 => ?_) (fun c5 => ?_)
    · refine VC.drawn ?_
      refine VD.c (.move rfl) ?_
      refine VD.r [] (.ld vt160) (.inl rfl) ?_
      refine VD.call rfl rfl (VF.call (sSlot_ok )) ?_
      refine VD.r [] (.ld vt160) (.inl rfl) ?_
      refine VD.mk0 (MakeV.mput mt208 rfl rfl rfl) ?_
      rintro _ _ tl4 ⟨rfl, rfl⟩
      refine VD.nil ?_
      show VC _ _ _ _ _ _ _ _
      refine VC.text ?_
      refine VO.c (.add rfl rfl (by omega)) ?_
      refine VO.c (.move rfl) ?_
      refine VO.nil ?_
      refine ⟨_, [(1, I n), (5, .raw ww2), (9, .v y108 l), (10, I ((l.length : Nat) : Int)), (11, I (((i + 1) : Nat) : Int))], ?_, ⟨rfl, rfl, rfl, rfl, rfl, trivial⟩, (i + 1), rfl, rfl, (by rw [runM, ← pcA_eq hi']; first | rw [if_pos c5] | rw [if_neg c5]), (by omega)⟩
      omega
    · refine VC.skip ?_
      show VC _ _ _ _ _ _ _ _
      refine VC.text ?_
      refine VO.c (.add rfl rfl (by omega)) ?_
      refine VO.c (.move rfl) ?_
      refine VO.nil ?_
      refine ⟨_, [(1, I n), (5, .raw ww2), (9, .v y108 l), (10, I ((l.length : Nat) : Int)), (11, I (((i + 1) : Nat) : Int))], ?_, ⟨rfl, rfl, rfl, rfl, rfl, trivial⟩, (i + 1), rfl, rfl, (by rw [runM, ← pcA_eq hi']; first | rw [if_pos c5] | rw [if_neg c5]), (by omega)⟩
      omega
  · refine VC.exit ?_
    show VC _ _ _ _ _ _ _ _
    refine VC.seq ?_
    refine VC.text ?_
    refine VO.c (.move rfl) ?_
    refine VO.c (.assign rfl) ?_
    refine VO.go ?_
    refine VC.ret ?_
    exact VEnd.one rfl (evC (.mp m0)) (pvE (by rw [show i = l.length by omega]))
def rowsQ (q : Nat → Option (List Nat)) (n : Nat) : List (List Nat) × Bool := bif (List.range n).all (fun r => (q r).isSome) then ((List.range n).map (fun r => (q r).getD []), true) else ([], false)
def hasQ (m : List (Sl × Pc)) (x : ByteArray) (t : Int) (r : Nat) : Option (List Nat) := (mget m (x, t, (r : Int))).map (·.2.2.2.2)
end Go.Proofs
namespace Go.Proofs
open Go.Fs Ieee
set_option linter.unusedVariables false
abbrev y145 : Ty := (.pair .str (.pair (.int .i64) (.int .i64)))
theorem zt145 : ZerT Tryz.prog 145 y145 := zerT_of (z := .agg #[.string ByteArray.empty, .int .i64 0, .int .i64 0]) (by kernel_rfl) rfl rfl
theorem bt145 : BldT Tryz.prog 145 y145 [(0, 1), (1, 1), (2, 1)] := bldT_of zt145 rfl (by kernel_rfl)
/-! ## The field of a member -/
theorem runM_some {l : List Pc} {n : Int} {k : Sl} {p : Pc} : ∀ (i : Nat), mget (runM l n i) k = some p → ∃ j, j < i ∧ p = pcA l j ∧ (pcA l j).1 = n ∧ slotE (pcA l j) = k
  | 0, h => by cases h
  | i + 1, h => by
    rw [runM] at h
    split at h
    · rename_i hn
      rw [mget_mset] at h
      split at h
      · rename_i hk
        injection h with h
        exact ⟨i, by omega, h.symm, hn, hk.symm⟩
      · obtain ⟨j, h1, h2⟩ := runM_some i h
        exact ⟨j, by omega, h2⟩
    · obtain ⟨j, h1, h2⟩ := runM_some i h
      exact ⟨j, by omega, h2⟩
theorem runM_none {l : List Pc} {n : Int} {k : Sl} : ∀ (i : Nat), mget (runM l n i) k = none → ∀ j, j < i → (pcA l j).1 = n → slotE (pcA l j) ≠ k
  | 0, _, j, hj, _ => by omega
  | i + 1, h, j, hj, hn => by
    rw [runM] at h
    rcases Nat.lt_succ_iff_lt_or_eq.1 hj with h3 | h3
    · split at h
      · rw [mget_mset] at h
        split at h
        · cases h
        · exact runM_none i h j h3 hn
      · exact runM_none i h j h3 hn
    · subst h3
      rw [if_pos hn, mget_mset] at h
      split at h
      · cases h
      · rename_i hk; exact fun e => hk e.symm
theorem pcA_mem {l : List Pc} {j : Nat} (h : j < l.length) : pcA l j ∈ l := by rw [← pcA_eq h]; exact List.getElem_mem _
def fieldA (d : Dom) (l : List Pc) (n : Int) : Int := firstE [storeE d l, rangeE n 0 100000]
def fieldB2 (d : Dom) (x : ByteArray) (t : Int) : Int := firstE [whenE (!(hasM d x).isSome) 10, rangeE t 0 (d.2.2.1 - 1)]
def fieldV (d : Dom) (l : List Pc) (n : Int) (x : ByteArray) (t : Int) : List (List Nat) × Int := if fieldA d l n ≠ 0 then ([], fieldA d l n) else if fieldB2 d x t ≠ 0 then ([], fieldB2 d x t) else ((rowsQ (hasQ (runM l n l.length) x t) d.1.toNat).1, whenE (!(rowsQ (hasQ (runM l n l.length) x t) d.1.toNat).2) 7)
theorem store_dom {d : Dom} {l : List Pc} (h : storeE d l = 0) : domE d = 0 ∧ l.length ≤ 4096 ∧ ∀ k, k < l.length → pieceE d l k = 0 := by
  unfold storeE at h
  split at h
  · rename_i h0
    have := storeP_ok h0
    rw [firstE_zero] at h
    exact ⟨this.1, this.2, fun k hk => h _ (List.mem_map_of_mem (List.mem_range.2 hk))⟩
  · contradiction
theorem fieldA_ok {d : Dom} {l : List Pc} {n : Int} (h : fieldA d l n = 0) : storeE d l = 0 ∧ rangeE n 0 100000 = 0 := by
  unfold fieldA at h
  rw [firstE_zero] at h
  exact ⟨h _ (by simp), h _ (by simp)⟩
def fieldC (d : Dom) (n : Int) (x : ByteArray) (t : Int) : Int := if rangeE n 0 100000 ≠ 0 then rangeE n 0 100000 else if memAt d.2.2.2 x < 0 then 10 else rangeE t 0 (d.2.2.1 - 1)
def hitB (n : Int) (s : Sl) (p : Pc) : Bool := decide (p.1 = n ∧ p.2.1 = s.1 ∧ p.2.2.1 = s.2.1 ∧ p.2.2.2.1 = s.2.2)
def fndE (l : List Pc) (n : Int) (s : Sl) : Int := if l.findIdx (hitB n s) < l.length then (l.findIdx (hitB n s) : Nat) else -1
theorem rFind_ok {l : List (Int × ByteArray × Int × Int × (List Nat))} {n : Int} {s : ByteArray × Int × Int} (hl : l.length < 100000) : VF Tryz.prog OA 132 [.v y96 l, I n, .v y145 s] (I (fndE l n s)) := by
  refine VF.enter Tryz.func132 rfl (fun _ _ => rfl) rfl ?_
  show VC _ _ _ _ _ [(0, .v y96 l), (1, I n), (2, .v y145 s)] [] _
  refine VC.seq ?_
  refine VC.text ?_
  refine VO.new (.box) ?_
  refine VO.c (.assign rfl) ?_
  refine VO.go ?_
  refine VC.seq ?_
  refine VC.seq ?_
  refine VC.text ?_
  refine VO.c (.assign rfl) ?_
  refine VO.go ?_
  refine VC.block ?_
  refine VC.keep [(0, .v y96 l), (1, I n), (5, .p y145 s), (7, I ((0 : Nat) : Int))] ⟨rfl, rfl, rfl, rfl, trivial⟩ ?_
  refine VC.loop (I := fun kk ff ss => ∃ (i : Nat), kk = l.length - i ∧ ff = [(0, .v y96 l), (1, I n), (5, .p y145 s), (7, I ((i : Nat) : Int))] ∧ ss = [] ∧ (i ≤ l.length) ∧ (∀ j (hj : j < i) (hj' : j < l.length), hitB n s l[j] = false)) ?_ _ _ _ ⟨0, rfl, rfl, rfl, Nat.zero_le _, (by intro j hj; omega)⟩
  rintro kk ff ss ⟨i, hk0, rfl, rfl, hi, hn⟩
  refine VC.seq ?_
  refine VC.seq ?_
  refine VC.text ?_
  refine VO.c (.move rfl) ?_
  refine VO.c (.move rfl) ?_
  refine VO.r (.len el96) ?_
  refine VO.c (.lss) ?_
  refine VO.go ?_
  refine VC.condD rfl (fun c2 => ?_) (fun c2 => ?_)
  · have hi' : i < l.length := by omega
    refine VC.skip ?_
    show VC _ _ _ _ _ _ _ _
    refine VC.seq ?_
    refine VC.block ?_
    refine VC.seq ?_
    refine VC.join [(0, .v y96 l), (1, I n), (5, .p y145 s), (7, I ((i : Nat) : Int)), (50, B (hitB n s l[i]))] [] ?_ ?_
    · skip
      refine VC.drawn ?_
      refine VD.c (.move rfl) ?_
      refine VD.c (.move rfl) ?_
      refine VD.c (.ix (j := i) rfl rfl el96 (by omega)) ?_
      refine VD.c (.fa (.l .o)) ?_
      refine VD.r [] (.ld vt3) (.inl rfl) ?_
      refine VD.c (.move rfl) ?_
      refine VD.nw [] ?_
      refine VD.c (.eql) ?_
      refine VD.c (.move rfl) ?_
      refine VD.splitD (x := 21) rfl (fun g4_7 => ?_) (fun g4_7 => ?_)
      · refine VD.c (.move rfl) ?_
        refine VD.c (.move rfl) ?_
        refine VD.c (.ix (j := i) rfl rfl el96 (by omega)) ?_
        refine VD.c (.fa (.r (.l .o))) ?_
        refine VD.nw [] ?_
        refine VD.r [] (.ld vt9) (.inl rfl) ?_
        refine VD.c (.fa (.l .o)) ?_
        refine VD.r [] (.ld vt9) (.inl rfl) ?_
        refine VD.c (.seql) ?_
        refine VD.c (.pickT rfl rfl) ?_
        refine VD.c (.move rfl) ?_
        refine VD.splitD (x := 31) rfl (fun g4_17 => ?_) (fun g4_17 => ?_)
        · refine VD.nw [] ?_
          refine VD.c (.move rfl) ?_
          refine VD.c (.move rfl) ?_
          refine VD.c (.ix (j := i) rfl rfl el96 (by omega)) ?_
          refine VD.c (.fa (.r (.r (.l .o)))) ?_
          refine VD.r [] (.ld vt3) (.inl rfl) ?_
          refine VD.c (.fa (.r (.l .o))) ?_
          refine VD.r [] (.ld vt3) (.inl rfl) ?_
          refine VD.nw [] ?_
          refine VD.c (.eql) ?_
          refine VD.c (.pickT rfl rfl) ?_
          refine VD.c (.move rfl) ?_
          refine VD.splitD (x := 41) rfl (fun g4_27 => ?_) (fun g4_27 => ?_)
          · refine VD.c (.move rfl) ?_
            refine VD.c (.move rfl) ?_
            refine VD.c (.ix (j := i) rfl rfl el96 (by omega)) ?_
            refine VD.nw [] ?_
            refine VD.c (.fa (.r (.r (.r (.l .o))))) ?_
            refine VD.r [] (.ld vt3) (.inl rfl) ?_
            refine VD.c (.fa (.r (.r .o))) ?_
            refine VD.r [] (.ld vt3) (.inl rfl) ?_
            refine VD.c (.eql) ?_
            refine VD.c (.pickT rfl rfl) ?_
            refine VD.nil ?_
            exact ⟨⟨rfl, rfl, rfl, rfl, slE rfl (by rw [Bool.eq_iff_iff]; simp [hitB, *]), trivial⟩, rfl⟩
          · refine VD.skip ?_
            refine VD.skip ?_
            refine VD.skip ?_
            refine VD.nw [] ?_
            refine VD.skip ?_
            refine VD.skip ?_
            refine VD.skip ?_
            refine VD.skip ?_
            refine VD.skip ?_
            refine VD.c (.pickF rfl rfl) ?_
            refine VD.nil ?_
            exact ⟨⟨rfl, rfl, rfl, rfl, slE rfl (by rw [Bool.eq_iff_iff]; simp [hitB, *]), trivial⟩, rfl⟩
        · refine VD.nw [] ?_
          refine VD.skip ?_
          refine VD.skip ?_
          refine VD.skip ?_
          refine VD.skip ?_
          refine VD.skip ?_
          refine VD.skip ?_
          refine VD.skip ?_
          refine VD.nw [] ?_
          refine VD.skip ?_
          refine VD.c (.pickF rfl rfl) ?_
          refine VD.c (.move rfl) ?_
          refine VD.skip ?_
          refine VD.skip ?_
          refine VD.skip ?_
          refine VD.skip ?_
          refine VD.nw [] ?_
          refine VD.skip ?_
          refine VD.skip ?_
          refine VD.skip ?_
          refine VD.skip ?_
          refine VD.c (.pickF rfl rfl) ?_
          refine VD.nil ?_
          exact ⟨⟨rfl, rfl, rfl, rfl, slE rfl (by rw [Bool.eq_iff_iff]; simp [hitB, *]), trivial⟩, rfl⟩
      · refine VD.skip ?_
        refine VD.skip ?_
        refine VD.skip ?_
        refine VD.skip ?_
        refine VD.nw [] ?_
        refine VD.skip ?_
        refine VD.skip ?_
        refine VD.skip ?_
        refine VD.skip ?_
        refine VD.c (.pickF rfl rfl) ?_
        refine VD.c (.move rfl) ?_
        refine VD.skip ?_
        refine VD.nw [] ?_
        refine VD.skip ?_
        refine VD.skip ?_
        refine VD.skip ?_
        refine VD.skip ?_
        refine VD.skip ?_
        refine VD.skip ?_
        refine VD.skip ?_
        refine VD.nw [] ?_
        refine VD.c (.pickF rfl rfl) ?_
        refine VD.c (.move rfl) ?_
        refine VD.skip ?_
        refine VD.skip ?_
        refine VD.skip ?_
        refine VD.skip ?_
        refine VD.skip ?_
        refine VD.nw [] ?_
        refine VD.skip ?_
        refine VD.skip ?_
        refine VD.skip ?_
        refine VD.c (.pickF rfl rfl) ?_
        refine VD.nil ?_
        exact ⟨⟨rfl, rfl, rfl, rfl, slE rfl (by rw [Bool.eq_iff_iff]; simp [hitB, *]), trivial⟩, rfl⟩
    show VC _ _ _ _ _ _ _ _
    refine VC.condB rfl (fun c4 => ?_) (fun c4 => ?_)
    · refine VC.seq ?_
      refine VC.text ?_
      refine VO.c (.move rfl) ?_
      refine VO.c (.assign rfl) ?_
      refine VO.go ?_
      refine VC.ret ?_
      exact VEnd.one rfl evT (pvI (by rw [fndE, (List.findIdx_eq hi').2 ⟨c4, fun j hj => hn j hj (by omega)⟩, if_pos hi']))
    · refine VC.skip ?_
      show VC _ _ _ _ _ _ _ _
      refine VC.text ?_
      refine VO.c (.move rfl) ?_
      refine VO.c (.add rfl rfl (by omega)) ?_
      refine VO.c (.assign rfl) ?_
      refine VO.nil ?_
      refine ⟨_, [(0, .v y96 l), (1, I n), (5, .p y145 s), (7, I (((i + 1) : Nat) : Int))], ?_, ⟨rfl, rfl, rfl, rfl, trivial⟩, (i + 1), rfl, rfl, rfl, (by omega), (by intro j hj hj'; rcases Nat.lt_succ_iff_lt_or_eq.1 hj with h | h; exact hn j h hj'; subst h; exact c4)⟩
      omega
  · refine VC.exit ?_
    show VC _ _ _ _ _ _ _ _
    refine VC.seq ?_
    refine VC.text ?_
    refine VO.c (.assign rfl) ?_
    refine VO.go ?_
    refine VC.ret ?_
    exact VEnd.one rfl evT (pvI (by rw [fndE, List.findIdx_eq_length.2 (fun p hp => by obtain ⟨k, hk, rfl⟩ := List.getElem_of_mem hp; exact hn k (by omega) hk), if_neg (by omega)]))
def plusZ (x : Nat) : Nat := (single.add x 0).getD 0
def fndQ (l : List Pc) (n : Int) (x : ByteArray) (t : Int) (r : Nat) : Option (List Nat) := if fndE l n (x, t, (r : Int)) < 0 then none else some ((pcA l (fndE l n (x, t, (r : Int))).toNat).2.2.2.2.map plusZ)
end Go.Proofs
namespace Go.Proofs
open Go.Fs Ieee
set_option linter.unusedVariables false
abbrev y93 : Ty := (.sl (.pair .str (.int .i64)))
abbrev y203 : Ty := (.pair .str (.int .i64))
theorem vt203 : ValT Tryz.prog 203 y203 := valT_of (by kernel_rfl)
theorem zt106 : ZerT Tryz.prog 106 y106 := zerT_of (z := .agg #[.int .i64 0, .int .i64 0, .int .i64 0, .slice none 0 0]) (by kernel_rfl) rfl rfl
theorem zt152 : ZerT Tryz.prog 152 y152 := zerT_of (z := .agg #[.int .i64 0, .string ByteArray.empty, .int .i64 0, .int .i64 0, .slice none 0 0]) (by kernel_rfl) rfl rfl
theorem zt203 : ZerT Tryz.prog 203 y203 := zerT_of (z := .agg #[.string ByteArray.empty, .int .i64 0]) (by kernel_rfl) rfl rfl
theorem bt106 : BldT Tryz.prog 106 y106 [(0, 1), (1, 1), (2, 1), (3, 1)] := bldT_of zt106 rfl (by kernel_rfl)
/-! ## What a law asks and says -/
def sameLv (a b : List Nat) : Bool := decide (a.length = b.length ∧ ∀ i, i < a.length → fcmpE .neq .f32 (a.getD i 0) (b.getD i 0) = false)
def sameRw (a b : List (List Nat)) : Bool := decide (a.length = b.length ∧ ∀ i, i < a.length → sameLv (a.getD i []) (b.getD i []) = true)
def shortD (d : Dom) : Bool := decide ((d.2.2.2.length ≤ 3 ∨ d.2.2.2.length = 17) ∧ (∀ i, i < d.2.2.2.length → (nmE d.2.2.2 i).size ≤ 60) ∧ (d.1 ≤ 3 ∨ 8 < d.1) ∧ (d.2.1 ≤ 3 ∨ 8 < d.2.1) ∧ (d.2.2.1 ≤ 3 ∨ 96 < d.2.2.1))
theorem rShortD_ok {d : Int × Int × Int × (List (ByteArray × Int))} (hl : d.2.2.2.length ≤ 9223372036854775807) : VF Tryz.prog OA 52 [.v y95 d] (B (shortD d)) := by
  refine VF.enter Tryz.func52 rfl (fun _ _ => rfl) rfl ?_
  show VC _ _ _ _ _ [(0, .v y95 d)] [] _
  refine VC.seq ?_
  refine VC.text ?_
  refine VO.new (.box) ?_
  refine VO.c (.assign rfl) ?_
  refine VO.go ?_
  refine VC.seq ?_
  refine VC.seq ?_
  refine VC.text ?_
  refine VO.c (.fa (.r (.r (.r .o)))) ?_
  refine VO.r (.ld vt93) ?_
  refine VO.r (.len el93) ?_
  refine VO.c (.gtr) ?_
  refine VO.c (.move rfl) ?_
  refine VO.cg (r := decide ((3 : Int) < ((d.2.2.2.length : Nat) : Int))) (w := true) [] trivial (fun hgd => have g1_4 : (3 : Int) < ((d.2.2.2.length : Nat) : Int) := (by simpa using hgd); (.fa (.r (.r (.r .o))))) ?_
  refine VO.rg (r := decide ((3 : Int) < ((d.2.2.2.length : Nat) : Int))) (w := true) [(9, .p y93 d.2.2.2)] ⟨rfl, trivial⟩ (fun hgd => have g1_4 : (3 : Int) < ((d.2.2.2.length : Nat) : Int) := (by simpa using hgd); (.ld vt93)) ?_
  refine VO.rg (r := decide ((3 : Int) < ((d.2.2.2.length : Nat) : Int))) (w := true) [(10, .v y93 d.2.2.2)] ⟨rfl, trivial⟩ (fun hgd => have g1_4 : (3 : Int) < ((d.2.2.2.length : Nat) : Int) := (by simpa using hgd); (.len el93)) ?_
  refine VO.cg (r := decide ((3 : Int) < ((d.2.2.2.length : Nat) : Int))) (w := true) [(11, I ((d.2.2.2.length : Nat) : Int))] ⟨rfl, trivial⟩ (fun hgd => have g1_4 : (3 : Int) < ((d.2.2.2.length : Nat) : Int) := (by simpa using hgd); (.neq)) ?_
  refine VO.c (.and) ?_
  refine VO.go ?_
  refine VC.condB rfl (fun c1 => ?_) (fun c1 => ?_)
  · try simp only [Bool.and_eq_true, Bool.or_eq_true, Bool.and_eq_false_iff, Bool.or_eq_false_iff, Bool.not_eq_true', Bool.not_eq_false', decide_eq_true_eq, decide_eq_false_iff_not] at c1
    refine VC.seq ?_
    refine VC.text ?_
    refine VO.c (.assign rfl) ?_
    refine VO.go ?_
    refine VC.ret ?_
    exact VEnd.one rfl evT (pvE (by exact (decide_eq_false fun hh => by have := hh.1; omega).symm))
  · try simp only [Bool.and_eq_true, Bool.or_eq_true, Bool.and_eq_false_iff, Bool.or_eq_false_iff, Bool.not_eq_true', Bool.not_eq_false', decide_eq_true_eq, decide_eq_false_iff_not] at c1
    refine VC.skip ?_
    show VC _ _ _ _ _ _ _ _
    refine VC.seq ?_
    refine VC.seq ?_
    refine VC.text ?_
    refine VO.c (.assign rfl) ?_
    refine VO.go ?_
    refine VC.block ?_
    refine VC.keep [(1, .p y95 d), (3, I ((0 : Nat) : Int))] ⟨rfl, rfl, trivial⟩ ?_
    refine VC.loop (I := fun kk ff ss => ∃ (i : Nat), kk = d.2.2.2.length - i ∧ ff = [(1, .p y95 d), (3, I ((i : Nat) : Int))] ∧ ss = [] ∧ (i ≤ d.2.2.2.length) ∧ (∀ j, j < i → (nmE d.2.2.2 j).size ≤ 60)) ?_ _ _ _ ⟨0, rfl, rfl, rfl, Nat.zero_le _, (by intro j hj; omega)⟩
    rintro kk ff ss ⟨i, hk0, rfl, rfl, hi, hn⟩
    refine VC.seq ?_
    refine VC.seq ?_
    refine VC.text ?_
    refine VO.c (.move rfl) ?_
    refine VO.c (.fa (.r (.r (.r .o)))) ?_
    refine VO.r (.ld vt93) ?_
    refine VO.r (.len el93) ?_
    refine VO.c (.lss) ?_
    refine VO.go ?_
    refine VC.condD rfl (fun c4 => ?_) (fun c4 => ?_)
    · have hi' : i < d.2.2.2.length := by omega
      refine VC.skip ?_
      show VC _ _ _ _ _ _ _ _
      refine VC.seq ?_
      refine VC.block ?_
      refine VC.seq ?_
      refine VC.text ?_
      refine VO.c (.fa (.r (.r (.r .o)))) ?_
      refine VO.r (.ld vt93) ?_
      refine VO.c (.move rfl) ?_
      refine VO.c (.ix (j := i) rfl rfl el93 (by omega)) ?_
      refine VO.c (.fa (.l .o)) ?_
      refine VO.r (.ld vt9) ?_
      refine VO.r (.lenS) ?_
      refine VO.c (.gtr) ?_
      refine VO.go ?_
      refine VC.condD rfl (fun c6 => ?_) (fun c6 => ?_)
      · refine VC.seq ?_
        refine VC.text ?_
        refine VO.c (.assign rfl) ?_
        refine VO.go ?_
        refine VC.ret ?_
        exact VEnd.one rfl evT (pvE (by exact (decide_eq_false fun hh => by have := hh.2.1 i hi'; rw [← nmE_eq hi'] at this; omega).symm))
      · refine VC.skip ?_
        show VC _ _ _ _ _ _ _ _
        refine VC.text ?_
        refine VO.c (.move rfl) ?_
        refine VO.c (.add rfl rfl (by omega)) ?_
        refine VO.c (.assign rfl) ?_
        refine VO.nil ?_
        refine ⟨_, [(1, .p y95 d), (3, I (((i + 1) : Nat) : Int))], ?_, ⟨rfl, rfl, trivial⟩, (i + 1), rfl, rfl, rfl, (by omega), (by intro j hj; rcases Nat.lt_succ_iff_lt_or_eq.1 hj with h | h; exact hn j h; subst h; rw [← nmE_eq hi']; omega)⟩
        omega
    · have he : shortD d = decide ((d.1 ≤ 3 ∨ 8 < d.1) ∧ (d.2.1 ≤ 3 ∨ 8 < d.2.1) ∧ (d.2.2.1 ≤ 3 ∨ 96 < d.2.2.1)) := decide_eq_decide.2 ⟨fun h => h.2.2, fun h => ⟨by omega, fun j hj => hn j (by omega), h⟩⟩
      refine VC.exit ?_
      show VC _ _ _ _ _ _ _ _
      refine VC.seq ?_
      refine VC.join [(2, B (shortD d))] [] ?_ ?_
      · skip
        refine VC.text ?_
        refine VO.c (.fa (.l .o)) ?_
        refine VO.r (.ld vt3) ?_
        refine VO.c (.leq) ?_
        refine VO.c (.move rfl) ?_
        refine VO.cg (r := decide (d.1 ≤ (3 : Int))) (w := false) [] trivial (fun hgd => have g8_3 : ¬ (d.1 ≤ (3 : Int)) := (by simpa using hgd); (.fa (.l .o))) ?_
        refine VO.rg (r := decide (d.1 ≤ (3 : Int))) (w := false) [(33, .p (.int .i64) d.1)] ⟨rfl, trivial⟩ (fun hgd => have g8_3 : ¬ (d.1 ≤ (3 : Int)) := (by simpa using hgd); (.ld vt3)) ?_
        refine VO.cg (r := decide (d.1 ≤ (3 : Int))) (w := false) [(34, I d.1)] ⟨rfl, trivial⟩ (fun hgd => have g8_3 : ¬ (d.1 ≤ (3 : Int)) := (by simpa using hgd); (.gtr)) ?_
        refine VO.c (.or) ?_
        refine VO.c (.move rfl) ?_
        refine VO.splitB (x := 37) rfl (fun g8_8 => ?_) (fun g8_8 => ?_)
        · try simp only [Bool.and_eq_true, Bool.or_eq_true, Bool.and_eq_false_iff, Bool.or_eq_false_iff, Bool.not_eq_true', Bool.not_eq_false', decide_eq_true_eq, decide_eq_false_iff_not] at g8_8
          refine VO.c (.fa (.r (.l .o))) ?_
          refine VO.r (.ld vt3) ?_
          refine VO.c (.leq) ?_
          refine VO.c (.move rfl) ?_
          refine VO.cg (r := decide (d.2.1 ≤ (3 : Int))) (w := false) [] trivial (fun hgd => have g8_12 : ¬ (d.2.1 ≤ (3 : Int)) := (by simpa using hgd); (.fa (.r (.l .o)))) ?_
          refine VO.rg (r := decide (d.2.1 ≤ (3 : Int))) (w := false) [(42, .p (.int .i64) d.2.1)] ⟨rfl, trivial⟩ (fun hgd => have g8_12 : ¬ (d.2.1 ≤ (3 : Int)) := (by simpa using hgd); (.ld vt3)) ?_
          refine VO.cg (r := decide (d.2.1 ≤ (3 : Int))) (w := false) [(43, I d.2.1)] ⟨rfl, trivial⟩ (fun hgd => have g8_12 : ¬ (d.2.1 ≤ (3 : Int)) := (by simpa using hgd); (.gtr)) ?_
          refine VO.c (.or) ?_
          refine VO.c (.pickT rfl rfl) ?_
          refine VO.c (.move rfl) ?_
          refine VO.splitB (x := 47) rfl (fun g8_18 => ?_) (fun g8_18 => ?_)
          · try simp only [Bool.and_eq_true, Bool.or_eq_true, Bool.and_eq_false_iff, Bool.or_eq_false_iff, Bool.not_eq_true', Bool.not_eq_false', decide_eq_true_eq, decide_eq_false_iff_not] at g8_18
            refine VO.c (.fa (.r (.r (.l .o)))) ?_
            refine VO.r (.ld vt3) ?_
            refine VO.c (.leq) ?_
            refine VO.c (.move rfl) ?_
            refine VO.cg (r := decide (d.2.2.1 ≤ (3 : Int))) (w := false) [] trivial (fun hgd => have g8_22 : ¬ (d.2.2.1 ≤ (3 : Int)) := (by simpa using hgd); (.fa (.r (.r (.l .o))))) ?_
            refine VO.rg (r := decide (d.2.2.1 ≤ (3 : Int))) (w := false) [(52, .p (.int .i64) d.2.2.1)] ⟨rfl, trivial⟩ (fun hgd => have g8_22 : ¬ (d.2.2.1 ≤ (3 : Int)) := (by simpa using hgd); (.ld vt3)) ?_
            refine VO.cg (r := decide (d.2.2.1 ≤ (3 : Int))) (w := false) [(53, I d.2.2.1)] ⟨rfl, trivial⟩ (fun hgd => have g8_22 : ¬ (d.2.2.1 ≤ (3 : Int)) := (by simpa using hgd); (.gtr)) ?_
            refine VO.c (.or) ?_
            refine VO.c (.pickT rfl rfl) ?_
            refine VO.c (.assign rfl) ?_
            refine VO.nil ?_
            exact ⟨⟨slE rfl (by rw [he, Bool.eq_iff_iff]; simp only [Bool.and_eq_true, Bool.or_eq_true, decide_eq_true_eq, Bool.false_eq_true, true_iff, false_iff] <;> omega), trivial⟩, rfl⟩
          · try simp only [Bool.and_eq_true, Bool.or_eq_true, Bool.and_eq_false_iff, Bool.or_eq_false_iff, Bool.not_eq_true', Bool.not_eq_false', decide_eq_true_eq, decide_eq_false_iff_not] at g8_18
            refine VO.skip ?_
            refine VO.skip ?_
            refine VO.skip ?_
            refine VO.skip ?_
            refine VO.skip ?_
            refine VO.skip ?_
            refine VO.skip ?_
            refine VO.skip ?_
            refine VO.c (.pickF rfl rfl) ?_
            refine VO.c (.assign rfl) ?_
            refine VO.nil ?_
            exact ⟨⟨slE rfl (by rw [he, Bool.eq_iff_iff]; simp only [Bool.and_eq_true, Bool.or_eq_true, decide_eq_true_eq, Bool.false_eq_true, true_iff, false_iff] <;> omega), trivial⟩, rfl⟩
        · try simp only [Bool.and_eq_true, Bool.or_eq_true, Bool.and_eq_false_iff, Bool.or_eq_false_iff, Bool.not_eq_true', Bool.not_eq_false', decide_eq_true_eq, decide_eq_false_iff_not] at g8_8
          refine VO.skip ?_
          refine VO.skip ?_
          refine VO.skip ?_
          refine VO.skip ?_
          refine VO.skip ?_
          refine VO.skip ?_
          refine VO.skip ?_
          refine VO.skip ?_
          refine VO.c (.pickF rfl rfl) ?_
          refine VO.c (.move rfl) ?_
          refine VO.skip ?_
          refine VO.skip ?_
          refine VO.skip ?_
          refine VO.skip ?_
          refine VO.skip ?_
          refine VO.skip ?_
          refine VO.skip ?_
          refine VO.skip ?_
          refine VO.c (.pickF rfl rfl) ?_
          refine VO.c (.assign rfl) ?_
          refine VO.nil ?_
          exact ⟨⟨slE rfl (by rw [he, Bool.eq_iff_iff]; simp only [Bool.and_eq_true, Bool.or_eq_true, decide_eq_true_eq, Bool.false_eq_true, true_iff, false_iff] <;> omega), trivial⟩, rfl⟩
      show VC _ _ _ _ _ _ _ _
      refine VC.ret ?_
      exact VEnd.one rfl evT (pvE (by first | rfl | simp))
def shortS (l : List Pc) (k : Int) : Bool := decide (((l.length : Int) ≤ k ∨ (l.length : Int) = 4097) ∧ ∀ i, i < l.length → (pcA l i).2.1.size ≤ 60 ∧ (pcA l i).2.2.2.2.length ≤ 9)
theorem rShortS_ok {l : List (Int × ByteArray × Int × Int × (List Nat))} {k : Int} (hl : l.length ≤ 9223372036854775807) : VF Tryz.prog OA 53 [.v y96 l, I k] (B (shortS l k)) := by
  refine VF.enter Tryz.func53 rfl (fun _ _ => rfl) rfl ?_
  show VC _ _ _ _ _ [(0, .v y96 l), (1, I k)] [] _
  refine VC.seq ?_
  refine VC.text ?_
  refine VO.c (.assign rfl) ?_
  refine VO.go ?_
  refine VC.seq ?_
  refine VC.seq ?_
  refine VC.text ?_
  refine VO.c (.move rfl) ?_
  refine VO.r (.len el96) ?_
  refine VO.c (.move rfl) ?_
  refine VO.c (.gtr) ?_
  refine VO.c (.move rfl) ?_
  refine VO.cg (r := decide (k < ((l.length : Nat) : Int))) (w := true) [] trivial (fun hgd => have g1_4 : k < ((l.length : Nat) : Int) := (by simpa using hgd); (.move rfl)) ?_
  refine VO.rg (r := decide (k < ((l.length : Nat) : Int))) (w := true) [(11, .v y96 l)] ⟨rfl, trivial⟩ (fun hgd => have g1_4 : k < ((l.length : Nat) : Int) := (by simpa using hgd); (.len el96)) ?_
  refine VO.cg (r := decide (k < ((l.length : Nat) : Int))) (w := true) [(12, I ((l.length : Nat) : Int))] ⟨rfl, trivial⟩ (fun hgd => have g1_4 : k < ((l.length : Nat) : Int) := (by simpa using hgd); (.neq)) ?_
  refine VO.c (.and) ?_
  refine VO.go ?_
  refine VC.condB rfl (fun c1 => ?_) (fun c1 => ?_)
  · try simp only [Bool.and_eq_true, Bool.or_eq_true, Bool.and_eq_false_iff, Bool.or_eq_false_iff, Bool.not_eq_true', Bool.not_eq_false', decide_eq_true_eq, decide_eq_false_iff_not] at c1
    refine VC.seq ?_
    refine VC.text ?_
    refine VO.c (.assign rfl) ?_
    refine VO.go ?_
    refine VC.ret ?_
    exact VEnd.one rfl evT (pvE (by exact (decide_eq_false fun hh => by have := hh.1; omega).symm))
  · try simp only [Bool.and_eq_true, Bool.or_eq_true, Bool.and_eq_false_iff, Bool.or_eq_false_iff, Bool.not_eq_true', Bool.not_eq_false', decide_eq_true_eq, decide_eq_false_iff_not] at c1
    refine VC.skip ?_
    show VC _ _ _ _ _ _ _ _
    refine VC.seq ?_
    refine VC.seq ?_
    refine VC.text ?_
    refine VO.c (.assign rfl) ?_
    refine VO.go ?_
    refine VC.block ?_
    refine VC.keep [(0, .v y96 l), (5, I ((0 : Nat) : Int))] ⟨rfl, rfl, trivial⟩ ?_
    refine VC.loop (I := fun kk ff ss => ∃ (i : Nat), kk = l.length - i ∧ ff = [(0, .v y96 l), (5, I ((i : Nat) : Int))] ∧ ss = [] ∧ (i ≤ l.length) ∧ (∀ j, j < i → (pcA l j).2.1.size ≤ 60 ∧ (pcA l j).2.2.2.2.length ≤ 9)) ?_ _ _ _ ⟨0, rfl, rfl, rfl, Nat.zero_le _, (by intro j hj; omega)⟩
    rintro kk ff ss ⟨i, hk0, rfl, rfl, hi, hn⟩
    refine VC.seq ?_
    refine VC.seq ?_
    refine VC.text ?_
    refine VO.c (.move rfl) ?_
    refine VO.c (.move rfl) ?_
    refine VO.r (.len el96) ?_
    refine VO.c (.lss) ?_
    refine VO.go ?_
    refine VC.condD rfl (fun c4 => ?_) (fun c4 => ?_)
    · have hi' : i < l.length := by omega
      refine VC.skip ?_
      show VC _ _ _ _ _ _ _ _
      refine VC.seq ?_
      refine VC.block ?_
      refine VC.seq ?_
      refine VC.join [(0, .v y96 l), (5, I ((i : Nat) : Int)), (36, B (!decide ((pcA l i).2.1.size ≤ 60 ∧ (pcA l i).2.2.2.2.length ≤ 9)))] [] ?_ ?_
      · skip
        refine VC.text ?_
        refine VO.c (.move rfl) ?_
        refine VO.c (.move rfl) ?_
        refine VO.c (.ix (j := i) rfl rfl el96 (by omega)) ?_
        refine VO.c (.fa (.r (.l .o))) ?_
        refine VO.r (.ld vt9) ?_
        refine VO.r (.lenS) ?_
        refine VO.c (.gtr) ?_
        refine VO.c (.move rfl) ?_
        refine VO.splitD (x := 28) rfl (fun g6_7 => ?_) (fun g6_7 => ?_)
        · refine VO.skip ?_
          refine VO.skip ?_
          refine VO.skip ?_
          refine VO.skip ?_
          refine VO.skip ?_
          refine VO.skip ?_
          refine VO.skip ?_
          refine VO.c (.pickT rfl rfl) ?_
          refine VO.nil ?_
          exact ⟨⟨rfl, rfl, slE rfl (by rw [← pcA_eq hi', Bool.eq_iff_iff]; simp <;> omega), trivial⟩, rfl⟩
        · refine VO.c (.move rfl) ?_
          refine VO.c (.move rfl) ?_
          refine VO.c (.ix (j := i) rfl rfl el96 (by omega)) ?_
          refine VO.c (.fa (.r (.r (.r (.r .o))))) ?_
          refine VO.r (.ld vt124) ?_
          refine VO.r (.len el124) ?_
          refine VO.c (.gtr) ?_
          refine VO.c (.pickF rfl rfl) ?_
          refine VO.nil ?_
          exact ⟨⟨rfl, rfl, slE rfl (by rw [← pcA_eq hi', Bool.eq_iff_iff]; simp <;> omega), trivial⟩, rfl⟩
      show VC _ _ _ _ _ _ _ _
      refine VC.condB rfl (fun c6 => ?_) (fun c6 => ?_)
      · try simp only [Bool.and_eq_true, Bool.or_eq_true, Bool.and_eq_false_iff, Bool.or_eq_false_iff, Bool.not_eq_true', Bool.not_eq_false', decide_eq_true_eq, decide_eq_false_iff_not] at c6
        have c6' : ¬ ((pcA l i).2.1.size ≤ 60 ∧ (pcA l i).2.2.2.2.length ≤ 9) := by omega
        refine VC.seq ?_
        refine VC.text ?_
        refine VO.c (.assign rfl) ?_
        refine VO.go ?_
        refine VC.ret ?_
        exact VEnd.one rfl evT (pvE (by exact (decide_eq_false fun hh => c6' (hh.2 i hi')).symm))
      · try simp only [Bool.and_eq_true, Bool.or_eq_true, Bool.and_eq_false_iff, Bool.or_eq_false_iff, Bool.not_eq_true', Bool.not_eq_false', decide_eq_true_eq, decide_eq_false_iff_not] at c6
        have c6' : (pcA l i).2.1.size ≤ 60 ∧ (pcA l i).2.2.2.2.length ≤ 9 := by omega
        refine VC.skip ?_
        show VC _ _ _ _ _ _ _ _
        refine VC.text ?_
        refine VO.c (.move rfl) ?_
        refine VO.c (.add rfl rfl (by omega)) ?_
        refine VO.c (.assign rfl) ?_
        refine VO.nil ?_
        refine ⟨_, [(0, .v y96 l), (5, I (((i + 1) : Nat) : Int))], ?_, ⟨rfl, rfl, trivial⟩, (i + 1), rfl, rfl, rfl, (by omega), (by intro j hj; rcases Nat.lt_succ_iff_lt_or_eq.1 hj with h | h; exact hn j h; subst h; exact c6')⟩
        omega
    · refine VC.exit ?_
      show VC _ _ _ _ _ _ _ _
      refine VC.seq ?_
      refine VC.text ?_
      refine VO.c (.assign rfl) ?_
      refine VO.go ?_
      refine VC.ret ?_
      exact VEnd.one rfl evT (pvE (by exact (decide_eq_true ⟨by omega, fun j hj => hn j (by omega)⟩).symm))
theorem lDom_ok {d : Int × Int × Int × (List (ByteArray × Int))} (hl : d.2.2.2.length < 100000) : VF Tryz.prog OA 55 [.v y95 d] (.v y106 d) := by
  refine VF.enter Tryz.func55 rfl (fun _ _ => rfl) rfl ?_
  show VC _ _ _ _ _ [(0, .v y95 d)] [] _
  refine VC.seq ?_
  refine VC.text ?_
  refine VO.new (.box) ?_
  refine VO.cell (.alloc zt106) ?_
  intro ww1
  refine VO.go ?_
  refine VC.seq ?_
  refine VC.text ?_
  refine VO.c (.fa (.l .o)) ?_
  refine VO.r (.ld vt3) ?_
  refine VO.c (.fa (.r (.l .o))) ?_
  refine VO.r (.ld vt3) ?_
  refine VO.c (.fa (.r (.r (.l .o)))) ?_
  refine VO.r (.ld vt3) ?_
  refine VO.c (.buildA (cs := [I d.1, I d.2.1, I d.2.2.1, nilV]) bt106 rfl) ?_
  refine VO.cell (.alloc zt106) ?_
  intro ww2
  refine VO.setV (cs' := [I d.1, I d.2.1, I d.2.2.1, nilV]) vt106 (.aggs rfl rfl) ?_
  refine VO.go ?_
  refine VC.seq ?_
  refine VC.seq ?_
  refine VC.text ?_
  refine VO.c (.fa (.r (.r (.r .o)))) ?_
  refine VO.r (.ld vt93) ?_
  refine VO.r (.len el93) ?_
  refine VO.c (.move rfl) ?_
  refine VO.go ?_
  refine VC.block ?_
  refine VC.cell0 210 y210 ?_
  refine VC.keep [(2, .raw ww1), (3, .raw ww2), (14, .v y93 d.2.2.2), (15, I ((d.2.2.2.length : Nat) : Int)), (16, I ((0 : Nat) : Int))] ⟨rfl, rfl, rfl, rfl, rfl, trivial⟩ ?_
  refine VC.loop (I := fun kk ff ss => ∃ (i : Nat) (w : Value), kk = d.2.2.2.length - i ∧ ff = [(2, .raw ww1), (3, .raw ww2), (14, .v y93 d.2.2.2), (15, I ((d.2.2.2.length : Nat) : Int)), (16, I ((i : Nat) : Int))] ∧ ss = [(w, .row 210 y210 (d.2.2.2.take i)), (ww2, .var [I d.1, I d.2.1, I d.2.2.1, .raw w]), (ww1, .var [I (0 : Int), I (0 : Int), I (0 : Int), .v y104 []])] ∧ (i ≤ d.2.2.2.length)) ?_ _ _ _ ⟨0, (.slice none 0 0), rfl, rfl, rfl, Nat.zero_le _⟩
  rintro kk ff ss ⟨i, w, hk0, rfl, rfl, hi⟩
  refine VC.seq ?_
  refine VC.text ?_
  refine VO.c (.lss) ?_
  refine VO.go ?_
  refine VC.seq ?_
  refine VC.condD rfl (fun c3 => ?_) (fun c3 => ?_)
  · refine VC.skip ?_
    show VC _ _ _ _ _ _ _ _
    refine VC.seq ?_
    refine VC.block ?_
    refine VC.seq ?_
    refine VC.text ?_
    refine VO.c (.ix (j := i) rfl rfl el93 (by omega)) ?_
    refine VO.r (.ld vt203) ?_
    refine VO.cell (.alloc zt203) ?_
    intro ww3
    refine VO.setV (cs' := [St ((d.2.2.2[i]).1), I ((d.2.2.2[i]).2)]) vt203 .v ?_
    refine VO.shut [(5, .p y203 (d.2.2.2[i]))] (.cons rfl (.var m0 .refl) .nil) ?_
    refine VO.go ?_
    refine VC.text ?_
    refine VO.c (.faO (k := 3) m1) ?_
    refine VO.r (.ldF (k := 3) m1 vt104) ?_
    refine VO.r (.ld vt203) ?_
    refine VO.new (.lit [d.2.2.2[i]] el104) ?_
    refine VO.app rfl rfl el104 el104 (by simp; omega) ?_
    intro ww4
    refine VO.c (.faO (k := 3) m1) ?_
    refine VO.perm swap1 ?_
    refine VO.one m1 fun ho5 => ?_
    refine VO.setF (cs' := [I d.1, I d.2.1, I d.2.2.1, .raw ww4]) 3 vt104 (.raw rfl (agg_one ho5) ho5) ?_
    refine VO.nil ?_
    show VC _ _ _ _ _ _ _ _
    refine VC.text ?_
    refine VO.c (.add rfl rfl (by omega)) ?_
    refine VO.c (.move rfl) ?_
    refine VO.perm swap2 ?_
    refine VO.perm swap1 ?_
    refine VO.perm swap2 ?_
    refine VO.nil ?_
    refine ⟨_, [(2, .raw ww1), (3, .raw ww2), (14, .v y93 d.2.2.2), (15, I ((d.2.2.2.length : Nat) : Int)), (16, I (((i + 1) : Nat) : Int))], ?_, ⟨rfl, rfl, rfl, rfl, rfl, trivial⟩, (i + 1), ww4, rfl, rfl, (by rw [List.take_succ_eq_append_getElem (by omega)] <;> rfl), (by omega)⟩
    omega
  · refine VC.exit ?_
    show VC _ _ _ _ _ _ _ _
    refine VC.seq ?_
    refine VC.shutL [(w, .row 210 y210 (d.2.2.2.take i)), (ww2, .var [I d.1, I d.2.1, I d.2.2.1, .raw w])] [(3, .p y106 (d.1, d.2.1, d.2.2.1, (d.2.2.2.take i)))] rfl (.cons rfl (.var m1 (.cons .same (.cons .same (.cons .same (.cons (.row m0) .nil))))) .nil) ?_
    refine VC.text ?_
    refine VO.r (.ld vt106) ?_
    refine VO.setV (cs' := [I d.1, I d.2.1, I d.2.2.1, .v y104 (d.2.2.2.take i)]) vt106 .v ?_
    refine VO.go ?_
    refine VC.ret ?_
    exact VEnd.one rfl (.cell (x := (d.1, d.2.1, d.2.2.1, (d.2.2.2.take i))) rfl m0 vt106 .refl) (pvE (by rw [List.take_of_length_le (by omega)]))
theorem lPc_ok {p : Int × ByteArray × Int × Int × (List Nat)} (hl : p.2.2.2.2.length < 100000) : VF Tryz.prog OA 83 [.v y152 p] (.v y160 p) := by
  refine VF.enter Tryz.func83 rfl (fun _ _ => rfl) rfl ?_
  show VC _ _ _ _ _ [(0, .v y152 p)] [] _
  refine VC.seq ?_
  refine VC.text ?_
  refine VO.new (.box) ?_
  refine VO.cell (.alloc zt160) ?_
  intro ww6
  refine VO.go ?_
  refine VC.seq ?_
  refine VC.text ?_
  refine VO.r (.ld vt152) ?_
  refine VO.cell (.alloc zt160) ?_
  intro ww7
  refine VO.setV (cs' := [I p.1, St p.2.1, I p.2.2.1, I p.2.2.2.1, .v y124 p.2.2.2.2]) vt160 .v ?_
  refine VO.go ?_
  refine VC.seq ?_
  refine VC.text ?_
  refine VO.cell (.lit0 el124) ?_
  intro ww8
  refine VO.c (.fa (.r (.r (.r (.r .o))))) ?_
  refine VO.r (.ld vt124) ?_
  refine VO.app rfl rfl el124 el124 (by simp; omega) ?_
  intro ww9
  refine VO.c (.faO (k := 4) m1) ?_
  refine VO.perm swap1 ?_
  refine VO.one m1 fun ho10 => ?_
  refine VO.setF (cs' := [I p.1, St p.2.1, I p.2.2.1, I p.2.2.2.1, .raw ww9]) 4 vt124 (.raw rfl (agg_one ho10) ho10) ?_
  refine VO.go ?_
  refine VC.seq ?_
  refine VC.perm swap1 ?_
  refine VC.shutL [(ww9, .row 127 (.flt .f32) p.2.2.2.2), (ww7, .var [I p.1, St p.2.1, I p.2.2.1, I p.2.2.2.1, .raw ww9])] [(3, .p y160 (p.1, p.2.1, p.2.2.1, p.2.2.2.1, p.2.2.2.2))] rfl (.cons rfl (.var m1 (.cons .same (.cons .same (.cons .same (.cons .same (.cons (.row m0) .nil)))))) .nil) ?_
  refine VC.text ?_
  refine VO.r (.ld vt160) ?_
  refine VO.setV (cs' := [I p.1, St p.2.1, I p.2.2.1, I p.2.2.2.1, .v y124 p.2.2.2.2]) vt160 .v ?_
  refine VO.go ?_
  refine VC.ret ?_
  exact VEnd.one rfl (.cell (x := (p.1, p.2.1, p.2.2.1, p.2.2.2.1, p.2.2.2.2)) rfl m0 vt160 .refl) (pvE (by first | rfl | simp))
theorem lPcs_ok {l : List (Int × ByteArray × Int × Int × (List Nat))} (hl : l.length < 100000) (hr : ∀ r ∈ l, r.2.2.2.2.length < 100000) : VF Tryz.prog OA 56 [.v y96 l] (.v y108 l) := by
  refine VF.enter Tryz.func56 rfl (fun _ _ => rfl) rfl ?_
  show VC _ _ _ _ _ [(0, .v y96 l)] [] _
  refine VC.seq ?_
  refine VC.text ?_
  refine VO.c (.assign rfl) ?_
  refine VO.go ?_
  refine VC.seq ?_
  refine VC.text ?_
  refine VO.c (.assign rfl) ?_
  refine VO.go ?_
  refine VC.seq ?_
  refine VC.seq ?_
  refine VC.text ?_
  refine VO.c (.move rfl) ?_
  refine VO.r (.len el96) ?_
  refine VO.c (.move rfl) ?_
  refine VO.go ?_
  refine VC.block ?_
  refine VC.cell0 160 y160 ?_
  refine VC.keep [(3, .raw (.slice none 0 0)), (6, .v y96 l), (7, I ((l.length : Nat) : Int)), (8, I ((0 : Nat) : Int))] ⟨rfl, rfl, rfl, rfl, trivial⟩ ?_
  refine VC.loop (I := fun kk ff ss => ∃ (j : Nat) (out : Value), kk = l.length - j ∧ ff = [(3, .raw out), (6, .v y96 l), (7, I ((l.length : Nat) : Int)), (8, I ((j : Nat) : Int))] ∧ ss = [(out, .row 160 y160 (l.take j))] ∧ (j ≤ l.length)) ?_ _ _ _ ⟨0, (.slice none 0 0), rfl, rfl, rfl, Nat.zero_le _⟩
  rintro kk ff ss ⟨j, out, hk0, rfl, rfl, hj⟩
  refine VC.seq ?_
  refine VC.text ?_
  refine VO.c (.lss) ?_
  refine VO.go ?_
  refine VC.seq ?_
  refine VC.condD rfl (fun c3 => ?_) (fun c3 => ?_)
  · refine VC.skip ?_
    show VC _ _ _ _ _ _ _ _
    refine VC.seq ?_
    refine VC.block ?_
    refine VC.seq ?_
    refine VC.text ?_
    refine VO.c (.ix (j := j) rfl rfl el96 (by omega)) ?_
    refine VO.r (.ld vt152) ?_
    refine VO.cell (.alloc zt152) ?_
    intro ww11
    refine VO.setV (cs' := [I ((l[j]).1), St ((l[j]).2.1), I ((l[j]).2.2.1), I ((l[j]).2.2.2.1), .v y124 ((l[j]).2.2.2.2)]) vt152 .v ?_
    refine VO.shut [(5, .p y152 (l[j]))] (.cons rfl (.var m0 .refl) .nil) ?_
    refine VO.go ?_
    refine VC.text ?_
    refine VO.c (.move rfl) ?_
    refine VO.r (.ld vt152) ?_
    refine VO.call rfl rfl (VF.call (lPc_ok (hr _ (List.getElem_mem _)))) ?_
    refine VO.new (.lit [(l[j])] el108) ?_
    refine VO.app rfl rfl el108 el108 (by simp; omega) ?_
    intro ww12
    refine VO.c (.assign rfl) ?_
    refine VO.nil ?_
    show VC _ _ _ _ _ _ _ _
    refine VC.text ?_
    refine VO.c (.add rfl rfl (by omega)) ?_
    refine VO.c (.move rfl) ?_
    refine VO.nil ?_
    refine ⟨_, [(3, .raw ww12), (6, .v y96 l), (7, I ((l.length : Nat) : Int)), (8, I (((j + 1) : Nat) : Int))], ?_, ⟨rfl, rfl, rfl, rfl, trivial⟩, (j + 1), ww12, rfl, rfl, (by rw [List.take_succ_eq_append_getElem (by omega)] <;> rfl), (by omega)⟩
    omega
  · refine VC.exit ?_
    show VC _ _ _ _ _ _ _ _
    refine VC.seq ?_
    refine VC.text ?_
    refine VO.c (.move rfl) ?_
    refine VO.c (.assign rfl) ?_
    refine VO.go ?_
    refine VC.ret ?_
    exact VEnd.one rfl (evC (.row m0)) (pvE (by rw [List.take_of_length_le (by omega)]))
end Go.Proofs
namespace Go.Proofs
open Go.Fs Ieee
set_option linter.unusedVariables false
abbrev y98 : Ty := (.pair (.int .i64) (.pair .str (.int .i64)))
/-! ## The law of fields -/
theorem pc_lv {d : Dom} {p : Pc} (h : pcE d p = 0) : pcPre d p = 0 ∧ ∀ x ∈ p.2.2.2.2, lvlE x = 0 := by
  unfold pcE at h
  split at h
  · rename_i h0
    rw [firstE_zero] at h
    exact ⟨h0, fun x hx => h _ (List.mem_map_of_mem hx)⟩
  · contradiction
theorem step_lt {d : Dom} {l : List Pc} {i : Nat} (h : pieceE d l (i + 1) = 0) : ¬ 0 ≤ cmpP (plE d (pcA l i)) (plE d (pcA l (i + 1))) := fun hc => by
  rw [piece_z (piece_zero h)] at h
  rw [show i + 1 - 1 = i from rfl, decide_eq_true hc, decide_eq_true (Nat.succ_pos i)] at h
  cases h
theorem cmp_trans {a b c : Pc × Int} (h1 : ¬ 0 ≤ cmpP a b) (h2 : ¬ 0 ≤ cmpP b c) : ¬ 0 ≤ cmpP a c := by
  unfold cmpP at *
  have e3 : 0 ≤ firstE [] := by decide
  simp only [firstE_cmp, e3, and_true] at *
  omega
theorem all_lt {d : Dom} {l : List Pc} (hz : ∀ k, k < l.length → pieceE d l k = 0) {j : Nat} : ∀ (i : Nat), j < i → i < l.length → ¬ 0 ≤ cmpP (plE d (pcA l j)) (plE d (pcA l i))
  | 0, h, _ => by omega
  | i + 1, h, hi => by
    have h1 := step_lt (hz _ hi)
    rcases Nat.lt_succ_iff_lt_or_eq.1 h with h3 | h3
    · exact cmp_trans (all_lt hz i h3 (by omega)) h1
    · subst h3; exact h1
theorem cmp_same {d : Dom} {a b : Pc} (h1 : a.1 = b.1) (h2 : slotE a = slotE b) : 0 ≤ cmpP (plE d a) (plE d b) := by
  have e1 : a.2.1 = b.2.1 := congrArg (·.1) h2
  have e2 : a.2.2.1 = b.2.2.1 := congrArg (·.2.1) h2
  have e4 : a.2.2.2.1 = b.2.2.2.1 := congrArg (·.2.2) h2
  have e3 : 0 ≤ firstE [] := by decide
  unfold cmpP plE
  simp [e1, e2, e4, h1, firstE, show ∀ x : Int, cmpI x x = 0 from fun _ => cmpI_eq rfl]
theorem slot_uniq {d : Dom} {l : List Pc} (hz : ∀ k, k < l.length → pieceE d l k = 0) {i j : Nat} (hi : i < l.length) (hj : j < l.length) (h1 : (pcA l i).1 = (pcA l j).1) (h2 : slotE (pcA l i) = slotE (pcA l j)) : i = j := by
  rcases Nat.lt_trichotomy i j with h | h | h
  · exact absurd (cmp_same h1 h2) (all_lt hz j h hj)
  · exact h
  · exact absurd (cmp_same h1.symm h2.symm) (all_lt hz i h hi)
theorem hitB_iff {n : Int} {s : Sl} {p : Pc} : hitB n s p = true ↔ p.1 = n ∧ slotE p = s := by
  unfold hitB slotE
  rw [decide_eq_true_iff]
  constructor
  · rintro ⟨h1, h2, h3, h4⟩; exact ⟨h1, by rw [h2, h3, h4]⟩
  · rintro ⟨h1, h2⟩; subst h2; exact ⟨h1, rfl, rfl, rfl⟩
theorem fnd_run {d : Dom} {l : List Pc} (hz : ∀ k, k < l.length → pieceE d l k = 0) (n : Int) (s : Sl) : mget (runM l n l.length) s = if fndE l n s < 0 then none else some (pcA l (fndE l n s).toNat) := by
  unfold fndE
  by_cases h : l.findIdx (hitB n s) < l.length
  · rw [if_pos h, if_neg (by omega)]
    have h1 : hitB n s l[l.findIdx (hitB n s)] = true := List.findIdx_getElem (w := h)
    rw [pcA_eq h] at h1
    obtain ⟨h2, h3⟩ := hitB_iff.1 h1
    cases hg : mget (runM l n l.length) s with
    | none => exact absurd h3 (runM_none _ hg _ h h2)
    | some p =>
      obtain ⟨j, j1, rfl, j2, j3⟩ := runM_some _ hg
      rw [slot_uniq hz j1 h (j2.trans h2.symm) (j3.trans h3.symm)]
      simp
  · rw [if_neg h, if_pos (by omega)]
    cases hg : mget (runM l n l.length) s with
    | none => rfl
    | some p =>
      obtain ⟨j, j1, rfl, j2, j3⟩ := runM_some _ hg
      have h5 : l.findIdx (hitB n s) = l.length := Nat.le_antisymm List.findIdx_le_length (by omega)
      have h4 := List.findIdx_eq_length.1 h5 _ (pcA_mem j1)
      rw [hitB_iff.2 ⟨j2, j3⟩] at h4; cases h4
end Go.Proofs
namespace Go.Proofs
open Go.Fs Ieee
set_option linter.unusedVariables false
theorem vt145 : ValT Tryz.prog 145 y145 := valT_of (by kernel_rfl)
/-! ## What is missing -/
def slM (d : Dom) (m t r : Nat) : Sl := (nmE d.2.2.2 m, (t : Int), (r : Int))
def preT (d : Dom) (m t : Nat) : List Sl := (List.range t).flatMap fun t => (List.range d.1.toNat).map (slM d m t)
def preM (d : Dom) (m : Nat) : List Sl := (List.range m).flatMap fun m => preT d m d.2.2.1.toNat
def preR (d : Dom) (m t r : Nat) : List Sl := preM d m ++ (preT d m t ++ (List.range r).map (slM d m t))
def lost (l : List Pc) (n : Int) (s : Sl) : Bool := decide (fndE l n s < 0)
def missL (d : Dom) (l : List Pc) (n : Int) : List Sl := (preM d d.2.2.2.length).filter (lost l n)
def z3 : Sl := (ByteArray.empty, 0, 0)
def cntE (d : Dom) (l : List Pc) (n : Int) (m t r : Nat) : Nat := ((preR d m t r).filter (lost l n)).length
def hdE (d : Dom) (l : List Pc) (n : Int) (m t r : Nat) : Sl := ((preR d m t r).filter (lost l n)).headD z3
theorem preR_row (d : Dom) (m t : Nat) : preR d m t d.1.toNat = preR d m (t + 1) 0 := by
  unfold preR preT
  rw [List.range_succ, List.flatMap_append]
  simp
theorem preR_tick (d : Dom) (m : Nat) : preR d m d.2.2.1.toNat 0 = preR d (m + 1) 0 0 := by
  unfold preR preM
  rw [List.range_succ, List.flatMap_append]
  simp [preT]
theorem preR_end (d : Dom) (m : Nat) : preR d m 0 0 = preM d m := by simp [preR, preT]
theorem preR_succ (d : Dom) (m t r : Nat) : preR d m t (r + 1) = preR d m t r ++ [slM d m t r] := by
  unfold preR
  rw [List.range_succ, List.map_append]
  simp
theorem fil_hit {d : Dom} {l : List Pc} {n : Int} {m t r : Nat} (h : 0 ≤ fndE l n (slM d m t r)) : (preR d m t (r + 1)).filter (lost l n) = (preR d m t r).filter (lost l n) := by
  rw [preR_succ, List.filter_append, List.filter_cons_of_neg (by rw [lost, decide_eq_false (by omega)]; exact Bool.false_ne_true)]
  simp
theorem fil_lost {d : Dom} {l : List Pc} {n : Int} {m t r : Nat} (h : ¬ 0 ≤ fndE l n (slM d m t r)) : (preR d m t (r + 1)).filter (lost l n) = (preR d m t r).filter (lost l n) ++ [slM d m t r] := by
  rw [preR_succ, List.filter_append, List.filter_cons_of_pos (by rw [lost, decide_eq_true (by omega)])]
  simp
theorem cnt_hit {d : Dom} {l : List Pc} {n : Int} {m t r : Nat} (h : 0 ≤ fndE l n (slM d m t r)) : cntE d l n m t (r + 1) = cntE d l n m t r := by rw [cntE, fil_hit h] <;> rfl
theorem cnt_lost {d : Dom} {l : List Pc} {n : Int} {m t r : Nat} (h : ¬ 0 ≤ fndE l n (slM d m t r)) : cntE d l n m t (r + 1) = cntE d l n m t r + 1 := by rw [cntE, fil_lost h, List.length_append] <;> rfl
theorem hd_hit {d : Dom} {l : List Pc} {n : Int} {m t r : Nat} (h : 0 ≤ fndE l n (slM d m t r)) : hdE d l n m t (r + 1) = hdE d l n m t r := by rw [hdE, fil_hit h] <;> rfl
theorem hd_first {d : Dom} {l : List Pc} {n : Int} {m t r : Nat} (h : ¬ 0 ≤ fndE l n (slM d m t r)) (h0 : cntE d l n m t r = 0) : hdE d l n m t (r + 1) = slM d m t r := by
  rw [hdE, fil_lost h, List.eq_nil_of_length_eq_zero h0] <;> rfl
theorem hd_more {d : Dom} {l : List Pc} {n : Int} {m t r : Nat} (h : ¬ 0 ≤ fndE l n (slM d m t r)) (h0 : ¬ cntE d l n m t r = 0) : hdE d l n m t (r + 1) = hdE d l n m t r := by
  rw [hdE, fil_lost h, hdE]
  unfold cntE at h0
  cases hf : (preR d m t r).filter (lost l n) with
  | nil => rw [hf] at h0; exact absurd rfl h0
  | cons a b => rfl
theorem cnt_bound {d : Dom} {l : List Pc} {n : Int} {m t r : Nat} : cntE d l n m t r ≤ (m * d.2.2.1.toNat + t) * d.1.toNat + r := by
  unfold cntE
  refine Nat.le_trans (List.length_filter_le _ _) ?_
  have h1 : ∀ m t, (preT d m t).length = t * d.1.toNat := fun m t => by
    unfold preT
    induction t with
    | zero => simp
    | succ t ih => rw [List.range_succ, List.flatMap_append, List.length_append, ih]; simp [Nat.succ_mul]
  have h2 : (preM d m).length = m * d.2.2.1.toNat * d.1.toNat := by
    unfold preM
    induction m with
    | zero => simp
    | succ m ih => rw [List.range_succ, List.flatMap_append, List.length_append, ih]; simp [h1, Nat.succ_mul, Nat.add_mul]
  unfold preR
  rw [List.length_append, List.length_append, h1, h2, List.length_map, List.length_range, Nat.add_mul, Nat.add_assoc]
  exact Nat.le_refl _
theorem cnt_small {d : Dom} {l : List Pc} {n : Int} {m t r : Nat} (hd : domE d = 0) (hm : m ≤ d.2.2.2.length) (ht : t ≤ d.2.2.1.toNat) (hr : r ≤ d.1.toNat) : cntE d l n m t r ≤ 100000 := by
  obtain ⟨h1, h2, h3, h4, _⟩ := dom_ok hd
  have h5 := cnt_bound (d := d) (l := l) (n := n) (m := m) (t := t) (r := r)
  have h6 : m * d.2.2.1.toNat ≤ 16 * 96 := Nat.mul_le_mul (by omega) (by omega)
  have h7 : (m * d.2.2.1.toNat + t) * d.1.toNat ≤ (16 * 96 + 96) * 8 := Nat.mul_le_mul (by omega) (by omega)
  omega
theorem slM_eq {d : Dom} {m t r : Nat} (h : m < d.2.2.2.length) : (d.2.2.2[m].1, ((t : Nat) : Int), ((r : Nat) : Int)) = slM d m t r := by rw [nmE_eq h] <;> rfl
theorem rMiss_ok {d : Int × Int × Int × (List (ByteArray × Int))} {l : List (Int × ByteArray × Int × Int × (List Nat))} {n : Int} (hd : domE d = 0) (hl : l.length < 100000) : VF Tryz.prog OA 76 [.v y95 d, .v y96 l, I n] (.tup [I ((missL d l n).length : Nat), .v y145 ((missL d l n).headD z3)]) := by
  refine VF.enter Tryz.func76 rfl (fun _ _ => rfl) rfl ?_
  show VC _ _ _ _ _ [(0, .v y95 d), (1, .v y96 l), (2, I n)] [] _
  refine VC.seq ?_
  refine VC.text ?_
  have hdd := dom_ok hd
  refine VO.new (.box) ?_
  refine VO.c (.assign rfl) ?_
  refine VO.cell (.alloc zt145) ?_
  intro ww1
  refine VO.go ?_
  refine VC.seq ?_
  refine VC.text ?_
  refine VO.c (.assign rfl) ?_
  refine VO.go ?_
  refine VC.seq ?_
  refine VC.text ?_
  refine VO.cell (.alloc zt145) ?_
  intro ww2
  refine VO.go ?_
  refine VC.seq ?_
  refine VC.seq ?_
  refine VC.text ?_
  refine VO.c (.assign rfl) ?_
  refine VO.go ?_
  refine VC.block ?_
  refine VC.keep [(1, .v y96 l), (2, I n), (3, .p y95 d), (7, .raw ww1), (8, I ((cntE d l n 0 0 0 : Nat) : Int)), (9, .raw ww2), (10, I ((0 : Nat) : Int))] ⟨rfl, rfl, rfl, rfl, slI rfl (by rfl), rfl, rfl, trivial⟩ ?_
  refine VC.loop (I := fun kk ff ss => ∃ (m : Nat), kk = d.2.2.2.length - m ∧ ff = [(1, .v y96 l), (2, I n), (3, .p y95 d), (7, .raw ww1), (8, I ((cntE d l n m 0 0 : Nat) : Int)), (9, .raw ww2), (10, I ((m : Nat) : Int))] ∧ ss = [(ww2, .var [St ((hdE d l n m 0 0).1), I ((hdE d l n m 0 0).2.1), I ((hdE d l n m 0 0).2.2)]), (ww1, .var [St ByteArray.empty, I (0 : Int), I (0 : Int)])] ∧ (m ≤ d.2.2.2.length)) ?_ _ _ _ ⟨0, rfl, rfl, (by rfl), Nat.zero_le _⟩
  rintro kk ff ss ⟨m, hk0, rfl, rfl, hm⟩
  refine VC.seq ?_
  refine VC.seq ?_
  refine VC.text ?_
  refine VO.c (.move rfl) ?_
  refine VO.c (.fa (.r (.r (.r .o)))) ?_
  refine VO.r (.ld vt93) ?_
  refine VO.r (.len el93) ?_
  refine VO.c (.lss) ?_
  refine VO.go ?_
  refine VC.condD rfl (fun c4 => ?_) (fun c4 => ?_)
  · have hm' : m < d.2.2.2.length := by omega
    refine VC.skip ?_
    show VC _ _ _ _ _ _ _ _
    refine VC.seq ?_
    refine VC.block ?_
    refine VC.seq ?_
    refine VC.text ?_
    refine VO.c (.assign rfl) ?_
    refine VO.go ?_
    refine VC.block ?_
    refine VC.keep [(1, .v y96 l), (2, I n), (3, .p y95 d), (7, .raw ww1), (8, I ((cntE d l n m 0 0 : Nat) : Int)), (9, .raw ww2), (10, I ((m : Nat) : Int)), (11, I ((0 : Nat) : Int))] ⟨rfl, rfl, rfl, rfl, rfl, rfl, rfl, rfl, trivial⟩ ?_
    refine VC.loop (I := fun kk ff ss => ∃ (t : Nat), kk = d.2.2.1.toNat - t ∧ ff = [(1, .v y96 l), (2, I n), (3, .p y95 d), (7, .raw ww1), (8, I ((cntE d l n m t 0 : Nat) : Int)), (9, .raw ww2), (10, I ((m : Nat) : Int)), (11, I ((t : Nat) : Int))] ∧ ss = [(ww2, .var [St ((hdE d l n m t 0).1), I ((hdE d l n m t 0).2.1), I ((hdE d l n m t 0).2.2)]), (ww1, .var [St ByteArray.empty, I (0 : Int), I (0 : Int)])] ∧ (t ≤ d.2.2.1.toNat)) ?_ _ _ _ ⟨0, rfl, rfl, rfl, Nat.zero_le _⟩
    rintro kk ff ss ⟨t, hk2, rfl, rfl, ht⟩
    refine VC.seq ?_
    refine VC.seq ?_
    refine VC.text ?_
    refine VO.c (.move rfl) ?_
    refine VO.c (.fa (.r (.r (.l .o)))) ?_
    refine VO.r (.ld vt3) ?_
    refine VO.c (.lss) ?_
    refine VO.go ?_
    refine VC.condD rfl (fun c7 => ?_) (fun c7 => ?_)
    · refine VC.skip ?_
      show VC _ _ _ _ _ _ _ _
      refine VC.seq ?_
      refine VC.block ?_
      refine VC.seq ?_
      refine VC.text ?_
      refine VO.c (.assign rfl) ?_
      refine VO.go ?_
      refine VC.block ?_
      refine VC.keep [(1, .v y96 l), (2, I n), (3, .p y95 d), (7, .raw ww1), (8, I ((cntE d l n m t 0 : Nat) : Int)), (9, .raw ww2), (10, I ((m : Nat) : Int)), (11, I ((t : Nat) : Int)), (12, I ((0 : Nat) : Int))] ⟨rfl, rfl, rfl, rfl, rfl, rfl, rfl, rfl, rfl, trivial⟩ ?_
      refine VC.loop (I := fun kk ff ss => ∃ (r : Nat), kk = d.1.toNat - r ∧ ff = [(1, .v y96 l), (2, I n), (3, .p y95 d), (7, .raw ww1), (8, I ((cntE d l n m t r : Nat) : Int)), (9, .raw ww2), (10, I ((m : Nat) : Int)), (11, I ((t : Nat) : Int)), (12, I ((r : Nat) : Int))] ∧ ss = [(ww2, .var [St ((hdE d l n m t r).1), I ((hdE d l n m t r).2.1), I ((hdE d l n m t r).2.2)]), (ww1, .var [St ByteArray.empty, I (0 : Int), I (0 : Int)])] ∧ (r ≤ d.1.toNat)) ?_ _ _ _ ⟨0, rfl, rfl, rfl, Nat.zero_le _⟩
      rintro kk ff ss ⟨r, hk4, rfl, rfl, hr⟩
      refine VC.seq ?_
      refine VC.seq ?_
      refine VC.text ?_
      refine VO.c (.move rfl) ?_
      refine VO.c (.fa (.l .o)) ?_
      refine VO.r (.ld vt3) ?_
      refine VO.c (.lss) ?_
      refine VO.go ?_
      refine VC.condD rfl (fun c10 => ?_) (fun c10 => ?_)
      · refine VC.skip ?_
        show VC _ _ _ _ _ _ _ _
        refine VC.seq ?_
        refine VC.block ?_
        refine VC.seq ?_
        refine VC.text ?_
        refine VO.c (.fa (.r (.r (.r .o)))) ?_
        refine VO.r (.ld vt93) ?_
        refine VO.c (.move rfl) ?_
        refine VO.c (.ix (j := m) rfl rfl el93 (by omega)) ?_
        refine VO.c (.fa (.l .o)) ?_
        refine VO.r (.ld vt9) ?_
        refine VO.c (.move rfl) ?_
        refine VO.c (.move rfl) ?_
        refine VO.c (.build ((d.2.2.2[m]).1, ((t : Nat) : Int), ((r : Nat) : Int)) bt145) ?_
        refine VO.cell (.alloc zt145) ?_
        intro ww3
        refine VO.setV (cs' := [St ((d.2.2.2[m]).1), I ((t : Nat) : Int), I ((r : Nat) : Int)]) vt145 .v ?_
        refine VO.shut [(13, .p y145 ((d.2.2.2[m]).1, ((t : Nat) : Int), ((r : Nat) : Int)))] (.cons rfl (.var m0 .refl) .nil) ?_
        refine VO.go ?_
        refine VC.seq ?_
        refine VC.seq ?_
        refine VC.text ?_
        refine VO.c (.move rfl) ?_
        refine VO.c (.move rfl) ?_
        refine VO.r (.ld vt145) ?_
        refine VO.call rfl rfl (VF.call (rFind_ok hl)) ?_
        refine VO.c (.geq) ?_
        refine VO.go ?_
        refine VC.condD rfl (fun c13 => ?_) (fun c13 => ?_)
        · have c13' : 0 ≤ fndE l n (slM d m t r) := by rw [← slM_eq hm']; exact c13
          refine VC.exit ?_
          show VC _ _ _ _ _ _ _ _
          refine VC.text ?_
          refine VO.c (.move rfl) ?_
          refine VO.c (.add rfl rfl (by omega)) ?_
          refine VO.c (.assign rfl) ?_
          refine VO.nil ?_
          refine ⟨_, [(1, .v y96 l), (2, I n), (3, .p y95 d), (7, .raw ww1), (8, I ((cntE d l n m t (r + 1) : Nat) : Int)), (9, .raw ww2), (10, I ((m : Nat) : Int)), (11, I ((t : Nat) : Int)), (12, I (((r + 1) : Nat) : Int))], ?_, ⟨rfl, rfl, rfl, rfl, slI rfl (by first | rw [cnt_hit c13'] | (rw [cnt_lost c13']; rfl)), rfl, rfl, rfl, rfl, trivial⟩, (r + 1), rfl, rfl, (by first | rw [hd_hit c13'] | (rw [hd_first c13' (by omega), ← slM_eq hm']) | rw [hd_more c13' (by omega)]), (by omega)⟩
          omega
        · have c13' : ¬ 0 ≤ fndE l n (slM d m t r) := by rw [← slM_eq hm']; exact c13
          have hcs := cnt_small (l := l) (n := n) hd hm ht hr
          refine VC.skip ?_
          show VC _ _ _ _ _ _ _ _
          refine VC.seq ?_
          refine VC.seq ?_
          refine VC.text ?_
          refine VO.c (.move rfl) ?_
          refine VO.c (.eql) ?_
          refine VO.go ?_
          refine VC.condD rfl (fun c14 => ?_) (fun c14 => ?_)
          · refine VC.text ?_
            refine VO.r (.ld vt145) ?_
            refine VO.setV (cs' := [St ((d.2.2.2[m]).1), I ((t : Nat) : Int), I ((r : Nat) : Int)]) vt145 .v ?_
            refine VO.go ?_
            refine VC.text ?_
            refine VO.c (.move rfl) ?_
            refine VO.c (.add rfl rfl (by omega)) ?_
            refine VO.c (.assign rfl) ?_
            refine VO.nil ?_
            show VC _ _ _ _ _ _ _ _
            refine VC.text ?_
            refine VO.c (.move rfl) ?_
            refine VO.c (.add rfl rfl (by omega)) ?_
            refine VO.c (.assign rfl) ?_
            refine VO.nil ?_
            refine ⟨_, [(1, .v y96 l), (2, I n), (3, .p y95 d), (7, .raw ww1), (8, I ((cntE d l n m t (r + 1) : Nat) : Int)), (9, .raw ww2), (10, I ((m : Nat) : Int)), (11, I ((t : Nat) : Int)), (12, I (((r + 1) : Nat) : Int))], ?_, ⟨rfl, rfl, rfl, rfl, slI rfl (by first | rw [cnt_hit c13'] | (rw [cnt_lost c13']; rfl)), rfl, rfl, rfl, rfl, trivial⟩, (r + 1), rfl, rfl, (by first | rw [hd_hit c13'] | (rw [hd_first c13' (by omega), ← slM_eq hm']) | rw [hd_more c13' (by omega)]), (by omega)⟩
            omega
          · refine VC.skip ?_
            show VC _ _ _ _ _ _ _ _
            refine VC.text ?_
            refine VO.c (.move rfl) ?_
            refine VO.c (.add rfl rfl (by omega)) ?_
            refine VO.c (.assign rfl) ?_
            refine VO.nil ?_
            show VC _ _ _ _ _ _ _ _
            refine VC.text ?_
            refine VO.c (.move rfl) ?_
            refine VO.c (.add rfl rfl (by omega)) ?_
            refine VO.c (.assign rfl) ?_
            refine VO.nil ?_
            refine ⟨_, [(1, .v y96 l), (2, I n), (3, .p y95 d), (7, .raw ww1), (8, I ((cntE d l n m t (r + 1) : Nat) : Int)), (9, .raw ww2), (10, I ((m : Nat) : Int)), (11, I ((t : Nat) : Int)), (12, I (((r + 1) : Nat) : Int))], ?_, ⟨rfl, rfl, rfl, rfl, slI rfl (by first | rw [cnt_hit c13'] | (rw [cnt_lost c13']; rfl)), rfl, rfl, rfl, rfl, trivial⟩, (r + 1), rfl, rfl, (by first | rw [hd_hit c13'] | (rw [hd_first c13' (by omega), ← slM_eq hm']) | rw [hd_more c13' (by omega)]), (by omega)⟩
            omega
      · refine VC.exit ?_
        show VC _ _ _ _ _ _ _ _
        refine VC.text ?_
        refine VO.c (.move rfl) ?_
        refine VO.c (.add rfl rfl (by omega)) ?_
        refine VO.c (.assign rfl) ?_
        refine VO.nil ?_
        refine ⟨_, [(1, .v y96 l), (2, I n), (3, .p y95 d), (7, .raw ww1), (8, I ((cntE d l n m (t + 1) 0 : Nat) : Int)), (9, .raw ww2), (10, I ((m : Nat) : Int)), (11, I (((t + 1) : Nat) : Int))], ?_, ⟨rfl, rfl, rfl, rfl, slI rfl (by rw [← show cntE d l n m t d.1.toNat = cntE d l n m (t + 1) 0 by rw [cntE, preR_row]; rfl, show r = d.1.toNat by omega]), rfl, rfl, rfl, trivial⟩, (t + 1), rfl, rfl, (by rw [← show hdE d l n m t d.1.toNat = hdE d l n m (t + 1) 0 by rw [hdE, preR_row]; rfl, show r = d.1.toNat by omega]), (by omega)⟩
        omega
    · refine VC.exit ?_
      show VC _ _ _ _ _ _ _ _
      refine VC.text ?_
      refine VO.c (.move rfl) ?_
      refine VO.c (.add rfl rfl (by omega)) ?_
      refine VO.c (.assign rfl) ?_
      refine VO.nil ?_
      refine ⟨_, [(1, .v y96 l), (2, I n), (3, .p y95 d), (7, .raw ww1), (8, I ((cntE d l n (m + 1) 0 0 : Nat) : Int)), (9, .raw ww2), (10, I (((m + 1) : Nat) : Int))], ?_, ⟨rfl, rfl, rfl, rfl, slI rfl (by rw [← show cntE d l n m d.2.2.1.toNat 0 = cntE d l n (m + 1) 0 0 by rw [cntE, preR_tick]; rfl, show t = d.2.2.1.toNat by omega]), rfl, rfl, trivial⟩, (m + 1), rfl, rfl, (by rw [← show hdE d l n m d.2.2.1.toNat 0 = hdE d l n (m + 1) 0 0 by rw [hdE, preR_tick]; rfl, show t = d.2.2.1.toNat by omega]), (by omega)⟩
      omega
  · refine VC.exit ?_
    show VC _ _ _ _ _ _ _ _
    refine VC.seq ?_
    refine VC.drawn ?_
    refine VD.c (.move rfl) ?_
    refine VD.r [(ww2, .var [St ((hdE d l n m 0 0).1), I ((hdE d l n m 0 0).2.1), I ((hdE d l n m 0 0).2.2)]), (ww1, .var [St ByteArray.empty, I (0 : Int), I (0 : Int)])] (.ldA (dx := (((hdE d l n m 0 0).1), ((hdE d l n m 0 0).2.1), ((hdE d l n m 0 0).2.2))) m0 vt145) (.inr ⟨rfl, rfl⟩) ?_
    refine VD.c (.assign rfl) ?_
    refine VD.perm swap1 ?_
    refine VD.mk0 (MakeV.setF (k := 0) vt145 .v (by decide) (.inr ⟨rfl, rfl⟩) rfl rfl) ?_
    rintro _ _ tl4 ⟨rfl, rfl⟩
    refine VD.go ?_
    refine VC.ret ?_
    exact VEnd.two rfl evT (.cell (x := (((hdE d l n m 0 0).1), ((hdE d l n m 0 0).2.1), ((hdE d l n m 0 0).2.2))) rfl m0 vt145 .refl) (pvI (by rw [cntE, preR_end, show m = d.2.2.2.length by omega]; rfl)) (pvE (by rw [hdE, preR_end, show m = d.2.2.2.length by omega] <;> rfl))
end Go.Proofs
namespace Go.Proofs
open Go.Fs Ieee
set_option linter.unusedVariables false

/-! ## Courses of a run -/
abbrev Tf := List Int × Int × Int
def fldE (d : Dom) (l : List Pc) (n : Int) (x : ByteArray) (t : Nat) : List (List Nat) × Bool := rowsQ (hasQ (runM l n l.length) x t) d.1.toNat
def lvsE (d : Dom) (l : List Pc) (n : Int) (p : Int × Int) (x : ByteArray) (k : Nat) : List Int := (List.range k).map fun t => (atE (fldE d l n x t).1 p).fdiv 16
def wholeB (d : Dom) (l : List Pc) (n : Int) : Bool := decide (∀ i, i < d.2.2.2.length → ∀ t, t < d.2.2.1.toNat → (fldE d l n (nmE d.2.2.2 i) t).2 = true)
def csE (d : Dom) (l : List Pc) (n : Int) (p : Int × Int) (tr : Tf) (k : Nat) : List (Int × List Int) := (List.range k).map fun i => (wgtE d.2.2.2 i, applyE tr (lvsE d l n p (nmE d.2.2.2 i) d.2.2.1.toNat))
def folA (d : Dom) (p : Int × Int) (tr : Tf) : Int := firstE [placeE p d.1 d.2.1, transferE tr]
def folV (d : Dom) (l : List Pc) (n : Int) (p : Int × Int) (tr : Tf) : List (Int × List Int) × Int := if fieldA d l n ≠ 0 then ([], fieldA d l n) else if folA d p tr ≠ 0 then ([], folA d p tr) else bif wholeB d l n then (csE d l n p tr d.2.2.2.length, 0) else ([], 7)
end Go.Proofs
namespace Go.Proofs
open Go.Fs Ieee
set_option linter.unusedVariables false
/-! ## The reference's courses -/
theorem mem_preM {d : Dom} {k : Nat} {s : Sl} : s ∈ preM d k ↔ ∃ m, m < k ∧ ∃ t, t < d.2.2.1.toNat ∧ ∃ r, r < d.1.toNat ∧ slM d m t r = s := by
  unfold preM preT
  simp only [List.mem_flatMap, List.mem_map, List.mem_range]
def plusF (F : List (List Nat)) : List (List Nat) := F.map fun r => r.map plusZ
def folR (d : Dom) (l : List Pc) (n : Int) (p : Int × Int) (tr : Tf) : List (Int × List Int) × Bool := bif decide (missL d l n = []) then (csE d l n p tr d.2.2.2.length, true) else ([], false)
end Go.Proofs
namespace Go.Proofs
open Go.Fs Ieee
set_option linter.unusedVariables false
abbrev y131 : Ty := (.pair (.int .i64) (.pair (.pair (.int .i64) (.int .i64)) (.pair (.sl (.int .i64)) (.pair (.int .i64) (.int .i64)))))
/-! ## The law of courses -/
def folB (d : Dom) (n : Int) (p : Int × Int) (tr : Tf) : Int := firstE [rangeE n 0 100000, placeE p d.1 d.2.1, transferE tr]
end Go.Proofs
namespace Go.Fs
variable {P : Program} {orc : FuncId → List Value → Heap → Option (Value × Heap)} {h h1 h2 h' : Heap} {S S0 : List Nat} {σ γ σr : Sto} {fl : VL} {ops : Array Oper} {n : Nat} {l : List Oper} {K : VL → Sto → Prop} {d : Tmp} {ty : TypeId} {pos : String} {after : Array Edge} {g : Option (Nat × Bool)}

/-! ## The evaluator -/
theorem stepAt_yield {o : Oper} {c : Call} {f : Operand} {j : Nat} {ev : Operand → Value} (ho : o.op = .call c) (hc : c.callee = .value f) (hf : ev f = .func (.yield j) #[] #[]) (m : Nat) (h : Heap) :
    stepAt P orc m o ev h = fsYield (fsCode P orc m) j (c.args.toList.map ev) h := by
  unfold stepAt fsOp
  rw [ho]
  simp only [hc, hf]
theorem EvO.yield {QO : Tr → Heap → Prop} {o : Oper} {t : Tr} {c : Call} {f : Operand} {j : Nat} (hw : fsWanted ops t o = some true) (ho : o.op = .call c) (hc : c.callee = .value f) (hf : evalO t f = .func (.yield j) #[] #[])
    (hl : EvY P orc j (c.args.toList.map (evalO t)) h fun v h' => ∃ t', put n t o.dst v = some t' ∧ EvO P orc ops n l t' h' QO) : EvO P orc ops n (o :: l) t h QO := by
  obtain ⟨m, v, h1, hr, t1, hp, k, t2, h2, hr2, hq⟩ := hl
  refine ⟨max m k, t2, h2, ?_, hq⟩
  have h3 := fsYield_mono (fsCode_mono (P := P) (orc := orc) (Nat.le_max_left m k)) _ _ _ _ hr
  simp only [fsOps, hw, stepAt_yield ho hc hf, h3, hp]
  exact fsOps_mono (stepAt_mono (Nat.le_max_right m k)) _ _ _ _ hr2
theorem EvY.mono {j : Nat} {args : List Value} {Q Q' : Value → Heap → Prop} (hc : EvY P orc j args h Q) (hq : ∀ v h', Q v h' → Q' v h') : EvY P orc j args h Q' :=
  let ⟨m, v, h', h1, h2⟩ := hc; ⟨m, v, h', h1, hq _ _ h2⟩
theorem EvY.round {Q : Value → Heap → Prop} {j : Nat} {j0 : Option Code} {tmps t : Tr} {params : Array Tmp} {assign body : Code} {dm : Nat} {args : List Value} (hg : h.get j = some (.loopo .ready j0 tmps n params assign body dm)) (hlen : Nat.beq args.length params.size = true) (ht : setAll n tmps (params.toList.zip args) = some t)
    (ha : EvC P orc (some j) assign ⟨t, n, []⟩ h fun e fr h1 => e = .normal ∧ ∃ jp tm n' ps' as' bo' d', h1.get j = some (.loopo .ready jp tm n' ps' as' bo' d') ∧
      EvC P orc (some j) body fr (h1.set j (.loopo .busy jp tm n' ps' as' bo' d')) fun e _ h2 => ∃ st jp2 tm2 n2 ps2 as2 bo2 d2, h2.get j = some (.loopo st jp2 tm2 n2 ps2 as2 bo2 d2) ∧
        Q (.bool (jumpOf e).isNone) (h2.set j (.loopo (bif (jumpOf e).isNone then .ready else .done) (jumpOf e) tm2 n2 ps2 as2 bo2 d2))) : EvY P orc j args h Q := by
  obtain ⟨m, e, fr, h1, hr, rfl, jp, tm, n', ps', as', bo', d', hg1, k, e2, fr2, h2, hr2, st, jp2, tm2, n2, ps2, as2, bo2, d2, hg2, hq⟩ := ha
  refine ⟨max m k, _, _, ?_, hq⟩
  have a1 := fsCode_mono (P := P) (orc := orc) (Nat.le_max_left m k) _ _ _ _ _ hr
  have a2 := fsCode_mono (P := P) (orc := orc) (Nat.le_max_right m k) _ _ _ _ _ hr2
  unfold fsYield
  simp only [hg, hlen, cond_true, ht, a1, hg1, a2, hg2]
def EvFK (P : Program) (orc : FuncId → List Value → Heap → Option (Value × Heap)) (f : FuncId) (args : List Value) (h : Heap) (Q : Value → Heap → Prop) : Prop := ∃ m v h', fsEnterK P true (fsCode P orc m) f args h = some (v, h') ∧ Q v h'
theorem EvFK.mono {f : FuncId} {args : List Value} {Q Q' : Value → Heap → Prop} (hc : EvFK P orc f args h Q) (hq : ∀ v h', Q v h' → Q' v h') : EvFK P orc f args h Q' :=
  let ⟨m, v, h', h1, h2⟩ := hc; ⟨m, v, h', h1, hq _ _ h2⟩
theorem EvFK.enter {f : FuncId} {args : List Value} {fn : Func} {c : Code} {QF : Value → Heap → Prop} (hfn : P.funcs[f]? = some fn) (hc : fn.body = some c) (hn : (Nat.blt 4000 fn.ntmps || Nat.blt fn.ntmps args.length) = false)
    (hb : EvC P orc none c ⟨fillTr .leaf 0 args, fn.ntmps, []⟩ { next := h.next, low := h.next, objs := h.objs } fun e fr h1 =>
      e.goes = true ∧ ∃ h2 vs, dropMarks fr.marks h1 = some h2 ∧ fsResults P fr.t h2 fn.results.toList = some vs ∧ QF (tupled vs) { next := h2.next, low := min h.low h2.low, objs := h2.objs }) : EvFK P orc f args h QF := by
  obtain ⟨m, e, fr, h1, hr, hg, h2, vs, hd, hvs, hq⟩ := hb
  refine ⟨m, _, _, ?_, hq⟩
  unfold fsEnterK
  simp only [hfn, hc, hn, cond_false, hr, hg, cond_true, hd, hvs, Bool.not_true, Bool.false_and]
theorem EvC.rangeFunc {fr : Fr} {Q : Ex → Fr → Heap → Prop} {x : Operand} {f : FuncId} {a c : Array Value} {ps : Array Tmp} {assign body : Code} (hgv : evalO fr.t x = .func (.func f) a c)
    (hl : EvFK P orc f (a.toList ++ [.func (.yield (h.push .defd).next) #[] #[]] ++ c.toList) ((h.push .defd).push (.loopo .ready none fr.t fr.n ps assign body h.next)) fun _ h3 =>
      ∃ st e tm n' ps' as' bo' d', h3.get (h.push .defd).next = some (.loopo st (jumpOf e) tm n' ps' as' bo' d') ∧ st ≠ .busy ∧ Q e ⟨fr.t, fr.n, h.next :: fr.marks⟩ (h3.set (h.push .defd).next (.loopo .exhausted (jumpOf e) tm n' ps' as' bo' d'))) :
    EvC P orc none (.rangeFunc x ps assign body) fr h Q := by
  obtain ⟨m, v, h3, hr, st, e, tm, n', ps', as', bo', d', hg, hst, hq⟩ := hl
  refine ⟨m + 1, e, _, _, ?_, hq⟩
  show fsRangeFunc P (fsCode P orc m) none x ps assign body fr h = _
  unfold fsRangeFunc fsMark
  simp only [hgv, hr, hg]
  cases st with
  | busy => exact absurd rfl hst
  | _ => cases e <;> rfl

/-! ## A call of a loop's body -/
section
variable (P orc)
def VYG (yv : Value) (args : List PV) (γ : Sto) (Q : PV → Sto → Prop) : Prop := ∀ (h : Heap) (S : List Nat) (us : List Value), HOk h → (∀ b ∈ S, b < h.next) → (∀ c ∈ γ, CellR h (own γ ++ S) c.1 c.2) → (own γ).Nodup → (∀ b ∈ own γ, b ∉ S) → RepL h (own γ ++ S) args us →
  ∃ j, yv = .func (.yield j) #[] #[] ∧ EvY P orc j us h fun u h' => ∃ r γ', Q r γ' ∧ Made S h h' γ γ' ∧ RepPV h' (own γ' ++ S) r u
end
theorem VO.callY {f : Operand} {args : Array Operand} {ats : Array TypeId} {yv : Value} {asl : List PV} {Q : PV → Sto → Prop} (γ : Sto) (hσ : γ ++ σ = σr) (hf : evV fl f = some (.raw yv)) (ha : evVs fl args.toList = some asl) (hc : VYG P orc yv asl γ Q) (hk : ∀ r γ', Q r γ' → VO P orc ops n l ((d, r) :: fl) (γ' ++ σ) K)
    (hw : wantV ops fl g = some true := by rfl) (hn : (Nat.blt d n && Nat.ble n 4000) = true := by rfl) : VO P orc ops n (⟨some d, .call { callee := .value f, args := args, argTypes := ats }, ty, pos, after, g⟩ :: l) fl σr K := fun h0 G S0 t h ms Iv0 => by
  subst hσ
  obtain ⟨n1, n2⟩ := fits hn
  have L := Iv0.lc
  have hap := L.apart
  rw [own_app] at hap
  obtain ⟨hap1, hap2, hap3⟩ := List.nodup_append.1 hap
  have hfv : evalO t f = yv := evV_ok Iv0.slots hf
  have hargs := evVs_ok Iv0.slots ha
  rw [own_app, List.append_assoc] at hargs
  have hcells : ∀ c ∈ γ, CellR h (own γ ++ (own σ ++ S0)) c.1 c.2 := fun c hc => by
    have := L.cells c (List.mem_append_left _ hc)
    rwa [own_app, List.append_assoc] at this
  obtain ⟨j, hj, hY⟩ := hc h (own σ ++ S0) _ Iv0.ok (fun b hb => L.lt b (by
    rcases List.mem_append.1 hb with hb | hb
    · exact List.mem_append_left _ (by rw [own_app]; exact List.mem_append_right _ hb)
    · exact List.mem_append_right _ hb)) hcells hap1 (fun b hb hm => by
    rcases List.mem_append.1 hm with hm | hm
    · exact hap3 b hb b hm rfl
    · exact L.sep b (by rw [own_app]; exact List.mem_append_left _ hb) hm) hargs
  refine EvO.yield (want_ok Iv0.slots hw) rfl rfl (hfv.trans hj) (hY.mono fun u h' hq => ?_)
  obtain ⟨r, γ', q1, q2, q3⟩ := hq
  refine ⟨_, put_fits n1 t u, hk r γ' q1 h0 G S0 _ h' ms ((Iv0.made (Made.app L q2)).set ?_ n2)⟩
  rw [own_app, List.append_assoc]; exact q3

/-! ## A round -/
def prmVL : List Tmp → List PV → VL → VL
  | p :: ps, a :: asl, fl => prmVL ps asl ((p, a) :: fl)
  | _, _, fl => fl
theorem slots_setAll (hn4 : n ≤ 4000) : ∀ {ps : List Tmp} {asl : List PV} {us : List Value} {t : Tr} {fl : VL}, (∀ p ∈ ps, Nat.blt p n = true) → Slots h S t fl → RepL h S asl us → ps.length = asl.length →
    ∃ t', setAll n t (ps.zip us) = some t' ∧ Slots h S t' (prmVL ps asl fl)
  | [], asl, us, t, fl, _, hs, hr, _ => ⟨t, by cases us <;> rfl, by cases asl <;> exact hs⟩
  | p :: ps, [], us, t, fl, _, hs, hr, hl => by cases hl
  | p :: ps, a :: asl, us, t, fl, hp, hs, ⟨u, r, h1, h2, h3⟩, hl => by
    subst h1
    have hpn := hp p List.mem_cons_self
    have hp4 : p < 4000 := Nat.lt_of_lt_of_le (nblt hpn) hn4
    obtain ⟨t', e1, e2⟩ := slots_setAll (ps := ps) (asl := asl) (us := r) (t := t.set depth p u) (fl := (p, a) :: fl) hn4 (fun q hq => hp q (List.mem_cons_of_mem _ hq)) (hs.set h2 hp4) h3 (by simpa using hl)
    refine ⟨t', ?_, e2⟩
    show setAll n t ((p, u) :: ps.zip r) = _
    unfold setAll
    rw [put_fits hpn]
    exact e1
theorem VYG.round {yv : Value} {fl0 : VL} {ps : Array Tmp} {assign body : Code} {args : List PV} {Qb : Ex → VL → Sto → Prop} (hlen : ps.size = args.length) (hps : ∀ p ∈ ps.toList, Nat.blt p n = true) (hn4 : n ≤ 4000)
    (hb : ∀ j, VC P orc (some j) assign n (prmVL ps.toList args fl0) γ (fun e fl σ => e = .normal ∧ VC P orc (some j) body n fl σ Qb)) :
    VYG P orc yv args ((yv, .loop .ready none n fl0 ps assign body) :: γ) (fun r γ' => ∃ e fl σ', Qb e fl σ' ∧ r = .v .bool (jumpOf e).isNone ∧ γ' = (yv, .loop (bif (jumpOf e).isNone then .ready else .done) (jumpOf e) n fl0 ps assign body) :: σ') := by
  intro h S us hok hS hcells hnd hsep ha
  obtain ⟨j, tmps, dm, hyv, hjS, hg, hsl⟩ := hcells _ List.mem_cons_self
  have hyv' : yv = .func (.yield j) #[] #[] := hyv
  subst hyv'
  have how : ∀ (c : Cell) (s : Sto), own ((.func (.yield j) #[] #[], c) :: s) = j :: own s := fun c s => rfl
  rw [how] at hcells hnd hsep ha hsl
  obtain ⟨hj1, hnd2⟩ := List.nodup_cons.1 hnd
  have hjn : j < h.next := hok j _ hg
  have hjS' : j ∉ S := hsep j List.mem_cons_self
  have goes0 : Goes h (j :: own γ ++ S) h (own γ ++ (j :: S)) := Goes.less fun b hb => by
    rcases List.mem_append.1 hb with hb | hb
    · exact List.mem_append_left _ (List.mem_cons_of_mem _ hb)
    · rcases List.mem_cons.1 hb with hb | hb
      · subst hb; exact List.mem_append_left _ List.mem_cons_self
      · exact List.mem_append_right _ hb
  obtain ⟨t1, hset, hsl1⟩ := slots_setAll (n := n) hn4 hps hsl ha hlen
  have hlu := ha.len
  have I1 : Iv h (own γ) (j :: S) h γ t1 [] (prmVL ps.toList args fl0) := {
    ok := hok
    s0 := fun b hb => by
      rcases List.mem_cons.1 hb with hb | hb
      · subst hb; exact hjn
      · exact hS b hb
    aft := Aft.refl _ _
    cells := fun c hc => (hcells c (List.mem_cons_of_mem _ hc)).keep (fun _ _ => rfl) goes0 fun b hb => List.mem_append_left _ (List.mem_flatMap.2 ⟨c, hc, hb⟩)
    new := fun b hb => ⟨.inl hb, fun hm => by
      rcases List.mem_cons.1 hm with hm | hm
      · subst hm; exact hj1 hb
      · exact hsep b (List.mem_cons_of_mem _ hb) hm⟩
    apart := hnd2
    mark := fun d hd => by cases hd
    marks := List.nodup_nil
    slots := hsl1.nx goes0 }
  refine ⟨j, rfl, EvY.round hg (by rw [hlu, ← hlen]; exact Nat.beq_refl _) hset ((hb j h (own γ) (j :: S) t1 h [] I1).mono fun e fr h1 hq => ?_)⟩
  obtain ⟨hfn, fl1, σ1, Iv1, he, hbody⟩ := hq
  have g1 : h1.get j = h.get j := Iv1.aft.get j hjn hj1
  have hg1 := g1.trans hg
  refine ⟨he, _, _, _, _, _, _, _, hg1, ?_⟩
  let B : AObj := .loopo .busy none tmps n ps assign body dm
  have hgB : ∀ b, (h1.set j B).get b = if b = j then some B else h1.get b := fun b => Heap.get_set hg1 ..
  have hgA : ∀ b, (h.set j B).get b = if b = j then some B else h.get b := fun b => Heap.get_set hg ..
  have hj2 : j ∉ own σ1 := fun hm => (Iv1.new j hm).2 List.mem_cons_self
  have goes1 : Goes h1 (own σ1 ++ (j :: S)) (h1.set j B) (own σ1 ++ (j :: S)) := fun b o hb hn => ⟨by
    rw [hgB, if_neg (fun e => hn (by subst e; exact List.mem_append_right _ List.mem_cons_self))]; exact hb, hn⟩
  have a2 := (Aft.set (h := h1) (o' := B) (B := [j]) hg1 List.mem_cons_self)
  have I2 : Iv (h.set j B) (own γ) (j :: S) (h1.set j B) σ1 fr.t fr.marks fl1 := {
    ok := a2.ok Iv1.ok
    s0 := I1.s0
    aft := {
      next := Iv1.aft.next
      get := fun b hb hn => by
        rw [hgB, hgA]
        split
        · rfl
        · exact Iv1.aft.get b hb hn
      ok := fun _ => a2.ok Iv1.ok
      low := fun e h3 h4 h5 => by
        have h6 : e ≤ h.low := Nat.le_trans h3 (Nat.min_le_left _ _)
        have h7 : e ≤ j := Nat.le_trans h3 (Nat.min_le_right _ _)
        exact Nat.le_min.2 ⟨Iv1.aft.low e h6 h4 h5, h7⟩
      chg := fun b hb => by
        rw [hgB, hgA]
        by_cases e : b = j
        · rw [if_pos e, if_pos e]; exact .inl rfl
        · rw [if_neg e, if_neg e]
          rcases Iv1.aft.chg b hb with h3 | h3
          · exact .inl h3
          · exact .inr (Nat.le_trans (Nat.min_le_left _ _) h3)
      lowle := by
        show min h1.low j ≤ min h.low j
        have := Iv1.aft.lowle
        omega }
    cells := fun c hc => (Iv1.cells c hc).keep (fun b hb => by
      rw [hgB, if_neg (fun e => hj2 (by subst e; exact List.mem_flatMap.2 ⟨c, hc, hb⟩))]) goes1 fun b hb => List.mem_append_left _ (List.mem_flatMap.2 ⟨c, hc, hb⟩)
    new := Iv1.new
    apart := Iv1.apart
    mark := fun d hd => by
      obtain ⟨m1, m2⟩ := Iv1.mark d hd
      refine ⟨m1, ?_⟩
      rw [hgB, if_neg (fun e => by subst e; rw [hg1] at m2; cases m2)]; exact m2
    marks := Iv1.marks
    slots := Iv1.slots.nx goes1 }
  have hfr : fr = ⟨fr.t, n, fr.marks⟩ := by cases fr; cases hfn; rfl
  rw [hfr]
  refine (hbody (h.set j B) (own γ) (j :: S) fr.t (h1.set j B) fr.marks I2).mono fun e2 fr2 h2 hq2 => ?_
  obtain ⟨_, fl2, σ2, Iv2, hQb⟩ := hq2
  have hj3 : j ∉ own σ2 := fun hm => (Iv2.new j hm).2 List.mem_cons_self
  have g2 : h2.get j = some B := by
    rw [Iv2.aft.get j hjn hj1, hgA, if_pos rfl]
  refine ⟨_, _, _, _, _, _, _, _, g2, .v .bool (jumpOf e2).isNone, _, ⟨e2, fl2, σ2, hQb, rfl, rfl⟩, ?_, RepV.ofBool _⟩
  let C : AObj := .loopo (bif (jumpOf e2).isNone then .ready else .done) (jumpOf e2) tmps n ps assign body dm
  have hgC : ∀ b, (h2.set j C).get b = if b = j then some C else h2.get b := fun b => Heap.get_set g2 ..
  have at1 : Aft h (h.set j B) (j :: own γ) := Aft.set hg List.mem_cons_self
  have at2 : Aft h h2 (j :: own γ) := at1.trans Iv2.aft fun i hi => .inl (List.mem_cons_of_mem _ hi)
  have at3 : Aft h (h2.set j C) (j :: own γ) := at2.trans (Aft.set (B := [j]) g2 List.mem_cons_self) fun i hi => .inl (by rw [List.mem_singleton.1 hi]; exact List.mem_cons_self)
  have hnew : ∀ b ∈ j :: own σ2, b ∈ j :: own γ ∨ h.next ≤ b := fun b hb => by
    rcases List.mem_cons.1 hb with hb | hb
    · subst hb; exact .inl List.mem_cons_self
    · rcases (Iv2.new b hb).1 with h3 | h3
      · exact .inl (List.mem_cons_of_mem _ h3)
      · exact .inr h3
  have goes3 : Goes h (j :: own γ ++ S) (h2.set j C) (j :: own σ2 ++ S) := at3.goes hok (fun b hb => List.mem_append_left _ hb) fun b hb => by
    rcases List.mem_append.1 hb with hb | hb
    · rcases hnew b hb with h3 | h3
      · exact .inl (List.mem_append_left _ h3)
      · exact .inr h3
    · exact .inl (List.mem_append_right _ hb)
  refine ⟨at3, hnew, List.nodup_cons.2 ⟨hj3, Iv2.apart⟩, fun c hc => ?_⟩
  show CellR (h2.set j C) (j :: own σ2 ++ S) c.1 c.2
  rcases List.mem_cons.1 hc with hc' | hc'
  · subst hc'
    exact ⟨j, tmps, dm, rfl, List.mem_append_left _ List.mem_cons_self, by rw [hgC, if_pos rfl], hsl.nx goes3⟩
  · refine (Iv2.cells c hc').keep (fun b hb => ?_) (fun b o hb hn => ⟨?_, fun hm => ?_⟩) fun b hb => List.mem_append_left _ (List.mem_cons_of_mem _ (List.mem_flatMap.2 ⟨c, hc', hb⟩))
    · rw [hgC, if_neg (fun e => hj3 (by subst e; exact List.mem_flatMap.2 ⟨c, hc', hb⟩))]
    · rw [hgC, if_neg (fun e => hn (by subst e; exact List.mem_append_right _ List.mem_cons_self))]; exact hb
    · rcases List.mem_append.1 hm with hm | hm
      · rcases List.mem_cons.1 hm with hm | hm
        · exact hn (by subst hm; exact List.mem_append_right _ List.mem_cons_self)
        · exact hn (List.mem_append_left _ hm)
      · exact hn (List.mem_append_right _ (List.mem_cons_of_mem _ hm))
theorem VYG.mono {yv : Value} {args : List PV} {Q Q' : PV → Sto → Prop} (hy : VYG P orc yv args γ Q) (hq : ∀ r s, Q r s → Q' r s) : VYG P orc yv args γ Q' := fun h S us a1 a2 a3 a4 a5 a6 => by
  obtain ⟨j, e, hY⟩ := hy h S us a1 a2 a3 a4 a5 a6
  exact ⟨j, e, hY.mono fun u h' ⟨r, γ', q1, q2⟩ => ⟨r, γ', hq _ _ q1, q2⟩⟩

/-! ## Iterators -/
section
variable (P orc)
def VFGK (f : FuncId) (args : List PV) (γ : Sto) (Q : Sto → Prop) : Prop := ∀ (h : Heap) (S : List Nat) (us : List Value), HOk h → (∀ b ∈ S, b < h.next) → (∀ c ∈ γ, CellR h (own γ ++ S) c.1 c.2) → (own γ).Nodup → (∀ b ∈ own γ, b ∉ S) → RepL h (own γ ++ S) args us →
  EvFK P orc f us h fun _ h' => ∃ γ', Q γ' ∧ Made S h h' γ γ'
def IterC {X : Type} (f : FuncId) (a c : List PV) (asl : X → List PV) (xs : List X) : Prop := ∀ (yv : Value) (I : List X → Sto → Prop) (E : Sto → Prop) (γ : Sto),
  (∀ x rest γ, I (x :: rest) γ → VYG P orc yv (asl x) γ fun r γ' => (r = .v .bool true ∧ I rest γ') ∨ (r = .v .bool false ∧ E γ')) → I xs γ → VFGK P orc f (a ++ [.raw yv] ++ c) γ fun γ' => I [] γ' ∨ E γ'
end
theorem VFGK.enter {f : FuncId} {args : List PV} {fn : Func} {c : Code} {Q : Sto → Prop} (hfn : P.funcs[f]? = some fn) (hc : fn.body = some c) (hres : fn.results.toList = []) (hn : (Nat.blt 4000 fn.ntmps || Nat.blt fn.ntmps args.length) = false)
    (hb : VC P orc none c fn.ntmps (argVL 0 args) γ (fun e _ σ => e.goes = true ∧ Q σ)) : VFGK P orc f args γ Q := fun h S us hok hS hcells hnd hsep ha => by
  have hl := ha.len
  have hn2 : Nat.blt 4000 fn.ntmps = false ∧ Nat.blt fn.ntmps args.length = false := by simpa using hn
  have n3 := nble_no hn2.1
  have n4 := nble_no hn2.2
  have ha' : RepL (entry h) (own γ ++ S) args us := RepL.nx (h := h) (h' := entry h) (fun _ _ a b => ⟨a, b⟩) ha
  have I0 : Iv (entry h) (own γ) S (entry h) γ (fillTr .leaf 0 us) [] (argVL 0 args) := {
    ok := hok
    s0 := hS
    aft := Aft.refl _ _
    cells := fun c hc => (hcells c hc).keep (fun _ _ => rfl) (fun _ _ a b => ⟨a, b⟩) fun b hb => List.mem_append_left _ (List.mem_flatMap.2 ⟨c, hc, hb⟩)
    new := fun b hb => ⟨.inl hb, hsep b hb⟩
    apart := hnd
    mark := fun d hd => by cases hd
    marks := List.nodup_nil
    slots := slots_args ha' (by omega) }
  refine EvFK.enter hfn hc (by rw [hl]; exact hn) ((hb (entry h) (own γ) S _ (entry h) [] I0).mono fun e fr h1 hq => ?_)
  obtain ⟨_, fl', σ', Iv1, he, hQ⟩ := hq
  obtain ⟨h2, d1, d2, d3⟩ := drops_ok Iv1.marks fun d hd => (Iv1.mark d hd).2
  have hgd : ∀ b o, h1.get b = some o → o ≠ .defd → h2.get b = some o := fun b o hg hne => by
    rw [d3 b (fun hm => hne (by have := (Iv1.mark b hm).2; rw [hg] at this; exact Option.some.inj this))]; exact hg
  have a2 : Aft (entry h) h2 (own γ) := Iv1.aft.trans d2 fun i hi => .inr (Iv1.mark i hi).1
  have hrow : ∀ c ∈ σ', ∀ b ∈ blk c.1, h2.get b = h1.get b := fun c hc b hb => by
    obtain ⟨o, hg, hne⟩ := (Iv1.cells c hc).isObj b hb
    rw [hgd b _ hg hne, hg]
  have hcell2 : ∀ c ∈ σ', CellR h2 (own σ' ++ S) c.1 c.2 := fun c hc => by
    have hx := Iv1.cells c hc
    have hN : GoesR h1 (own σ' ++ S) h2 (own σ' ++ S) := fun b _ hg hne hbS => ⟨hgd b _ hg hne, hbS⟩
    have hgb := hrow c hc
    obtain ⟨w, cc⟩ := c
    cases cc with
    | row e τ xs =>
      rcases hx with hx | ⟨b, rs, m, h3, h4, h5, h6⟩
      · exact .inl hx
      · exact .inr ⟨b, rs, m, h3, h4, hgd b _ h5 (by simp), h6.1, fun i hi => (h6.2 i hi).nxR hN⟩
    | var cs =>
      obtain ⟨b, e, vs, h3, h4, h5, h6, h7⟩ := hx
      exact ⟨b, e, vs, h3, h4, hgd b _ h5 (by simp), h6.nxR hN, h7⟩
    | cap e k τ xs =>
      obtain ⟨b, rs, h3, h4, h5, h6, h7, h8⟩ := hx
      exact ⟨b, rs, h3, h4, hgd b _ h5 (by simp), h6, h7, h8.1, fun i hi => (h8.2 i hi).nxR hN⟩
    | mp κ ν kvs =>
      obtain ⟨b, es, c, h3, h4, h5, h6, h7⟩ := hx
      exact ⟨b, es, c, h3, h4, hgd b _ h5 (by simp), h6, fun i hi hj => ⟨⟨(h7 i hi hj).1.1, (h7 i hi hj).1.2.nxR hN⟩, ⟨(h7 i hi hj).2.1, (h7 i hi hj).2.2.nxR hN⟩⟩⟩
    | it s pos =>
      obtain ⟨b, h3, h4, h5⟩ := hx
      exact ⟨b, h3, h4, hgd b _ h5 (by simp)⟩
    | loop st jump n fl ps assign body =>
      obtain ⟨l, tmps, d, h3, h4, h5, h6⟩ := hx
      exact ⟨l, tmps, d, h3, h4, hgd l _ h5 (by simp), h6.nxR hN⟩
  have hnew2 : ∀ b ∈ own σ', b ∈ own γ ∨ h.next ≤ b := fun b hb => (Iv1.new b hb).1
  refine ⟨he, h2, [], d1, by rw [hres]; rfl, σ', hQ, ⟨⟨a2.next, a2.get, fun x => a2.ok x, fun e h3 h4 h5 => Nat.le_min.2 ⟨h3, a2.low e (Nat.le_trans h4 (Nat.le_refl _)) h4 h5⟩, fun b hb => ?_, Nat.min_le_left _ _⟩, hnew2, Iv1.apart, fun c hc => (hcell2 c hc).keep (fun _ _ => rfl) (fun _ _ a b => ⟨a, b⟩) fun b hb => List.mem_append_left _ (List.mem_flatMap.2 ⟨c, hc, hb⟩)⟩⟩
  rcases a2.chg b hb with h3 | h3
  · exact .inl h3
  · exact .inr (Nat.le_trans (Nat.min_le_right _ _) h3)
theorem IterC.enter {X : Type} {f : FuncId} {a c : List PV} {asl : X → List PV} {xs : List X} {fn : Func} {cd : Code} (hfn : P.funcs[f]? = some fn) (hc : fn.body = some cd) (hres : fn.results.toList = []) (hn : ∀ yv : Value, (Nat.blt 4000 fn.ntmps || Nat.blt fn.ntmps (a ++ [PV.raw yv] ++ c).length) = false)
    (hb : ∀ (yv : Value) (I : List X → Sto → Prop) (E : Sto → Prop) (γ : Sto), (∀ x rest γ, I (x :: rest) γ → VYG P orc yv (asl x) γ fun r γ' => (r = .v .bool true ∧ I rest γ') ∨ (r = .v .bool false ∧ E γ')) → I xs γ →
      VC P orc none cd fn.ntmps (argVL 0 (a ++ [.raw yv] ++ c)) γ (fun e _ σ => e.goes = true ∧ (I [] σ ∨ E σ))) : IterC P orc f a c asl xs := fun yv I E γ hy h0 => VFGK.enter hfn hc hres (hn yv) (hb yv I E γ hy h0)
theorem VC.rangeFunc {X : Type} {asl : X → List PV} {xs : List X} {f : FuncId} {a c : List PV} {x : Operand} {ps : Array Tmp} {assign body : Code} {Q : Ex → VL → Sto → Prop} (hg : evV fl x = some (.clo f a c)) (hit : IterC P orc f a c asl xs) (hlen : ∀ y, ps.size = (asl y).length) (hps : ps.toList.all (fun p => Nat.blt p n) = true) (hn4 : Nat.ble n 4000 = true)
    (I : List X → Sto → Prop) (E : Ex → Sto → Prop) (h0 : I xs σ)
    (hb : ∀ j y rest σ, I (y :: rest) σ → VC P orc (some j) assign n (prmVL ps.toList (asl y) fl) σ fun e fl' σ' => e = .normal ∧ VC P orc (some j) body n fl' σ' fun e _ σ' => (e = .normal ∧ I rest σ') ∨ (e ≠ .normal ∧ E e σ'))
    (h1 : ∀ σ', I [] σ' → Q .normal fl σ') (h2 : ∀ e σ', e ≠ .normal → E e σ' → Q e fl σ') : VC P orc none (.rangeFunc x ps assign body) n fl σ Q := fun hb0 G S0 t h ms Iv0 => by
  obtain ⟨va, vc, hv, ra, rc⟩ := (evV_ok Iv0.slots hg : RepPV h _ (.clo f a c) (evalO t x))
  let hm := h.push .defd
  let j := hm.next
  let yv : Value := .func (.yield j) #[] #[]
  let L : AObj := .loopo .ready none t n ps assign body h.next
  have hjd : j = h.next + 1 := rfl
  have hg2 : ∀ b, (hm.push L).get b = if b = h.next + 1 then some L else if b = h.next then some .defd else h.get b := fun b => by
    rw [Heap.get_push]
    show (if b = h.next + 1 then _ else (h.push .defd).get b) = _
    rw [Heap.get_push]
  have ap : Aft h (hm.push L) (j :: own σ) := (Aft.push h .defd _).trans (Aft.push hm L (j :: own σ)) fun i hi => .inl hi
  have hlt : ∀ b ∈ own σ, b < h.next := own_lt Iv0.cells Iv0.ok
  have Lc0 := Iv0.lc
  have goes0 : Goes h (own σ ++ S0) (hm.push L) (j :: own σ ++ S0) := fun b o hb hn => by
    have hbn : b < h.next := Iv0.ok b o hb
    refine ⟨by rw [hg2, if_neg (by omega), if_neg (by omega)]; exact hb, fun hm2 => ?_⟩
    rcases List.mem_append.1 hm2 with hm2 | hm2
    · rcases List.mem_cons.1 hm2 with hm2 | hm2
      · omega
      · exact hn (List.mem_append_left _ hm2)
    · exact hn (List.mem_append_right _ hm2)
  have hS0 : ∀ b ∈ S0, b < h.next := Lc0.s0
  have hj1 : j ∉ own σ := fun hm2 => by have := hlt j hm2; omega
  have hit2 := hit yv (fun rest γ => ∃ σ', γ = (yv, .loop .ready none n fl ps assign body) :: σ' ∧ I rest σ') (fun γ => ∃ e σ', e ≠ .normal ∧ γ = (yv, .loop .done (jumpOf e) n fl ps assign body) :: σ' ∧ E e σ') ((yv, .loop .ready none n fl ps assign body) :: σ)
    (fun y rest γ ⟨σ', hγ, hI⟩ => by
      subst hγ
      refine (VYG.round (hlen y) (fun p hp => List.all_eq_true.1 hps p hp) (nble hn4) (fun jj => hb jj y rest σ' hI)).mono fun r s hq => ?_
      obtain ⟨e, fl', σ2, hQ, rfl, rfl⟩ := hq
      rcases hQ with ⟨rfl, hI2⟩ | ⟨hne, hE⟩
      · exact .inl ⟨rfl, σ2, rfl, hI2⟩
      · refine .inr ⟨?_, e, σ2, hne, ?_, hE⟩
        · cases e <;> first | exact absurd rfl hne | rfl
        · cases e <;> first | exact absurd rfl hne | rfl)
    ⟨σ, rfl, h0⟩
  have how : ∀ (c : Cell) (s : Sto), own ((yv, c) :: s) = j :: own s := fun c s => rfl
  refine EvC.rangeFunc (fr := ⟨t, n, ms⟩) hv ((hit2 (hm.push L) S0 _ (ap.ok Iv0.ok) (fun b hb => by have := hS0 b hb; have := ap.next; omega) (fun cc hc => ?_) (by rw [how]; exact List.nodup_cons.2 ⟨hj1, Iv0.apart⟩) (fun b hb => ?_) ?_).mono fun u h3 hq => ?_)
  · rw [how]
    rcases List.mem_cons.1 hc with hc' | hc'
    · subst hc'
      exact ⟨j, t, h.next, rfl, List.mem_append_left _ List.mem_cons_self, by rw [hg2, if_pos hjd], Iv0.slots.nx goes0⟩
    · refine (Iv0.cells cc hc').keep (fun b hb => ?_) goes0 fun b hb => List.mem_append_left _ (List.mem_cons_of_mem _ (List.mem_flatMap.2 ⟨cc, hc', hb⟩))
      have := hlt b (List.mem_flatMap.2 ⟨cc, hc', hb⟩)
      rw [hg2, if_neg (by omega), if_neg (by omega)]
  · rw [how] at hb
    intro hbs
    rcases List.mem_cons.1 hb with hb | hb
    · have := hS0 b hbs; omega
    · exact (Iv0.new b hb).2 hbs
  · rw [how]
    have ry : RepL (hm.push L) (j :: own σ ++ S0) [.raw yv] [yv] := ⟨yv, [], rfl, rfl, rfl⟩
    exact ((ra.nx goes0).append ry).append (rc.nx goes0)
  · obtain ⟨γ', hq, made⟩ := hq
    have key : ∃ st e σ', st ≠ .busy ∧ γ' = (yv, .loop st (jumpOf e) n fl ps assign body) :: σ' ∧ Q e fl σ' := by
      rcases hq with ⟨σ', rfl, hI⟩ | ⟨e, σ', hne, rfl, hE⟩
      · exact ⟨.ready, .normal, σ', (fun e => by cases e), rfl, h1 σ' hI⟩
      · exact ⟨.done, e, σ', (fun e => by cases e), rfl, h2 e σ' hne hE⟩
    obtain ⟨st, e, σ', hst, rfl, hQ⟩ := key
    obtain ⟨j', tm, dm, hj', hjS, hgj, _⟩ := made.cells _ List.mem_cons_self
    have hjj : j = j' := by
      have : yv = .func (.yield j') #[] #[] := hj'
      injection this with h5
      injection h5
    subst hjj
    refine ⟨st, e, tm, n, ps, assign, body, dm, hgj, hst, rfl, fl, σ', ?_, hQ⟩
    have hnd := made.apart
    rw [how] at hnd
    obtain ⟨hj3, hnd2⟩ := List.nodup_cons.1 hnd
    let C : AObj := .loopo .exhausted (jumpOf e) tm n ps assign body dm
    have hgC : ∀ b, (h3.set j C).get b = if b = j then some C else h3.get b := fun b => Heap.get_set hgj ..
    have ma : Aft (hm.push L) h3 (j :: own σ) := made.aft
    have at3 : Aft h (h3.set j C) (j :: own σ) := (ap.trans ma fun i hi => .inl hi).trans (Aft.set (B := [j]) hgj List.mem_cons_self) fun i hi => .inl (by rw [List.mem_singleton.1 hi]; exact List.mem_cons_self)
    have hnew : ∀ b ∈ own σ', b ∈ own σ ∨ h.next ≤ b := fun b hb => by
      rcases made.new b (by rw [how]; exact List.mem_cons_of_mem _ hb) with h5 | h5
      · rw [how] at h5
        rcases List.mem_cons.1 h5 with h5 | h5
        · subst h5; exact absurd hb hj3
        · exact .inl h5
      · have := ap.next; exact .inr (by omega)
    have goes3 : Goes h (own σ ++ S0) (h3.set j C) (own σ' ++ S0) := fun b o hb hn => by
      have hbn : b < h.next := Iv0.ok b o hb
      refine ⟨by rw [at3.get b hbn (fun hm2 => by
        rcases List.mem_cons.1 hm2 with hm2 | hm2
        · omega
        · exact hn (List.mem_append_left _ hm2))]; exact hb, fun hm2 => ?_⟩
      rcases List.mem_append.1 hm2 with hm2 | hm2
      · rcases hnew b hm2 with h5 | h5
        · exact hn (List.mem_append_left _ h5)
        · omega
      · exact hn (List.mem_append_right _ hm2)
    have hdef : h3.get h.next = some .defd := by
      rw [ma.get h.next (by show h.next < h.next + 1 + 1; omega) (fun hm2 => by
        rcases List.mem_cons.1 hm2 with hm2 | hm2
        · omega
        · have := hlt _ hm2; omega), hg2, if_neg (by omega), if_pos rfl]
    exact {
      ok := at3.ok Iv0.ok
      s0 := Iv0.s0
      aft := Iv0.aft.trans at3 fun i hi => by
        have := Iv0.aft.next
        rcases List.mem_cons.1 hi with hi | hi
        · right; omega
        · exact (Iv0.new i hi).1
      cells := fun c hc => (made.cells c (List.mem_cons_of_mem _ hc)).keep (fun b hb => by
          rw [hgC, if_neg (fun e => hj3 (by subst e; exact List.mem_flatMap.2 ⟨c, hc, hb⟩))]) (fun b o hb hn => ⟨by
          rw [hgC, if_neg (fun e => hn (by subst e; exact List.mem_append_left _ List.mem_cons_self))]; exact hb, fun hm2 => hn (by
          rcases List.mem_append.1 hm2 with hm2 | hm2
          · exact List.mem_append_left _ (List.mem_cons_of_mem _ hm2)
          · exact List.mem_append_right _ hm2)⟩) fun b hb => List.mem_append_left _ (List.mem_flatMap.2 ⟨c, hc, hb⟩)
      new := fun b hb => by
        have := Iv0.aft.next
        rcases hnew b hb with h5 | h5
        · exact Iv0.new b h5
        · exact ⟨.inr (by omega), fun hm2 => by have := hS0 b hm2; omega⟩
      apart := hnd2
      mark := fun d hd => by
        have := Iv0.aft.next
        rcases List.mem_cons.1 hd with hd | hd
        · subst hd
          exact ⟨this, by rw [hgC, if_neg (by omega)]; exact hdef⟩
        · obtain ⟨m1, m2⟩ := Iv0.mark d hd
          refine ⟨m1, ?_⟩
          have hdn : d < h.next := Iv0.ok d _ m2
          rw [at3.get d hdn (fun hm2 => by
            rcases List.mem_cons.1 hm2 with hm2 | hm2
            · omega
            · obtain ⟨c, hc, hb⟩ := List.mem_flatMap.1 hm2
              obtain ⟨o, hgo, hne⟩ := (Iv0.cells c hc).isObj d hb
              rw [m2] at hgo
              exact hne (Option.some.inj hgo).symm)]
          exact m2
      marks := List.nodup_cons.2 ⟨fun hm2 => by have := Iv0.ok _ _ (Iv0.mark _ hm2).2; omega, Iv0.marks⟩
      slots := Iv0.slots.nx goes3 }
theorem VO.callY0 {f : Operand} {args : Array Operand} {ats : Array TypeId} {yv : Value} {asl : List PV} {Q : PV → Sto → Prop} (hf : evV fl f = some (.raw yv)) (ha : evVs fl args.toList = some asl) (hc : VYG P orc yv asl σ Q) (hk : ∀ r σ', Q r σ' → VO P orc ops n l ((d, r) :: fl) σ' K)
    (hw : wantV ops fl g = some true := by rfl) (hn : (Nat.blt d n && Nat.ble n 4000) = true := by rfl) : VO P orc ops n (⟨some d, .call { callee := .value f, args := args, argTypes := ats }, ty, pos, after, g⟩ :: l) fl σ K :=
  VO.callY (σ := []) σ (List.append_nil _) hf ha hc (fun r σ' hq => by rw [List.append_nil]; exact hk r σ' hq) hw hn
end Go.Fs
namespace Go.Proofs
open Go.Fs Ieee
set_option linter.unusedVariables false

/-! ## The slots of a domain, one by one -/
def slAll (d : Dom) : List Sl := preM d d.2.2.2.length
def remR (d : Dom) (m t r : Nat) : List Sl := (slAll d).drop (preR d m t r).length
theorem remR_row (d : Dom) (m t : Nat) : remR d m t d.1.toNat = remR d m (t + 1) 0 := by rw [remR, preR_row] <;> rfl
theorem remR_tick (d : Dom) (m : Nat) : remR d m d.2.2.1.toNat 0 = remR d (m + 1) 0 0 := by rw [remR, preR_tick] <;> rfl
theorem preT_len (d : Dom) (m t : Nat) : (preT d m t).length = t * d.1.toNat := by
  unfold preT
  induction t with
  | zero => simp
  | succ t ih => rw [List.range_succ, List.flatMap_append, List.length_append, ih]; simp [Nat.succ_mul]
theorem preM_succ (d : Dom) (m : Nat) : preM d (m + 1) = preM d m ++ preT d m d.2.2.1.toNat := by unfold preM; rw [List.range_succ, List.flatMap_append]; simp
theorem preT_succ (d : Dom) (m t : Nat) : preT d m (t + 1) = preT d m t ++ (List.range d.1.toNat).map (slM d m t) := by unfold preT; rw [List.range_succ, List.flatMap_append]; simp
theorem preM_split (d : Dom) {m k : Nat} (h : m ≤ k) : ∃ q, preM d k = preM d m ++ q := by
  induction k with
  | zero => obtain rfl : m = 0 := by omega
            exact ⟨[], by simp⟩
  | succ k ih =>
    rcases Nat.lt_or_eq_of_le h with h1 | h1
    · obtain ⟨q, hq⟩ := ih (by omega)
      exact ⟨q ++ preT d k d.2.2.1.toNat, by rw [preM_succ, hq, List.append_assoc]⟩
    · subst h1; exact ⟨[], by simp⟩
theorem preT_split (d : Dom) (m : Nat) {t k : Nat} (h : t ≤ k) : ∃ q, preT d m k = preT d m t ++ q := by
  induction k with
  | zero => obtain rfl : t = 0 := by omega
            exact ⟨[], by simp⟩
  | succ k ih =>
    rcases Nat.lt_or_eq_of_le h with h1 | h1
    · obtain ⟨q, hq⟩ := ih (by omega)
      exact ⟨q ++ (List.range d.1.toNat).map (slM d m k), by rw [preT_succ, hq, List.append_assoc]⟩
    · subst h1; exact ⟨[], by simp⟩
theorem remR_cons {d : Dom} {m t r : Nat} (hm : m < d.2.2.2.length) (ht : t < d.2.2.1.toNat) (hr : r < d.1.toNat) : remR d m t r = slM d m t r :: remR d m t (r + 1) := by
  obtain ⟨q1, h1⟩ := preM_split d (show m + 1 ≤ d.2.2.2.length by omega)
  obtain ⟨q2, h2⟩ := preT_split d m (show t + 1 ≤ d.2.2.1.toNat by omega)
  have h3 : (List.range d.1.toNat).map (slM d m t) = (List.range r).map (slM d m t) ++ slM d m t r :: ((List.range d.1.toNat).map (slM d m t)).drop (r + 1) := by
    conv => lhs; rw [← List.take_append_drop r ((List.range d.1.toNat).map (slM d m t))]
    congr 1
    · rw [← List.map_take, List.take_range, Nat.min_eq_left (by omega)]
    · rw [List.drop_eq_getElem_cons (by simp only [List.length_map, List.length_range]; exact hr)]; simp
  have e : slAll d = preR d m t r ++ (slM d m t r :: (((List.range d.1.toNat).map (slM d m t)).drop (r + 1) ++ (q2 ++ q1))) := by
    unfold slAll preR
    rw [h1, preM_succ, h2, preT_succ]
    conv => lhs; rw [h3]
    simp
  have e2 : slAll d = preR d m t (r + 1) ++ (((List.range d.1.toNat).map (slM d m t)).drop (r + 1) ++ (q2 ++ q1)) := by rw [e, preR_succ]; simp
  have a1 : remR d m t r = slM d m t r :: (((List.range d.1.toNat).map (slM d m t)).drop (r + 1) ++ (q2 ++ q1)) := by unfold remR; rw [e]; simp
  have a2 : remR d m t (r + 1) = ((List.range d.1.toNat).map (slM d m t)).drop (r + 1) ++ (q2 ++ q1) := by unfold remR; rw [e2]; simp
  rw [a1, a2]
theorem sSlots1_ok {d : Int × Int × Int × (List (ByteArray × Int))} (hd : domE d = 0) : IterC Tryz.prog OA 205 [] [.p y106 d] (fun x : Sl => [.v y141 x]) (slAll d) := by
  refine IterC.enter Tryz.func205 rfl rfl (fun _ => rfl) fun yv II EE γ hy hI => ?_
  show VC _ _ _ _ _ [(0, .raw yv), (1, .p y106 d)] γ _
  refine VC.seq ?_
  refine VC.text ?_
  have hdd := dom_ok hd
  refine VO.c (.fa (.r (.r (.r .o)))) ?_
  refine VO.r (.ld vt104) ?_
  refine VO.r (.len el104) ?_
  refine VO.c (.move rfl) ?_
  refine VO.go ?_
  refine VC.block ?_
  refine VC.keep [(0, .raw yv), (1, .p y106 d), (8, .v y104 d.2.2.2), (9, I ((d.2.2.2.length : Nat) : Int)), (10, I ((0 : Nat) : Int))] ⟨rfl, rfl, rfl, rfl, rfl, trivial⟩ ?_
  refine VC.loop (I := fun kk ff ss => ∃ (m : Nat), kk = d.2.2.2.length - m ∧ ff = [(0, .raw yv), (1, .p y106 d), (8, .v y104 d.2.2.2), (9, I ((d.2.2.2.length : Nat) : Int)), (10, I ((m : Nat) : Int))] ∧ (m ≤ d.2.2.2.length) ∧ II (remR d m 0 0) ss) ?_ _ _ _ ⟨0, rfl, rfl, Nat.zero_le _, (by exact hI)⟩
  rintro kk ff ss ⟨m, hk0, rfl, hm, hI⟩
  refine VC.seq ?_
  refine VC.text ?_
  refine VO.c (.lss) ?_
  refine VO.go ?_
  refine VC.seq ?_
  refine VC.condD rfl (fun c1 => ?_) (fun c1 => ?_)
  · have hm' : m < d.2.2.2.length := by omega
    refine VC.skip ?_
    show VC _ _ _ _ _ _ _ _
    refine VC.seq ?_
    refine VC.block ?_
    refine VC.seq ?_
    refine VC.text ?_
    refine VO.c (.ix (j := m) rfl rfl el104 (by omega)) ?_
    refine VO.r (.ld vt210) ?_
    refine VO.cell (.alloc zt210) ?_
    intro ww1
    refine VO.setV (cs' := [St ((d.2.2.2[m]).1), I ((d.2.2.2[m]).2)]) vt210 .v ?_
    refine VO.shut [(4, .p y210 (d.2.2.2[m]))] (.cons rfl (.var m0 .refl) .nil) ?_
    refine VO.go ?_
    refine VC.seq ?_
    refine VC.text ?_
    refine VO.c (.fa (.r (.r (.l .o)))) ?_
    refine VO.r (.ld vt3) ?_
    refine VO.c (.move rfl) ?_
    refine VO.go ?_
    refine VC.block ?_
    refine VC.keep [(0, .raw yv), (1, .p y106 d), (4, .p y210 (d.2.2.2[m])), (8, .v y104 d.2.2.2), (9, I ((d.2.2.2.length : Nat) : Int)), (10, I ((m : Nat) : Int)), (15, I d.2.2.1), (16, I ((0 : Nat) : Int))] ⟨rfl, rfl, rfl, rfl, rfl, rfl, rfl, rfl, trivial⟩ ?_
    refine VC.loop (I := fun kk ff ss => ∃ (t : Nat), kk = d.2.2.1.toNat - t ∧ ff = [(0, .raw yv), (1, .p y106 d), (4, .p y210 (d.2.2.2[m])), (8, .v y104 d.2.2.2), (9, I ((d.2.2.2.length : Nat) : Int)), (10, I ((m : Nat) : Int)), (15, I d.2.2.1), (16, I ((t : Nat) : Int))] ∧ (t ≤ d.2.2.1.toNat) ∧ II (remR d m t 0) ss) ?_ _ _ _ ⟨0, rfl, rfl, Nat.zero_le _, (by exact hI)⟩
    rintro kk ff ss ⟨t, hk2, rfl, ht, hI⟩
    refine VC.seq ?_
    refine VC.text ?_
    refine VO.c (.lss) ?_
    refine VO.go ?_
    refine VC.seq ?_
    refine VC.condD rfl (fun c4 => ?_) (fun c4 => ?_)
    · refine VC.skip ?_
      show VC _ _ _ _ _ _ _ _
      refine VC.seq ?_
      refine VC.block ?_
      refine VC.seq ?_
      refine VC.text ?_
      refine VO.c (.move rfl) ?_
      refine VO.c (.assign rfl) ?_
      refine VO.go ?_
      refine VC.seq ?_
      refine VC.text ?_
      refine VO.c (.fa (.l .o)) ?_
      refine VO.r (.ld vt3) ?_
      refine VO.c (.move rfl) ?_
      refine VO.go ?_
      refine VC.block ?_
      refine VC.keep [(0, .raw yv), (1, .p y106 d), (4, .p y210 (d.2.2.2[m])), (5, I ((t : Nat) : Int)), (8, .v y104 d.2.2.2), (9, I ((d.2.2.2.length : Nat) : Int)), (10, I ((m : Nat) : Int)), (15, I d.2.2.1), (16, I ((t : Nat) : Int)), (20, I d.1), (21, I ((0 : Nat) : Int))] ⟨rfl, rfl, rfl, rfl, rfl, rfl, rfl, rfl, rfl, rfl, rfl, trivial⟩ ?_
      refine VC.loop (I := fun kk ff ss => ∃ (r : Nat), kk = d.1.toNat - r ∧ ff = [(0, .raw yv), (1, .p y106 d), (4, .p y210 (d.2.2.2[m])), (5, I ((t : Nat) : Int)), (8, .v y104 d.2.2.2), (9, I ((d.2.2.2.length : Nat) : Int)), (10, I ((m : Nat) : Int)), (15, I d.2.2.1), (16, I ((t : Nat) : Int)), (20, I d.1), (21, I ((r : Nat) : Int))] ∧ (r ≤ d.1.toNat) ∧ II (remR d m t r) ss) ?_ _ _ _ ⟨0, rfl, rfl, Nat.zero_le _, (by exact hI)⟩
      rintro kk ff ss ⟨r, hk4, rfl, hr, hI⟩
      refine VC.seq ?_
      refine VC.text ?_
      refine VO.c (.lss) ?_
      refine VO.go ?_
      refine VC.seq ?_
      refine VC.condD rfl (fun c7 => ?_) (fun c7 => ?_)
      · refine VC.skip ?_
        show VC _ _ _ _ _ _ _ _
        refine VC.seq ?_
        refine VC.block ?_
        refine VC.seq ?_
        refine VC.text ?_
        refine VO.c (.move rfl) ?_
        refine VO.c (.assign rfl) ?_
        refine VO.go ?_
        refine VC.seq ?_
        refine VC.text ?_
        refine VO.c (.move rfl) ?_
        refine VO.c (.fa (.l .o)) ?_
        refine VO.r (.ld vt9) ?_
        refine VO.c (.move rfl) ?_
        refine VO.c (.move rfl) ?_
        refine VO.c (.build ((d.2.2.2[m]).1, ((t : Nat) : Int), ((r : Nat) : Int)) bt141) ?_
        refine VO.callY0 rfl rfl (hy ((d.2.2.2[m]).1, ((t : Nat) : Int), ((r : Nat) : Int)) (remR d m t (r + 1)) _ (by rw [slM_eq hm', ← remR_cons hm' (by omega) (by omega)]; exact hI)) ?_
        rintro _ ss (⟨rfl, hI⟩ | ⟨rfl, hE⟩)
        · refine VO.c (.not) ?_
          refine VO.go ?_
          refine VC.condF rfl ?_
          refine VC.skip ?_
          show VC _ _ _ _ _ _ _ _
          refine VC.text ?_
          refine VO.c (.add rfl rfl (by omega)) ?_
          refine VO.c (.move rfl) ?_
          refine VO.nil ?_
          refine ⟨_, [(0, .raw yv), (1, .p y106 d), (4, .p y210 (d.2.2.2[m])), (5, I ((t : Nat) : Int)), (8, .v y104 d.2.2.2), (9, I ((d.2.2.2.length : Nat) : Int)), (10, I ((m : Nat) : Int)), (15, I d.2.2.1), (16, I ((t : Nat) : Int)), (20, I d.1), (21, I (((r + 1) : Nat) : Int))], ?_, ⟨rfl, rfl, rfl, rfl, rfl, rfl, rfl, rfl, rfl, rfl, rfl, trivial⟩, (r + 1), rfl, rfl, (by omega), (by exact hI)⟩
          omega
        · refine VO.c (.not) ?_
          refine VO.go ?_
          refine VC.condT rfl ?_
          refine VC.ret ?_
          exact ⟨rfl, .inr hE⟩
      · refine VC.exit ?_
        show VC _ _ _ _ _ _ _ _
        refine VC.text ?_
        refine VO.c (.add rfl rfl (by omega)) ?_
        refine VO.c (.move rfl) ?_
        refine VO.nil ?_
        refine ⟨_, [(0, .raw yv), (1, .p y106 d), (4, .p y210 (d.2.2.2[m])), (8, .v y104 d.2.2.2), (9, I ((d.2.2.2.length : Nat) : Int)), (10, I ((m : Nat) : Int)), (15, I d.2.2.1), (16, I (((t + 1) : Nat) : Int))], ?_, ⟨rfl, rfl, rfl, rfl, rfl, rfl, rfl, rfl, trivial⟩, (t + 1), rfl, rfl, (by omega), (by rw [← remR_row, show d.1.toNat = r by omega]; exact hI)⟩
        omega
    · refine VC.exit ?_
      show VC _ _ _ _ _ _ _ _
      refine VC.text ?_
      refine VO.c (.add rfl rfl (by omega)) ?_
      refine VO.c (.move rfl) ?_
      refine VO.nil ?_
      refine ⟨_, [(0, .raw yv), (1, .p y106 d), (8, .v y104 d.2.2.2), (9, I ((d.2.2.2.length : Nat) : Int)), (10, I (((m + 1) : Nat) : Int))], ?_, ⟨rfl, rfl, rfl, rfl, rfl, trivial⟩, (m + 1), rfl, rfl, (by omega), (by rw [← remR_tick, show d.2.2.1.toNat = t by omega]; exact hI)⟩
      omega
  · refine VC.exit ?_
    exact ⟨rfl, .inl (by have e : remR d m 0 0 = [] := (by rw [remR, preR_end, show m = d.2.2.2.length by omega]; simp [slAll]); rw [e] at hI; exact hI)⟩
end Go.Proofs
