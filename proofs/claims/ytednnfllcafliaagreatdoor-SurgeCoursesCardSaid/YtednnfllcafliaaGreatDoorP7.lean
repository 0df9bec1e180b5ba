/- Contracts of functions of the program, over the evaluator: what each answers. Conditions: those in each statement. -/
import Derived.Test.YtednnfllcafliaaGreatDoorP6
set_option linter.all false
namespace Go.Proofs
open Go.Fs Ieee
set_option linter.unusedVariables false
abbrev y145 : Ty := (.pair .str (.pair (.int .i64) (.int .i64)))
theorem zt145 : ZerT Tryz.prog 145 y145 := zerT_of (z := .agg #[.string ByteArray.empty, .int .i64 0, .int .i64 0]) (by kernel_rfl) rfl rfl
theorem bt145 : BldT Tryz.prog 145 y145 [(0, 1), (1, 1), (2, 1)] := bldT_of zt145 rfl (by kernel_rfl)
/-! ## The field of a member -/
theorem runM_some {l : List Pc} {n : Int} {k : Sl} {p : Pc} : ∀ (i : Nat), mget (runM l n i) k = some p → ∃ j, j < i ∧ p = pcA l j ∧ (pcA l j).1 = n ∧ slotE (pcA l j) = k
  | 0, h => by cases h
  | i + 1, h => by
    rw [runM] at h
    split at h
    · rename_i hn
      rw [mget_mset] at h
      split at h
      · rename_i hk
        injection h with h
        exact ⟨i, by omega, h.symm, hn, hk.symm⟩
      · obtain ⟨j, h1, h2⟩ := runM_some i h
        exact ⟨j, by omega, h2⟩
    · obtain ⟨j, h1, h2⟩ := runM_some i h
      exact ⟨j, by omega, h2⟩
theorem runM_none {l : List Pc} {n : Int} {k : Sl} : ∀ (i : Nat), mget (runM l n i) k = none → ∀ j, j < i → (pcA l j).1 = n → slotE (pcA l j) ≠ k
  | 0, _, j, hj, _ => by omega
  | i + 1, h, j, hj, hn => by
    rw [runM] at h
    rcases Nat.lt_succ_iff_lt_or_eq.1 hj with h3 | h3
    · split at h
      · rw [mget_mset] at h
        split at h
        · cases h
        · exact runM_none i h j h3 hn
      · exact runM_none i h j h3 hn
    · subst h3
      rw [if_pos hn, mget_mset] at h
      split at h
      · cases h
      · rename_i hk; exact fun e => hk e.symm
theorem pcA_mem {l : List Pc} {j : Nat} (h : j < l.length) : pcA l j ∈ l := by rw [← pcA_eq h]; exact List.getElem_mem _
def fieldA (d : Dom) (l : List Pc) (n : Int) : Int := firstE [storeE d l, rangeE n 0 100000]
def fieldB2 (d : Dom) (x : ByteArray) (t : Int) : Int := firstE [whenE (!(hasM d x).isSome) 10, rangeE t 0 (d.2.2.1 - 1)]
def fieldV (d : Dom) (l : List Pc) (n : Int) (x : ByteArray) (t : Int) : List (List Nat) × Int := if fieldA d l n ≠ 0 then ([], fieldA d l n) else if fieldB2 d x t ≠ 0 then ([], fieldB2 d x t) else ((rowsQ (hasQ (runM l n l.length) x t) d.1.toNat).1, whenE (!(rowsQ (hasQ (runM l n l.length) x t) d.1.toNat).2) 7)
theorem store_dom {d : Dom} {l : List Pc} (h : storeE d l = 0) : domE d = 0 ∧ l.length ≤ 4096 ∧ ∀ k, k < l.length → pieceE d l k = 0 := by
  unfold storeE at h
  split at h
  · rename_i h0
    have := storeP_ok h0
    rw [firstE_zero] at h
    exact ⟨this.1, this.2, fun k hk => h _ (List.mem_map_of_mem (List.mem_range.2 hk))⟩
  · contradiction
theorem fieldA_ok {d : Dom} {l : List Pc} {n : Int} (h : fieldA d l n = 0) : storeE d l = 0 ∧ rangeE n 0 100000 = 0 := by
  unfold fieldA at h
  rw [firstE_zero] at h
  exact ⟨h _ (by simp), h _ (by simp)⟩
def fieldC (d : Dom) (n : Int) (x : ByteArray) (t : Int) : Int := if rangeE n 0 100000 ≠ 0 then rangeE n 0 100000 else if memAt d.2.2.2 x < 0 then 10 else rangeE t 0 (d.2.2.1 - 1)
def hitB (n : Int) (s : Sl) (p : Pc) : Bool := decide (p.1 = n ∧ p.2.1 = s.1 ∧ p.2.2.1 = s.2.1 ∧ p.2.2.2.1 = s.2.2)
def fndE (l : List Pc) (n : Int) (s : Sl) : Int := if l.findIdx (hitB n s) < l.length then (l.findIdx (hitB n s) : Nat) else -1
theorem rFind_ok {l : List (Int × ByteArray × Int × Int × (List Nat))} {n : Int} {s : ByteArray × Int × Int} (hl : l.length < 100000) : VF Tryz.prog OA 132 [.v y96 l, I n, .v y145 s] (I (fndE l n s)) := by
  refine VF.enter Tryz.func132 rfl (fun _ _ => rfl) rfl ?_
  show VC _ _ _ _ _ [(0, .v y96 l), (1, I n), (2, .v y145 s)] [] _
  refine VC.seq ?_
  refine VC.text ?_
  refine VO.new (.box) ?_
  refine VO.c (.assign rfl) ?_
  refine VO.go ?_
  refine VC.seq ?_
  refine VC.seq ?_
  refine VC.text ?_
  refine VO.c (.assign rfl) ?_
  refine VO.go ?_
  refine VC.block ?_
  refine VC.keep [(0, .v y96 l), (1, I n), (5, .p y145 s), (7, I ((0 : Nat) : Int))] ⟨rfl, rfl, rfl, rfl, trivial⟩ ?_
  refine VC.loop (I := fun kk ff ss => ∃ (i : Nat), kk = l.length - i ∧ ff = [(0, .v y96 l), (1, I n), (5, .p y145 s), (7, I ((i : Nat) : Int))] ∧ ss = [] ∧ (i ≤ l.length) ∧ (∀ j (hj : j < i) (hj' : j < l.length), hitB n s l[j] = false)) ?_ _ _ _ ⟨0, rfl, rfl, rfl, Nat.zero_le _, (by intro j hj; omega)⟩
  rintro kk ff ss ⟨i, hk0, rfl, rfl, hi, hn⟩
  refine VC.seq ?_
  refine VC.seq ?_
  refine VC.text ?_
  refine VO.c (.move rfl) ?_
  refine VO.c (.move rfl) ?_
  refine VO.r (.len el96) ?_
  refine VO.c (.lss) ?_
  refine VO.go ?_
  refine VC.condD rfl (fun c2 => ?_) (fun c2 => ?_)
  · have hi' : i < l.length := by omega
    refine VC.skip ?_
    show VC _ _ _ _ _ _ _ _
    refine VC.seq ?_
    refine VC.block ?_
    refine VC.seq ?_
    refine VC.join [(0, .v y96 l), (1, I n), (5, .p y145 s), (7, I ((i : Nat) : Int)), (50, B (hitB n s l[i]))] [] ?_ ?_
    · skip
      refine VC.drawn ?_
      refine VD.c (.move rfl) ?_
      refine VD.c (.move rfl) ?_
      refine VD.c (.ix (j := i) rfl rfl el96 (by omega)) ?_
      refine VD.c (.fa (.l .o)) ?_
      refine VD.r [] (.ld vt3) (.inl rfl) ?_
      refine VD.c (.move rfl) ?_
      refine VD.nw [] ?_
      refine VD.c (.eql) ?_
      refine VD.c (.move rfl) ?_
      refine VD.splitD (x := 21) rfl (fun g4_7 => ?_) (fun g4_7 => ?_)
      · refine VD.c (.move rfl) ?_
        refine VD.c (.move rfl) ?_
        refine VD.c (.ix (j := i) rfl rfl el96 (by omega)) ?_
        refine VD.c (.fa (.r (.l .o))) ?_
        refine VD.nw [] ?_
        refine VD.r [] (.ld vt9) (.inl rfl) ?_
        refine VD.c (.fa (.l .o)) ?_
        refine VD.r [] (.ld vt9) (.inl rfl) ?_
        refine VD.c (.seql) ?_
        refine VD.c (.pickT rfl rfl) ?_
        refine VD.c (.move rfl) ?_
        refine VD.splitD (x := 31) rfl (fun g4_17 => ?_) (fun g4_17 => ?_)
        · refine VD.nw [] ?_
          refine VD.c (.move rfl) ?_
          refine VD.c (.move rfl) ?_
          refine VD.c (.ix (j := i) rfl rfl el96 (by omega)) ?_
          refine VD.c (.fa (.r (.r (.l .o)))) ?_
          refine VD.r [] (.ld vt3) (.inl rfl) ?_
          refine VD.c (.fa (.r (.l .o))) ?_
          refine VD.r [] (.ld vt3) (.inl rfl) ?_
          refine VD.nw [] ?_
          refine VD.c (.eql) ?_
          refine VD.c (.pickT rfl rfl) ?_
          refine VD.c (.move rfl) ?_
          refine VD.splitD (x := 41) rfl (fun g4_27 => ?_) (fun g4_27 => ?_)
          · refine VD.c (.move rfl) ?_
            refine VD.c (.move rfl) ?_
            refine VD.c (.ix (j := i) rfl rfl el96 (by omega)) ?_
            refine VD.nw [] ?_
            refine VD.c (.fa (.r (.r (.r (.l .o))))) ?_
            refine VD.r [] (.ld vt3) (.inl rfl) ?_
            refine VD.c (.fa (.r (.r .o))) ?_
            refine VD.r [] (.ld vt3) (.inl rfl) ?_
            refine VD.c (.eql) ?_
            refine VD.c (.pickT rfl rfl) ?_
            refine VD.nil ?_
            exact ⟨⟨rfl, rfl, rfl, rfl, slE rfl (by rw [Bool.eq_iff_iff]; simp [hitB, *]), trivial⟩, rfl⟩
          · refine VD.skip ?_
            refine VD.skip ?_
            refine VD.skip ?_
            refine VD.nw [] ?_
            refine VD.skip ?_
            refine VD.skip ?_
            refine VD.skip ?_
            refine VD.skip ?_
            refine VD.skip ?_
            refine VD.c (.pickF rfl rfl) ?_
            refine VD.nil ?_
            exact ⟨⟨rfl, rfl, rfl, rfl, slE rfl (by rw [Bool.eq_iff_iff]; simp [hitB, *]), trivial⟩, rfl⟩
        · refine VD.nw [] ?_
          refine VD.skip ?_
          refine VD.skip ?_
          refine VD.skip ?_
          refine VD.skip ?_
          refine VD.skip ?_
          refine VD.skip ?_
          refine VD.skip ?_
          refine VD.nw [] ?_
          refine VD.skip ?_
          refine VD.c (.pickF rfl rfl) ?_
          refine VD.c (.move rfl) ?_
          refine VD.skip ?_
          refine VD.skip ?_
          refine VD.skip ?_
          refine VD.skip ?_
          refine VD.nw [] ?_
          refine VD.skip ?_
          refine VD.skip ?_
          refine VD.skip ?_
          refine VD.skip ?_
          refine VD.c (.pickF rfl rfl) ?_
          refine VD.nil ?_
          exact ⟨⟨rfl, rfl, rfl, rfl, slE rfl (by rw [Bool.eq_iff_iff]; simp [hitB, *]), trivial⟩, rfl⟩
      · refine VD.skip ?_
        refine VD.skip ?_
        refine VD.skip ?_
        refine VD.skip ?_
        refine VD.nw [] ?_
        refine VD.skip ?_
        refine VD.skip ?_
        refine VD.skip ?_
        refine VD.skip ?_
        refine VD.c (.pickF rfl rfl) ?_
        refine VD.c (.move rfl) ?_
        refine VD.skip ?_
        refine VD.nw [] ?_
        refine VD.skip ?_
        refine VD.skip ?_
        refine VD.skip ?_
        refine VD.skip ?_
        refine VD.skip ?_
        refine VD.skip ?_
        refine VD.skip ?_
        refine VD.nw [] ?_
        refine VD.c (.pickF rfl rfl) ?_
        refine VD.c (.move rfl) ?_
        refine VD.skip ?_
        refine VD.skip ?_
        refine VD.skip ?_
        refine VD.skip ?_
        refine VD.skip ?_
        refine VD.nw [] ?_
        refine VD.skip ?_
        refine VD.skip ?_
        refine VD.skip ?_
        refine VD.c (.pickF rfl rfl) ?_
        refine VD.nil ?_
        exact ⟨⟨rfl, rfl, rfl, rfl, slE rfl (by rw [Bool.eq_iff_iff]; simp [hitB, *]), trivial⟩, rfl⟩
    show VC _ _ _ _ _ _ _ _
    refine VC.condB rfl (fun c4 => ?_) (fun c4 => ?_)
    · refine VC.seq ?_
      refine VC.text ?_
      refine VO.c (.move rfl) ?_
      refine VO.c (.assign rfl) ?_
      refine VO.go ?_
      refine VC.ret ?_
      exact VEnd.one rfl evT (pvI (by rw [fndE, (List.findIdx_eq hi').2 ⟨c4, fun j hj => hn j hj (by omega)⟩, if_pos hi']))
    · refine VC.skip ?_
      show VC _ _ _ _ _ _ _ _
      refine VC.text ?_
      refine VO.c (.move rfl) ?_
      refine VO.c (.add rfl rfl (by omega)) ?_
      refine VO.c (.assign rfl) ?_
      refine VO.nil ?_
      refine ⟨_, [(0, .v y96 l), (1, I n), (5, .p y145 s), (7, I (((i + 1) : Nat) : Int))], ?_, ⟨rfl, rfl, rfl, rfl, trivial⟩, (i + 1), rfl, rfl, rfl, (by omega), (by intro j hj hj'; rcases Nat.lt_succ_iff_lt_or_eq.1 hj with h | h; exact hn j h hj'; subst h; exact c4)⟩
      omega
  · refine VC.exit ?_
    show VC _ _ _ _ _ _ _ _
    refine VC.seq ?_
    refine VC.text ?_
    refine VO.c (.assign rfl) ?_
    refine VO.go ?_
    refine VC.ret ?_
    exact VEnd.one rfl evT (pvI (by rw [fndE, List.findIdx_eq_length.2 (fun p hp => by obtain ⟨k, hk, rfl⟩ := List.getElem_of_mem hp; exact hn k (by omega) hk), if_neg (by omega)]))
def plusZ (x : Nat) : Nat := (single.add x 0).getD 0
theorem u32_0 : u32 0 = some 0 := by decide +kernel
theorem plusZ_ok {x : Nat} (h : lvlE x = 0) : single.add x 0 = some (plusZ x) ∧ lvlE (plusZ x) = 0 ∧ u32 (plusZ x) = u32 x := by
  obtain ⟨h1, h2, h3⟩ := lvl_ok h
  obtain ⟨r, hr, hr2⟩ := add32 h1 u32_0 (by
    rw [Int.add_zero, Int.natAbs_mul]
    exact rep_small (n := (sxE x).natAbs) (j := 145) (by show _ < 2 ^ (23 + 1); omega) (by decide))
  have e : plusZ x = r := by rw [plusZ, hr] <;> rfl
  rw [Int.add_zero] at hr2
  rw [e]
  exact ⟨hr, (lvl_of hr2 h2 h3).1, by rw [hr2, h1]⟩
theorem rPlain_ok {l : List Nat} (hl : l.length < 100000) (hv : ∀ x ∈ l, lvlE x = 0) : VF Tryz.prog OA 133 [.v y124 l] (.v y124 (l.map plusZ)) := by
  refine VF.enter Tryz.func133 rfl (fun _ _ => rfl) rfl ?_
  show VC _ _ _ _ _ [(0, .v y124 l)] [] _
  refine VC.seq ?_
  refine VC.text ?_
  refine VO.c (.assign rfl) ?_
  refine VO.go ?_
  refine VC.seq ?_
  refine VC.text ?_
  refine VO.c (.assign rfl) ?_
  refine VO.go ?_
  refine VC.seq ?_
  refine VC.seq ?_
  refine VC.text ?_
  refine VO.c (.assign rfl) ?_
  refine VO.go ?_
  refine VC.block ?_
  refine VC.cell0 127 (.flt .f32) ?_
  refine VC.keep [(0, .v y124 l), (3, .raw (.slice none 0 0)), (4, I ((0 : Nat) : Int))] ⟨rfl, rfl, rfl, trivial⟩ ?_
  refine VC.loop (I := fun kk ff ss => ∃ (i : Nat) (out : Value), kk = l.length - i ∧ ff = [(0, .v y124 l), (3, .raw out), (4, I ((i : Nat) : Int))] ∧ ss = [(out, .row 127 (.flt .f32) ((l.take i).map plusZ))] ∧ (i ≤ l.length)) ?_ _ _ _ ⟨0, (.slice none 0 0), rfl, rfl, rfl, Nat.zero_le _⟩
  rintro kk ff ss ⟨i, out, hk0, rfl, rfl, hi⟩
  refine VC.seq ?_
  refine VC.seq ?_
  refine VC.text ?_
  refine VO.c (.move rfl) ?_
  refine VO.c (.move rfl) ?_
  refine VO.r (.len el124) ?_
  refine VO.c (.lss) ?_
  refine VO.go ?_
  refine VC.condD rfl (fun c3 => ?_) (fun c3 => ?_)
  · have hp := (plusZ_ok (hv _ (List.getElem_mem (show i < l.length by omega)))).1
    refine VC.skip ?_
    show VC _ _ _ _ _ _ _ _
    refine VC.seq ?_
    refine VC.block ?_
    refine VC.text ?_
    refine VO.c (.move rfl) ?_
    refine VO.c (.move rfl) ?_
    refine VO.c (.move rfl) ?_
    refine VO.c (.ix (j := i) rfl rfl el124 (by omega)) ?_
    refine VO.r (.ld vt127) ?_
    refine VO.c (.fop (add32E hp)) ?_
    refine VO.new (.lit [plusZ l[i]] el124) ?_
    refine VO.app rfl rfl el124 el124 (by simp; omega) ?_
    intro ww1
    refine VO.c (.assign rfl) ?_
    refine VO.nil ?_
    show VC _ _ _ _ _ _ _ _
    refine VC.text ?_
    refine VO.c (.move rfl) ?_
    refine VO.c (.add rfl rfl (by omega)) ?_
    refine VO.c (.assign rfl) ?_
    refine VO.nil ?_
    refine ⟨_, [(0, .v y124 l), (3, .raw ww1), (4, I (((i + 1) : Nat) : Int))], ?_, ⟨rfl, rfl, rfl, trivial⟩, (i + 1), ww1, rfl, rfl, (by rw [List.take_succ_eq_append_getElem (by omega), List.map_append] <;> rfl), (by omega)⟩
    omega
  · refine VC.exit ?_
    show VC _ _ _ _ _ _ _ _
    refine VC.seq ?_
    refine VC.text ?_
    refine VO.c (.move rfl) ?_
    refine VO.c (.assign rfl) ?_
    refine VO.go ?_
    refine VC.ret ?_
    exact VEnd.one rfl (evC (.row m0)) (pvE (by rw [List.take_of_length_le (by omega)]))
def fndQ (l : List Pc) (n : Int) (x : ByteArray) (t : Int) (r : Nat) : Option (List Nat) := if fndE l n (x, t, (r : Int)) < 0 then none else some ((pcA l (fndE l n (x, t, (r : Int))).toNat).2.2.2.2.map plusZ)
theorem fndE_range {l : List Pc} {n : Int} {s : Sl} : -1 ≤ fndE l n s ∧ fndE l n s < l.length := by unfold fndE; split <;> omega
theorem rFieldX_ok {d : Int × Int × Int × (List (ByteArray × Int))} {l : List (Int × ByteArray × Int × Int × (List Nat))} {n : Int} {x : ByteArray} {t : Int} (hd : domE d = 0) (hl : l.length < 100000) (hv : ∀ p ∈ l, p.2.2.2.2.length < 100000 ∧ ∀ x ∈ p.2.2.2.2, lvlE x = 0) : VF Tryz.prog OA 59 [.v y95 d, .v y96 l, I n, St x, I t] (.tup [.v y101 ((rowsQ (fndQ l n x t) d.1.toNat).1), B ((rowsQ (fndQ l n x t) d.1.toNat).2)]) := by
  refine VF.enter Tryz.func59 rfl (fun _ _ => rfl) rfl ?_
  show VC _ _ _ _ _ [(0, .v y95 d), (1, .v y96 l), (2, I n), (3, St x), (4, I t)] [] _
  refine VC.seq ?_
  refine VC.text ?_
  have hdd := dom_ok hd
  refine VO.new (.box) ?_
  refine VO.c (.assign rfl) ?_
  refine VO.c (.assign rfl) ?_
  refine VO.go ?_
  refine VC.seq ?_
  refine VC.text ?_
  refine VO.c (.assign rfl) ?_
  refine VO.go ?_
  refine VC.seq ?_
  refine VC.seq ?_
  refine VC.text ?_
  refine VO.c (.assign rfl) ?_
  refine VO.go ?_
  refine VC.block ?_
  refine VC.cell0 124 y124 ?_
  refine VC.keep [(1, .v y96 l), (2, I n), (3, St x), (4, I t), (5, .p y95 d), (12, .raw (.slice none 0 0)), (13, I ((0 : Nat) : Int))] ⟨rfl, rfl, rfl, rfl, rfl, rfl, rfl, trivial⟩ ?_
  refine VC.loop (I := fun kk ff ss => ∃ (r : Nat) (out : Value), kk = d.1.toNat - r ∧ ff = [(1, .v y96 l), (2, I n), (3, St x), (4, I t), (5, .p y95 d), (12, .raw out), (13, I ((r : Nat) : Int))] ∧ ss = [(out, .row 124 y124 ((List.range r).map (fun r => (fndQ l n x t r).getD [])))] ∧ (r ≤ d.1.toNat) ∧ (∀ k, k < r → (fndQ l n x t k).isSome = true)) ?_ _ _ _ ⟨0, (.slice none 0 0), rfl, rfl, rfl, Nat.zero_le _, (by intro k hk; omega)⟩
  rintro kk ff ss ⟨r, out, hk0, rfl, rfl, hr, hq⟩
  refine VC.seq ?_
  refine VC.seq ?_
  refine VC.text ?_
  refine VO.c (.move rfl) ?_
  refine VO.c (.fa (.l .o)) ?_
  refine VO.r (.ld vt3) ?_
  refine VO.c (.lss) ?_
  refine VO.go ?_
  refine VC.condD rfl (fun c3 => ?_) (fun c3 => ?_)
  · have hr' : r < d.1.toNat := by omega
    have hrg := fndE_range (l := l) (n := n) (s := (x, t, (r : Int)))
    refine VC.skip ?_
    show VC _ _ _ _ _ _ _ _
    refine VC.seq ?_
    refine VC.block ?_
    refine VC.seq ?_
    refine VC.text ?_
    refine VO.c (.move rfl) ?_
    refine VO.c (.move rfl) ?_
    refine VO.c (.move rfl) ?_
    refine VO.c (.move rfl) ?_
    refine VO.c (.move rfl) ?_
    refine VO.c (.build (x, t, ((r : Nat) : Int)) bt145) ?_
    refine VO.call rfl rfl (VF.call (rFind_ok hl)) ?_
    refine VO.c (.assign rfl) ?_
    refine VO.go ?_
    refine VC.seq ?_
    refine VC.seq ?_
    refine VC.text ?_
    refine VO.c (.move rfl) ?_
    refine VO.c (.lss) ?_
    refine VO.go ?_
    refine VC.condD rfl (fun c6 => ?_) (fun c6 => ?_)
    · have hs : fndQ l n x t r = none := by rw [fndQ, if_pos c6]
      refine VC.seq ?_
      refine VC.text ?_
      refine VO.c (.assign rfl) ?_
      refine VO.c (.assign rfl) ?_
      refine VO.go ?_
      refine VC.ret ?_
      exact VEnd.two rfl (evC .nil) evT (pvE (by rw [rowsQ_f hr' (by rw [hs]; rfl)])) (pvE (by rw [rowsQ_f hr' (by rw [hs]; rfl)]))
    · have hlt : (fndE l n (x, t, (r : Int))).toNat < l.length := by omega
      have hs : fndQ l n x t r = some ((pcA l (fndE l n (x, t, (r : Int))).toNat).2.2.2.2.map plusZ) := by rw [fndQ, if_neg c6]
      have hvv := hv _ (pcA_mem hlt)
      refine VC.skip ?_
      show VC _ _ _ _ _ _ _ _
      refine VC.text ?_
      refine VO.c (.move rfl) ?_
      refine VO.c (.move rfl) ?_
      refine VO.c (.move rfl) ?_
      refine VO.c (.ixZ (k := fndE l n (x, t, ((r : Nat) : Int))) rfl rfl el96 (by omega) (by omega)) ?_
      refine VO.c (.fa (.r (.r (.r (.r .o))))) ?_
      refine VO.r (.ld vt124) ?_
      refine VO.call rfl rfl (VF.call (rPlain_ok (by rw [pcA_eq]; exact hvv.1) (by rw [pcA_eq]; exact hvv.2))) ?_
      refine VO.new (.lit [((l[Int.toNat (fndE l n (x, t, ((r : Nat) : Int)))]).2.2.2.2).map plusZ] el101) ?_
      refine VO.app rfl rfl el101 el101 (by simp; omega) ?_
      intro ww2
      refine VO.c (.assign rfl) ?_
      refine VO.nil ?_
      show VC _ _ _ _ _ _ _ _
      refine VC.text ?_
      refine VO.c (.move rfl) ?_
      refine VO.c (.add rfl rfl (by omega)) ?_
      refine VO.c (.assign rfl) ?_
      refine VO.nil ?_
      refine ⟨_, [(1, .v y96 l), (2, I n), (3, St x), (4, I t), (5, .p y95 d), (12, .raw ww2), (13, I (((r + 1) : Nat) : Int))], ?_, ⟨rfl, rfl, rfl, rfl, rfl, rfl, rfl, trivial⟩, (r + 1), ww2, rfl, rfl, (by rw [List.range_succ, List.map_append, List.map_cons, hs, pcA_eq] <;> rfl), (by omega), (by intro k hk; rcases Nat.lt_succ_iff_lt_or_eq.1 hk with h | h; exact hq k h; subst h; rw [hs] <;> rfl)⟩
      omega
  · refine VC.exit ?_
    show VC _ _ _ _ _ _ _ _
    refine VC.seq ?_
    refine VC.text ?_
    refine VO.c (.move rfl) ?_
    refine VO.c (.assign rfl) ?_
    refine VO.c (.assign rfl) ?_
    refine VO.go ?_
    refine VC.ret ?_
    exact VEnd.two rfl (evC (.row m0)) evT (pvE (by rw [rowsQ_t (fun k hk => hq k (by omega)), show r = d.1.toNat by omega])) (pvE (by rw [rowsQ_t (fun k hk => hq k (by omega))]))
end Go.Proofs
namespace Go.Proofs
open Go.Fs Ieee
set_option linter.unusedVariables false
abbrev y93 : Ty := (.sl (.pair .str (.int .i64)))
abbrev y203 : Ty := (.pair .str (.int .i64))
theorem vt203 : ValT Tryz.prog 203 y203 := valT_of (by kernel_rfl)
theorem zt106 : ZerT Tryz.prog 106 y106 := zerT_of (z := .agg #[.int .i64 0, .int .i64 0, .int .i64 0, .slice none 0 0]) (by kernel_rfl) rfl rfl
theorem zt152 : ZerT Tryz.prog 152 y152 := zerT_of (z := .agg #[.int .i64 0, .string ByteArray.empty, .int .i64 0, .int .i64 0, .slice none 0 0]) (by kernel_rfl) rfl rfl
theorem zt203 : ZerT Tryz.prog 203 y203 := zerT_of (z := .agg #[.string ByteArray.empty, .int .i64 0]) (by kernel_rfl) rfl rfl
theorem bt106 : BldT Tryz.prog 106 y106 [(0, 1), (1, 1), (2, 1), (3, 1)] := bldT_of zt106 rfl (by kernel_rfl)
/-! ## What a law asks and says -/
def sameLv (a b : List Nat) : Bool := decide (a.length = b.length ∧ ∀ i, i < a.length → fcmpE .neq .f32 (a.getD i 0) (b.getD i 0) = false)
def sameRw (a b : List (List Nat)) : Bool := decide (a.length = b.length ∧ ∀ i, i < a.length → sameLv (a.getD i []) (b.getD i []) = true)
def shortD (d : Dom) : Bool := decide ((d.2.2.2.length ≤ 3 ∨ d.2.2.2.length = 17) ∧ (∀ i, i < d.2.2.2.length → (nmE d.2.2.2 i).size ≤ 60) ∧ (d.1 ≤ 3 ∨ 8 < d.1) ∧ (d.2.1 ≤ 3 ∨ 8 < d.2.1) ∧ (d.2.2.1 ≤ 3 ∨ 96 < d.2.2.1))
theorem rShortD_ok {d : Int × Int × Int × (List (ByteArray × Int))} (hl : d.2.2.2.length ≤ 9223372036854775807) : VF Tryz.prog OA 52 [.v y95 d] (B (shortD d)) := by
  refine VF.enter Tryz.func52 rfl (fun _ _ => rfl) rfl ?_
  show VC _ _ _ _ _ [(0, .v y95 d)] [] _
  refine VC.seq ?_
  refine VC.text ?_
  refine VO.new (.box) ?_
  refine VO.c (.assign rfl) ?_
  refine VO.go ?_
  refine VC.seq ?_
  refine VC.seq ?_
  refine VC.text ?_
  refine VO.c (.fa (.r (.r (.r .o)))) ?_
  refine VO.r (.ld vt93) ?_
  refine VO.r (.len el93) ?_
  refine VO.c (.gtr) ?_
  refine VO.c (.move rfl) ?_
  refine VO.cg (r := decide ((3 : Int) < ((d.2.2.2.length : Nat) : Int))) (w := true) [] trivial (fun hgd => have g1_4 : (3 : Int) < ((d.2.2.2.length : Nat) : Int) := (by simpa using hgd); (.fa (.r (.r (.r .o))))) ?_
  refine VO.rg (r := decide ((3 : Int) < ((d.2.2.2.length : Nat) : Int))) (w := true) [(9, .p y93 d.2.2.2)] ⟨rfl, trivial⟩ (fun hgd => have g1_4 : (3 : Int) < ((d.2.2.2.length : Nat) : Int) := (by simpa using hgd); (.ld vt93)) ?_
  refine VO.rg (r := decide ((3 : Int) < ((d.2.2.2.length : Nat) : Int))) (w := true) [(10, .v y93 d.2.2.2)] ⟨rfl, trivial⟩ (fun hgd => have g1_4 : (3 : Int) < ((d.2.2.2.length : Nat) : Int) := (by simpa using hgd); (.len el93)) ?_
  refine VO.cg (r := decide ((3 : Int) < ((d.2.2.2.length : Nat) : Int))) (w := true) [(11, I ((d.2.2.2.length : Nat) : Int))] ⟨rfl, trivial⟩ (fun hgd => have g1_4 : (3 : Int) < ((d.2.2.2.length : Nat) : Int) := (by simpa using hgd); (.neq)) ?_
  refine VO.c (.and) ?_
  refine VO.go ?_
  refine VC.condB rfl (fun c1 => ?_) (fun c1 => ?_)
  · try simp only [Bool.and_eq_true, Bool.or_eq_true, Bool.and_eq_false_iff, Bool.or_eq_false_iff, Bool.not_eq_true', Bool.not_eq_false', decide_eq_true_eq, decide_eq_false_iff_not] at c1
    refine VC.seq ?_
    refine VC.text ?_
    refine VO.c (.assign rfl) ?_
    refine VO.go ?_
    refine VC.ret ?_
    exact VEnd.one rfl evT (pvE (by exact (decide_eq_false fun hh => by have := hh.1; omega).symm))
  · try simp only [Bool.and_eq_true, Bool.or_eq_true, Bool.and_eq_false_iff, Bool.or_eq_false_iff, Bool.not_eq_true', Bool.not_eq_false', decide_eq_true_eq, decide_eq_false_iff_not] at c1
    refine VC.skip ?_
    show VC _ _ _ _ _ _ _ _
    refine VC.seq ?_
    refine VC.seq ?_
    refine VC.text ?_
    refine VO.c (.assign rfl) ?_
    refine VO.go ?_
    refine VC.block ?_
    refine VC.keep [(1, .p y95 d), (3, I ((0 : Nat) : Int))] ⟨rfl, rfl, trivial⟩ ?_
    refine VC.loop (I := fun kk ff ss => ∃ (i : Nat), kk = d.2.2.2.length - i ∧ ff = [(1, .p y95 d), (3, I ((i : Nat) : Int))] ∧ ss = [] ∧ (i ≤ d.2.2.2.length) ∧ (∀ j, j < i → (nmE d.2.2.2 j).size ≤ 60)) ?_ _ _ _ ⟨0, rfl, rfl, rfl, Nat.zero_le _, (by intro j hj; omega)⟩
    rintro kk ff ss ⟨i, hk0, rfl, rfl, hi, hn⟩
    refine VC.seq ?_
    refine VC.seq ?_
    refine VC.text ?_
    refine VO.c (.move rfl) ?_
    refine VO.c (.fa (.r (.r (.r .o)))) ?_
    refine VO.r (.ld vt93) ?_
    refine VO.r (.len el93) ?_
    refine VO.c (.lss) ?_
    refine VO.go ?_
    refine VC.condD rfl (fun c4 => ?_) (fun c4 => ?_)
    · have hi' : i < d.2.2.2.length := by omega
      refine VC.skip ?_
      show VC _ _ _ _ _ _ _ _
      refine VC.seq ?_
      refine VC.block ?_
      refine VC.seq ?_
      refine VC.text ?_
      refine VO.c (.fa (.r (.r (.r .o)))) ?_
      refine VO.r (.ld vt93) ?_
      refine VO.c (.move rfl) ?_
      refine VO.c (.ix (j := i) rfl rfl el93 (by omega)) ?_
      refine VO.c (.fa (.l .o)) ?_
      refine VO.r (.ld vt9) ?_
      refine VO.r (.lenS) ?_
      refine VO.c (.gtr) ?_
      refine VO.go ?_
      refine VC.condD rfl (fun c6 => ?_) (fun c6 => ?_)
      · refine VC.seq ?_
        refine VC.text ?_
        refine VO.c (.assign rfl) ?_
        refine VO.go ?_
        refine VC.ret ?_
        exact VEnd.one rfl evT (pvE (by exact (decide_eq_false fun hh => by have := hh.2.1 i hi'; rw [← nmE_eq hi'] at this; omega).symm))
      · refine VC.skip ?_
        show VC _ _ _ _ _ _ _ _
        refine VC.text ?_
        refine VO.c (.move rfl) ?_
        refine VO.c (.add rfl rfl (by omega)) ?_
        refine VO.c (.assign rfl) ?_
        refine VO.nil ?_
        refine ⟨_, [(1, .p y95 d), (3, I (((i + 1) : Nat) : Int))], ?_, ⟨rfl, rfl, trivial⟩, (i + 1), rfl, rfl, rfl, (by omega), (by intro j hj; rcases Nat.lt_succ_iff_lt_or_eq.1 hj with h | h; exact hn j h; subst h; rw [← nmE_eq hi']; omega)⟩
        omega
    · have he : shortD d = decide ((d.1 ≤ 3 ∨ 8 < d.1) ∧ (d.2.1 ≤ 3 ∨ 8 < d.2.1) ∧ (d.2.2.1 ≤ 3 ∨ 96 < d.2.2.1)) := decide_eq_decide.2 ⟨fun h => h.2.2, fun h => ⟨by omega, fun j hj => hn j (by omega), h⟩⟩
      refine VC.exit ?_
      show VC _ _ _ _ _ _ _ _
      refine VC.seq ?_
      refine VC.join [(2, B (shortD d))] [] ?_ ?_
      · skip
        refine VC.text ?_
        refine VO.c (.fa (.l .o)) ?_
        refine VO.r (.ld vt3) ?_
        refine VO.c (.leq) ?_
        refine VO.c (.move rfl) ?_
        refine VO.cg (r := decide (d.1 ≤ (3 : Int))) (w := false) [] trivial (fun hgd => have g8_3 : ¬ (d.1 ≤ (3 : Int)) := (by simpa using hgd); (.fa (.l .o))) ?_
        refine VO.rg (r := decide (d.1 ≤ (3 : Int))) (w := false) [(33, .p (.int .i64) d.1)] ⟨rfl, trivial⟩ (fun hgd => have g8_3 : ¬ (d.1 ≤ (3 : Int)) := (by simpa using hgd); (.ld vt3)) ?_
        refine VO.cg (r := decide (d.1 ≤ (3 : Int))) (w := false) [(34, I d.1)] ⟨rfl, trivial⟩ (fun hgd => have g8_3 : ¬ (d.1 ≤ (3 : Int)) := (by simpa using hgd); (.gtr)) ?_
        refine VO.c (.or) ?_
        refine VO.c (.move rfl) ?_
        refine VO.splitB (x := 37) rfl (fun g8_8 => ?_) (fun g8_8 => ?_)
        · try simp only [Bool.and_eq_true, Bool.or_eq_true, Bool.and_eq_false_iff, Bool.or_eq_false_iff, Bool.not_eq_true', Bool.not_eq_false', decide_eq_true_eq, decide_eq_false_iff_not] at g8_8
          refine VO.c (.fa (.r (.l .o))) ?_
          refine VO.r (.ld vt3) ?_
          refine VO.c (.leq) ?_
          refine VO.c (.move rfl) ?_
          refine VO.cg (r := decide (d.2.1 ≤ (3 : Int))) (w := false) [] trivial (fun hgd => have g8_12 : ¬ (d.2.1 ≤ (3 : Int)) := (by simpa using hgd); (.fa (.r (.l .o)))) ?_
          refine VO.rg (r := decide (d.2.1 ≤ (3 : Int))) (w := false) [(42, .p (.int .i64) d.2.1)] ⟨rfl, trivial⟩ (fun hgd => have g8_12 : ¬ (d.2.1 ≤ (3 : Int)) := (by simpa using hgd); (.ld vt3)) ?_
          refine VO.cg (r := decide (d.2.1 ≤ (3 : Int))) (w := false) [(43, I d.2.1)] ⟨rfl, trivial⟩ (fun hgd => have g8_12 : ¬ (d.2.1 ≤ (3 : Int)) := (by simpa using hgd); (.gtr)) ?_
          refine VO.c (.or) ?_
          refine VO.c (.pickT rfl rfl) ?_
          refine VO.c (.move rfl) ?_
          refine VO.splitB (x := 47) rfl (fun g8_18 => ?_) (fun g8_18 => ?_)
          · try simp only [Bool.and_eq_true, Bool.or_eq_true, Bool.and_eq_false_iff, Bool.or_eq_false_iff, Bool.not_eq_true', Bool.not_eq_false', decide_eq_true_eq, decide_eq_false_iff_not] at g8_18
            refine VO.c (.fa (.r (.r (.l .o)))) ?_
            refine VO.r (.ld vt3) ?_
            refine VO.c (.leq) ?_
            refine VO.c (.move rfl) ?_
            refine VO.cg (r := decide (d.2.2.1 ≤ (3 : Int))) (w := false) [] trivial (fun hgd => have g8_22 : ¬ (d.2.2.1 ≤ (3 : Int)) := (by simpa using hgd); (.fa (.r (.r (.l .o))))) ?_
            refine VO.rg (r := decide (d.2.2.1 ≤ (3 : Int))) (w := false) [(52, .p (.int .i64) d.2.2.1)] ⟨rfl, trivial⟩ (fun hgd => have g8_22 : ¬ (d.2.2.1 ≤ (3 : Int)) := (by simpa using hgd); (.ld vt3)) ?_
            refine VO.cg (r := decide (d.2.2.1 ≤ (3 : Int))) (w := false) [(53, I d.2.2.1)] ⟨rfl, trivial⟩ (fun hgd => have g8_22 : ¬ (d.2.2.1 ≤ (3 : Int)) := (by simpa using hgd); (.gtr)) ?_
            refine VO.c (.or) ?_
            refine VO.c (.pickT rfl rfl) ?_
            refine VO.c (.assign rfl) ?_
            refine VO.nil ?_
            exact ⟨⟨slE rfl (by rw [he, Bool.eq_iff_iff]; simp only [Bool.and_eq_true, Bool.or_eq_true, decide_eq_true_eq, Bool.false_eq_true, true_iff, false_iff] <;> omega), trivial⟩, rfl⟩
          · try simp only [Bool.and_eq_true, Bool.or_eq_true, Bool.and_eq_false_iff, Bool.or_eq_false_iff, Bool.not_eq_true', Bool.not_eq_false', decide_eq_true_eq, decide_eq_false_iff_not] at g8_18
            refine VO.skip ?_
            refine VO.skip ?_
            refine VO.skip ?_
            refine VO.skip ?_
            refine VO.skip ?_
            refine VO.skip ?_
            refine VO.skip ?_
            refine VO.skip ?_
            refine VO.c (.pickF rfl rfl) ?_
            refine VO.c (.assign rfl) ?_
            refine VO.nil ?_
            exact ⟨⟨slE rfl (by rw [he, Bool.eq_iff_iff]; simp only [Bool.and_eq_true, Bool.or_eq_true, decide_eq_true_eq, Bool.false_eq_true, true_iff, false_iff] <;> omega), trivial⟩, rfl⟩
        · try simp only [Bool.and_eq_true, Bool.or_eq_true, Bool.and_eq_false_iff, Bool.or_eq_false_iff, Bool.not_eq_true', Bool.not_eq_false', decide_eq_true_eq, decide_eq_false_iff_not] at g8_8
          refine VO.skip ?_
          refine VO.skip ?_
          refine VO.skip ?_
          refine VO.skip ?_
          refine VO.skip ?_
          refine VO.skip ?_
          refine VO.skip ?_
          refine VO.skip ?_
          refine VO.c (.pickF rfl rfl) ?_
          refine VO.c (.move rfl) ?_
          refine VO.skip ?_
          refine VO.skip ?_
          refine VO.skip ?_
          refine VO.skip ?_
          refine VO.skip ?_
          refine VO.skip ?_
          refine VO.skip ?_
          refine VO.skip ?_
          refine VO.c (.pickF rfl rfl) ?_
          refine VO.c (.assign rfl) ?_
          refine VO.nil ?_
          exact ⟨⟨slE rfl (by rw [he, Bool.eq_iff_iff]; simp only [Bool.and_eq_true, Bool.or_eq_true, decide_eq_true_eq, Bool.false_eq_true, true_iff, false_iff] <;> omega), trivial⟩, rfl⟩
      show VC _ _ _ _ _ _ _ _
      refine VC.ret ?_
      exact VEnd.one rfl evT (pvE (by first | rfl | simp))
def shortS (l : List Pc) (k : Int) : Bool := decide (((l.length : Int) ≤ k ∨ (l.length : Int) = 4097) ∧ ∀ i, i < l.length → (pcA l i).2.1.size ≤ 60 ∧ (pcA l i).2.2.2.2.length ≤ 9)
theorem rShortS_ok {l : List (Int × ByteArray × Int × Int × (List Nat))} {k : Int} (hl : l.length ≤ 9223372036854775807) : VF Tryz.prog OA 53 [.v y96 l, I k] (B (shortS l k)) := by
  refine VF.enter Tryz.func53 rfl (fun _ _ => rfl) rfl ?_
  show VC _ _ _ _ _ [(0, .v y96 l), (1, I k)] [] _
  refine VC.seq ?_
  refine VC.text ?_
  refine VO.c (.assign rfl) ?_
  refine VO.go ?_
  refine VC.seq ?_
  refine VC.seq ?_
  refine VC.text ?_
  refine VO.c (.move rfl) ?_
  refine VO.r (.len el96) ?_
  refine VO.c (.move rfl) ?_
  refine VO.c (.gtr) ?_
  refine VO.c (.move rfl) ?_
  refine VO.cg (r := decide (k < ((l.length : Nat) : Int))) (w := true) [] trivial (fun hgd => have g1_4 : k < ((l.length : Nat) : Int) := (by simpa using hgd); (.move rfl)) ?_
  refine VO.rg (r := decide (k < ((l.length : Nat) : Int))) (w := true) [(11, .v y96 l)] ⟨rfl, trivial⟩ (fun hgd => have g1_4 : k < ((l.length : Nat) : Int) := (by simpa using hgd); (.len el96)) ?_
  refine VO.cg (r := decide (k < ((l.length : Nat) : Int))) (w := true) [(12, I ((l.length : Nat) : Int))] ⟨rfl, trivial⟩ (fun hgd => have g1_4 : k < ((l.length : Nat) : Int) := (by simpa using hgd); (.neq)) ?_
  refine VO.c (.and) ?_
  refine VO.go ?_
  refine VC.condB rfl (fun c1 => ?_) (fun c1 => ?_)
  · try simp only [Bool.and_eq_true, Bool.or_eq_true, Bool.and_eq_false_iff, Bool.or_eq_false_iff, Bool.not_eq_true', Bool.not_eq_false', decide_eq_true_eq, decide_eq_false_iff_not] at c1
    refine VC.seq ?_
    refine VC.text ?_
    refine VO.c (.assign rfl) ?_
    refine VO.go ?_
    refine VC.ret ?_
    exact VEnd.one rfl evT (pvE (by exact (decide_eq_false fun hh => by have := hh.1; omega).symm))
  · try simp only [Bool.and_eq_true, Bool.or_eq_true, Bool.and_eq_false_iff, Bool.or_eq_false_iff, Bool.not_eq_true', Bool.not_eq_false', decide_eq_true_eq, decide_eq_false_iff_not] at c1
    refine VC.skip ?_
    show VC _ _ _ _ _ _ _ _
    refine VC.seq ?_
    refine VC.seq ?_
    refine VC.text ?_
    refine VO.c (.assign rfl) ?_
    refine VO.go ?_
    refine VC.block ?_
    refine VC.keep [(0, .v y96 l), (5, I ((0 : Nat) : Int))] ⟨rfl, rfl, trivial⟩ ?_
    refine VC.loop (I := fun kk ff ss => ∃ (i : Nat), kk = l.length - i ∧ ff = [(0, .v y96 l), (5, I ((i : Nat) : Int))] ∧ ss = [] ∧ (i ≤ l.length) ∧ (∀ j, j < i → (pcA l j).2.1.size ≤ 60 ∧ (pcA l j).2.2.2.2.length ≤ 9)) ?_ _ _ _ ⟨0, rfl, rfl, rfl, Nat.zero_le _, (by intro j hj; omega)⟩
    rintro kk ff ss ⟨i, hk0, rfl, rfl, hi, hn⟩
    refine VC.seq ?_
    refine VC.seq ?_
    refine VC.text ?_
    refine VO.c (.move rfl) ?_
    refine VO.c (.move rfl) ?_
    refine VO.r (.len el96) ?_
    refine VO.c (.lss) ?_
    refine VO.go ?_
    refine VC.condD rfl (fun c4 => ?_) (fun c4 => ?_)
    · have hi' : i < l.length := by omega
      refine VC.skip ?_
      show VC _ _ _ _ _ _ _ _
      refine VC.seq ?_
      refine VC.block ?_
      refine VC.seq ?_
      refine VC.join [(0, .v y96 l), (5, I ((i : Nat) : Int)), (36, B (!decide ((pcA l i).2.1.size ≤ 60 ∧ (pcA l i).2.2.2.2.length ≤ 9)))] [] ?_ ?_
      · skip
        refine VC.text ?_
        refine VO.c (.move rfl) ?_
        refine VO.c (.move rfl) ?_
        refine VO.c (.ix (j := i) rfl rfl el96 (by omega)) ?_
        refine VO.c (.fa (.r (.l .o))) ?_
        refine VO.r (.ld vt9) ?_
        refine VO.r (.lenS) ?_
        refine VO.c (.gtr) ?_
        refine VO.c (.move rfl) ?_
        refine VO.splitD (x := 28) rfl (fun g6_7 => ?_) (fun g6_7 => ?_)
        · refine VO.skip ?_
          refine VO.skip ?_
          refine VO.skip ?_
          refine VO.skip ?_
          refine VO.skip ?_
          refine VO.skip ?_
          refine VO.skip ?_
          refine VO.c (.pickT rfl rfl) ?_
          refine VO.nil ?_
          exact ⟨⟨rfl, rfl, slE rfl (by rw [← pcA_eq hi', Bool.eq_iff_iff]; simp <;> omega), trivial⟩, rfl⟩
        · refine VO.c (.move rfl) ?_
          refine VO.c (.move rfl) ?_
          refine VO.c (.ix (j := i) rfl rfl el96 (by omega)) ?_
          refine VO.c (.fa (.r (.r (.r (.r .o))))) ?_
          refine VO.r (.ld vt124) ?_
          refine VO.r (.len el124) ?_
          refine VO.c (.gtr) ?_
          refine VO.c (.pickF rfl rfl) ?_
          refine VO.nil ?_
          exact ⟨⟨rfl, rfl, slE rfl (by rw [← pcA_eq hi', Bool.eq_iff_iff]; simp <;> omega), trivial⟩, rfl⟩
      show VC _ _ _ _ _ _ _ _
      refine VC.condB rfl (fun c6 => ?_) (fun c6 => ?_)
      · try simp only [Bool.and_eq_true, Bool.or_eq_true, Bool.and_eq_false_iff, Bool.or_eq_false_iff, Bool.not_eq_true', Bool.not_eq_false', decide_eq_true_eq, decide_eq_false_iff_not] at c6
        have c6' : ¬ ((pcA l i).2.1.size ≤ 60 ∧ (pcA l i).2.2.2.2.length ≤ 9) := by omega
        refine VC.seq ?_
        refine VC.text ?_
        refine VO.c (.assign rfl) ?_
        refine VO.go ?_
        refine VC.ret ?_
        exact VEnd.one rfl evT (pvE (by exact (decide_eq_false fun hh => c6' (hh.2 i hi')).symm))
      · try simp only [Bool.and_eq_true, Bool.or_eq_true, Bool.and_eq_false_iff, Bool.or_eq_false_iff, Bool.not_eq_true', Bool.not_eq_false', decide_eq_true_eq, decide_eq_false_iff_not] at c6
        have c6' : (pcA l i).2.1.size ≤ 60 ∧ (pcA l i).2.2.2.2.length ≤ 9 := by omega
        refine VC.skip ?_
        show VC _ _ _ _ _ _ _ _
        refine VC.text ?_
        refine VO.c (.move rfl) ?_
        refine VO.c (.add rfl rfl (by omega)) ?_
        refine VO.c (.assign rfl) ?_
        refine VO.nil ?_
        refine ⟨_, [(0, .v y96 l), (5, I (((i + 1) : Nat) : Int))], ?_, ⟨rfl, rfl, trivial⟩, (i + 1), rfl, rfl, rfl, (by omega), (by intro j hj; rcases Nat.lt_succ_iff_lt_or_eq.1 hj with h | h; exact hn j h; subst h; exact c6')⟩
        omega
    · refine VC.exit ?_
      show VC _ _ _ _ _ _ _ _
      refine VC.seq ?_
      refine VC.text ?_
      refine VO.c (.assign rfl) ?_
      refine VO.go ?_
      refine VC.ret ?_
      exact VEnd.one rfl evT (pvE (by exact (decide_eq_true ⟨by omega, fun j hj => hn j (by omega)⟩).symm))
theorem lDom_ok {d : Int × Int × Int × (List (ByteArray × Int))} (hl : d.2.2.2.length < 100000) : VF Tryz.prog OA 55 [.v y95 d] (.v y106 d) := by
  refine VF.enter Tryz.func55 rfl (fun _ _ => rfl) rfl ?_
  show VC _ _ _ _ _ [(0, .v y95 d)] [] _
  refine VC.seq ?_
  refine VC.text ?_
  refine VO.new (.box) ?_
  refine VO.cell (.alloc zt106) ?_
  intro ww1
  refine VO.go ?_
  refine VC.seq ?_
  refine VC.text ?_
  refine VO.c (.fa (.l .o)) ?_
  refine VO.r (.ld vt3) ?_
  refine VO.c (.fa (.r (.l .o))) ?_
  refine VO.r (.ld vt3) ?_
  refine VO.c (.fa (.r (.r (.l .o)))) ?_
  refine VO.r (.ld vt3) ?_
  refine VO.c (.buildA (cs := [I d.1, I d.2.1, I d.2.2.1, nilV]) bt106 rfl) ?_
  refine VO.cell (.alloc zt106) ?_
  intro ww2
  refine VO.setV (cs' := [I d.1, I d.2.1, I d.2.2.1, nilV]) vt106 (.aggs rfl rfl) ?_
  refine VO.go ?_
  refine VC.seq ?_
  refine VC.seq ?_
  refine VC.text ?_
  refine VO.c (.fa (.r (.r (.r .o)))) ?_
  refine VO.r (.ld vt93) ?_
  refine VO.r (.len el93) ?_
  refine VO.c (.move rfl) ?_
  refine VO.go ?_
  refine VC.block ?_
  refine VC.cell0 210 y210 ?_
  refine VC.keep [(2, .raw ww1), (3, .raw ww2), (14, .v y93 d.2.2.2), (15, I ((d.2.2.2.length : Nat) : Int)), (16, I ((0 : Nat) : Int))] ⟨rfl, rfl, rfl, rfl, rfl, trivial⟩ ?_
  refine VC.loop (I := fun kk ff ss => ∃ (i : Nat) (w : Value), kk = d.2.2.2.length - i ∧ ff = [(2, .raw ww1), (3, .raw ww2), (14, .v y93 d.2.2.2), (15, I ((d.2.2.2.length : Nat) : Int)), (16, I ((i : Nat) : Int))] ∧ ss = [(w, .row 210 y210 (d.2.2.2.take i)), (ww2, .var [I d.1, I d.2.1, I d.2.2.1, .raw w]), (ww1, .var [I (0 : Int), I (0 : Int), I (0 : Int), .v y104 []])] ∧ (i ≤ d.2.2.2.length)) ?_ _ _ _ ⟨0, (.slice none 0 0), rfl, rfl, rfl, Nat.zero_le _⟩
  rintro kk ff ss ⟨i, w, hk0, rfl, rfl, hi⟩
  refine VC.seq ?_
  refine VC.text ?_
  refine VO.c (.lss) ?_
  refine VO.go ?_
  refine VC.seq ?_
  refine VC.condD rfl (fun c3 => ?_) (fun c3 => ?_)
  · refine VC.skip ?_
    show VC _ _ _ _ _ _ _ _
    refine VC.seq ?_
    refine VC.block ?_
    refine VC.seq ?_
    refine VC.text ?_
    refine VO.c (.ix (j := i) rfl rfl el93 (by omega)) ?_
    refine VO.r (.ld vt203) ?_
    refine VO.cell (.alloc zt203) ?_
    intro ww3
    refine VO.setV (cs' := [St ((d.2.2.2[i]).1), I ((d.2.2.2[i]).2)]) vt203 .v ?_
    refine VO.shut [(5, .p y203 (d.2.2.2[i]))] (.cons rfl (.var m0 .refl) .nil) ?_
    refine VO.go ?_
    refine VC.text ?_
    refine VO.c (.faO (k := 3) m1) ?_
    refine VO.r (.ldF (k := 3) m1 vt104) ?_
    refine VO.r (.ld vt203) ?_
    refine VO.new (.lit [d.2.2.2[i]] el104) ?_
    refine VO.app rfl rfl el104 el104 (by simp; omega) ?_
    intro ww4
    refine VO.c (.faO (k := 3) m1) ?_
    refine VO.perm swap1 ?_
    refine VO.one m1 fun ho5 => ?_
    refine VO.setF (cs' := [I d.1, I d.2.1, I d.2.2.1, .raw ww4]) 3 vt104 (.raw rfl (agg_one ho5) ho5) ?_
    refine VO.nil ?_
    show VC _ _ _ _ _ _ _ _
    refine VC.text ?_
    refine VO.c (.add rfl rfl (by omega)) ?_
    refine VO.c (.move rfl) ?_
    refine VO.perm swap2 ?_
    refine VO.perm swap1 ?_
    refine VO.perm swap2 ?_
    refine VO.nil ?_
    refine ⟨_, [(2, .raw ww1), (3, .raw ww2), (14, .v y93 d.2.2.2), (15, I ((d.2.2.2.length : Nat) : Int)), (16, I (((i + 1) : Nat) : Int))], ?_, ⟨rfl, rfl, rfl, rfl, rfl, trivial⟩, (i + 1), ww4, rfl, rfl, (by rw [List.take_succ_eq_append_getElem (by omega)] <;> rfl), (by omega)⟩
    omega
  · refine VC.exit ?_
    show VC _ _ _ _ _ _ _ _
    refine VC.seq ?_
    refine VC.shutL [(w, .row 210 y210 (d.2.2.2.take i)), (ww2, .var [I d.1, I d.2.1, I d.2.2.1, .raw w])] [(3, .p y106 (d.1, d.2.1, d.2.2.1, (d.2.2.2.take i)))] rfl (.cons rfl (.var m1 (.cons .same (.cons .same (.cons .same (.cons (.row m0) .nil))))) .nil) ?_
    refine VC.text ?_
    refine VO.r (.ld vt106) ?_
    refine VO.setV (cs' := [I d.1, I d.2.1, I d.2.2.1, .v y104 (d.2.2.2.take i)]) vt106 .v ?_
    refine VO.go ?_
    refine VC.ret ?_
    exact VEnd.one rfl (.cell (x := (d.1, d.2.1, d.2.2.1, (d.2.2.2.take i))) rfl m0 vt106 .refl) (pvE (by rw [List.take_of_length_le (by omega)]))
theorem lPc_ok {p : Int × ByteArray × Int × Int × (List Nat)} (hl : p.2.2.2.2.length < 100000) : VF Tryz.prog OA 83 [.v y152 p] (.v y160 p) := by
  refine VF.enter Tryz.func83 rfl (fun _ _ => rfl) rfl ?_
  show VC _ _ _ _ _ [(0, .v y152 p)] [] _
  refine VC.seq ?_
  refine VC.text ?_
  refine VO.new (.box) ?_
  refine VO.cell (.alloc zt160) ?_
  intro ww6
  refine VO.go ?_
  refine VC.seq ?_
  refine VC.text ?_
  refine VO.r (.ld vt152) ?_
  refine VO.cell (.alloc zt160) ?_
  intro ww7
  refine VO.setV (cs' := [I p.1, St p.2.1, I p.2.2.1, I p.2.2.2.1, .v y124 p.2.2.2.2]) vt160 .v ?_
  refine VO.go ?_
  refine VC.seq ?_
  refine VC.text ?_
  refine VO.cell (.lit0 el124) ?_
  intro ww8
  refine VO.c (.fa (.r (.r (.r (.r .o))))) ?_
  refine VO.r (.ld vt124) ?_
  refine VO.app rfl rfl el124 el124 (by simp; omega) ?_
  intro ww9
  refine VO.c (.faO (k := 4) m1) ?_
  refine VO.perm swap1 ?_
  refine VO.one m1 fun ho10 => ?_
  refine VO.setF (cs' := [I p.1, St p.2.1, I p.2.2.1, I p.2.2.2.1, .raw ww9]) 4 vt124 (.raw rfl (agg_one ho10) ho10) ?_
  refine VO.go ?_
  refine VC.seq ?_
  refine VC.perm swap1 ?_
  refine VC.shutL [(ww9, .row 127 (.flt .f32) p.2.2.2.2), (ww7, .var [I p.1, St p.2.1, I p.2.2.1, I p.2.2.2.1, .raw ww9])] [(3, .p y160 (p.1, p.2.1, p.2.2.1, p.2.2.2.1, p.2.2.2.2))] rfl (.cons rfl (.var m1 (.cons .same (.cons .same (.cons .same (.cons .same (.cons (.row m0) .nil)))))) .nil) ?_
  refine VC.text ?_
  refine VO.r (.ld vt160) ?_
  refine VO.setV (cs' := [I p.1, St p.2.1, I p.2.2.1, I p.2.2.2.1, .v y124 p.2.2.2.2]) vt160 .v ?_
  refine VO.go ?_
  refine VC.ret ?_
  exact VEnd.one rfl (.cell (x := (p.1, p.2.1, p.2.2.1, p.2.2.2.1, p.2.2.2.2)) rfl m0 vt160 .refl) (pvE (by first | rfl | simp))
theorem lPcs_ok {l : List (Int × ByteArray × Int × Int × (List Nat))} (hl : l.length < 100000) (hr : ∀ r ∈ l, r.2.2.2.2.length < 100000) : VF Tryz.prog OA 56 [.v y96 l] (.v y108 l) := by
  refine VF.enter Tryz.func56 rfl (fun _ _ => rfl) rfl ?_
  show VC _ _ _ _ _ [(0, .v y96 l)] [] _
  refine VC.seq ?_
  refine VC.text ?_
  refine VO.c (.assign rfl) ?_
  refine VO.go ?_
  refine VC.seq ?_
  refine VC.text ?_
  refine VO.c (.assign rfl) ?_
  refine VO.go ?_
  refine VC.seq ?_
  refine VC.seq ?_
  refine VC.text ?_
  refine VO.c (.move rfl) ?_
  refine VO.r (.len el96) ?_
  refine VO.c (.move rfl) ?_
  refine VO.go ?_
  refine VC.block ?_
  refine VC.cell0 160 y160 ?_
  refine VC.keep [(3, .raw (.slice none 0 0)), (6, .v y96 l), (7, I ((l.length : Nat) : Int)), (8, I ((0 : Nat) : Int))] ⟨rfl, rfl, rfl, rfl, trivial⟩ ?_
  refine VC.loop (I := fun kk ff ss => ∃ (j : Nat) (out : Value), kk = l.length - j ∧ ff = [(3, .raw out), (6, .v y96 l), (7, I ((l.length : Nat) : Int)), (8, I ((j : Nat) : Int))] ∧ ss = [(out, .row 160 y160 (l.take j))] ∧ (j ≤ l.length)) ?_ _ _ _ ⟨0, (.slice none 0 0), rfl, rfl, rfl, Nat.zero_le _⟩
  rintro kk ff ss ⟨j, out, hk0, rfl, rfl, hj⟩
  refine VC.seq ?_
  refine VC.text ?_
  refine VO.c (.lss) ?_
  refine VO.go ?_
  refine VC.seq ?_
  refine VC.condD rfl (fun c3 => ?_) (fun c3 => ?_)
  · refine VC.skip ?_
    show VC _ _ _ _ _ _ _ _
    refine VC.seq ?_
    refine VC.block ?_
    refine VC.seq ?_
    refine VC.text ?_
    refine VO.c (.ix (j := j) rfl rfl el96 (by omega)) ?_
    refine VO.r (.ld vt152) ?_
    refine VO.cell (.alloc zt152) ?_
    intro ww11
    refine VO.setV (cs' := [I ((l[j]).1), St ((l[j]).2.1), I ((l[j]).2.2.1), I ((l[j]).2.2.2.1), .v y124 ((l[j]).2.2.2.2)]) vt152 .v ?_
    refine VO.shut [(5, .p y152 (l[j]))] (.cons rfl (.var m0 .refl) .nil) ?_
    refine VO.go ?_
    refine VC.text ?_
    refine VO.c (.move rfl) ?_
    refine VO.r (.ld vt152) ?_
    refine VO.call rfl rfl (VF.call (lPc_ok (hr _ (List.getElem_mem _)))) ?_
    refine VO.new (.lit [(l[j])] el108) ?_
    refine VO.app rfl rfl el108 el108 (by simp; omega) ?_
    intro ww12
    refine VO.c (.assign rfl) ?_
    refine VO.nil ?_
    show VC _ _ _ _ _ _ _ _
    refine VC.text ?_
    refine VO.c (.add rfl rfl (by omega)) ?_
    refine VO.c (.move rfl) ?_
    refine VO.nil ?_
    refine ⟨_, [(3, .raw ww12), (6, .v y96 l), (7, I ((l.length : Nat) : Int)), (8, I (((j + 1) : Nat) : Int))], ?_, ⟨rfl, rfl, rfl, rfl, trivial⟩, (j + 1), ww12, rfl, rfl, (by rw [List.take_succ_eq_append_getElem (by omega)] <;> rfl), (by omega)⟩
    omega
  · refine VC.exit ?_
    show VC _ _ _ _ _ _ _ _
    refine VC.seq ?_
    refine VC.text ?_
    refine VO.c (.move rfl) ?_
    refine VO.c (.assign rfl) ?_
    refine VO.go ?_
    refine VC.ret ?_
    exact VEnd.one rfl (evC (.row m0)) (pvE (by rw [List.take_of_length_le (by omega)]))
end Go.Proofs
namespace Go.Proofs
open Go.Fs Ieee
set_option linter.unusedVariables false
abbrev y98 : Ty := (.pair (.int .i64) (.pair .str (.int .i64)))
/-! ## The law of fields -/
theorem pc_lv {d : Dom} {p : Pc} (h : pcE d p = 0) : pcPre d p = 0 ∧ ∀ x ∈ p.2.2.2.2, lvlE x = 0 := by
  unfold pcE at h
  split at h
  · rename_i h0
    rw [firstE_zero] at h
    exact ⟨h0, fun x hx => h _ (List.mem_map_of_mem hx)⟩
  · contradiction
theorem step_lt {d : Dom} {l : List Pc} {i : Nat} (h : pieceE d l (i + 1) = 0) : ¬ 0 ≤ cmpP (plE d (pcA l i)) (plE d (pcA l (i + 1))) := fun hc => by
  rw [piece_z (piece_zero h)] at h
  rw [show i + 1 - 1 = i from rfl, decide_eq_true hc, decide_eq_true (Nat.succ_pos i)] at h
  cases h
theorem cmp_trans {a b c : Pc × Int} (h1 : ¬ 0 ≤ cmpP a b) (h2 : ¬ 0 ≤ cmpP b c) : ¬ 0 ≤ cmpP a c := by
  unfold cmpP at *
  have e3 : 0 ≤ firstE [] := by decide
  simp only [firstE_cmp, e3, and_true] at *
  omega
theorem all_lt {d : Dom} {l : List Pc} (hz : ∀ k, k < l.length → pieceE d l k = 0) {j : Nat} : ∀ (i : Nat), j < i → i < l.length → ¬ 0 ≤ cmpP (plE d (pcA l j)) (plE d (pcA l i))
  | 0, h, _ => by omega
  | i + 1, h, hi => by
    have h1 := step_lt (hz _ hi)
    rcases Nat.lt_succ_iff_lt_or_eq.1 h with h3 | h3
    · exact cmp_trans (all_lt hz i h3 (by omega)) h1
    · subst h3; exact h1
theorem cmp_same {d : Dom} {a b : Pc} (h1 : a.1 = b.1) (h2 : slotE a = slotE b) : 0 ≤ cmpP (plE d a) (plE d b) := by
  have e1 : a.2.1 = b.2.1 := congrArg (·.1) h2
  have e2 : a.2.2.1 = b.2.2.1 := congrArg (·.2.1) h2
  have e4 : a.2.2.2.1 = b.2.2.2.1 := congrArg (·.2.2) h2
  have e3 : 0 ≤ firstE [] := by decide
  unfold cmpP plE
  simp [e1, e2, e4, h1, firstE, show ∀ x : Int, cmpI x x = 0 from fun _ => cmpI_eq rfl]
theorem slot_uniq {d : Dom} {l : List Pc} (hz : ∀ k, k < l.length → pieceE d l k = 0) {i j : Nat} (hi : i < l.length) (hj : j < l.length) (h1 : (pcA l i).1 = (pcA l j).1) (h2 : slotE (pcA l i) = slotE (pcA l j)) : i = j := by
  rcases Nat.lt_trichotomy i j with h | h | h
  · exact absurd (cmp_same h1 h2) (all_lt hz j h hj)
  · exact h
  · exact absurd (cmp_same h1.symm h2.symm) (all_lt hz i h hi)
theorem hitB_iff {n : Int} {s : Sl} {p : Pc} : hitB n s p = true ↔ p.1 = n ∧ slotE p = s := by
  unfold hitB slotE
  rw [decide_eq_true_iff]
  constructor
  · rintro ⟨h1, h2, h3, h4⟩; exact ⟨h1, by rw [h2, h3, h4]⟩
  · rintro ⟨h1, h2⟩; subst h2; exact ⟨h1, rfl, rfl, rfl⟩
theorem fnd_run {d : Dom} {l : List Pc} (hz : ∀ k, k < l.length → pieceE d l k = 0) (n : Int) (s : Sl) : mget (runM l n l.length) s = if fndE l n s < 0 then none else some (pcA l (fndE l n s).toNat) := by
  unfold fndE
  by_cases h : l.findIdx (hitB n s) < l.length
  · rw [if_pos h, if_neg (by omega)]
    have h1 : hitB n s l[l.findIdx (hitB n s)] = true := List.findIdx_getElem (w := h)
    rw [pcA_eq h] at h1
    obtain ⟨h2, h3⟩ := hitB_iff.1 h1
    cases hg : mget (runM l n l.length) s with
    | none => exact absurd h3 (runM_none _ hg _ h h2)
    | some p =>
      obtain ⟨j, j1, rfl, j2, j3⟩ := runM_some _ hg
      rw [slot_uniq hz j1 h (j2.trans h2.symm) (j3.trans h3.symm)]
      simp
  · rw [if_neg h, if_pos (by omega)]
    cases hg : mget (runM l n l.length) s with
    | none => rfl
    | some p =>
      obtain ⟨j, j1, rfl, j2, j3⟩ := runM_some _ hg
      have h5 : l.findIdx (hitB n s) = l.length := Nat.le_antisymm List.findIdx_le_length (by omega)
      have h4 := List.findIdx_eq_length.1 h5 _ (pcA_mem j1)
      rw [hitB_iff.2 ⟨j2, j3⟩] at h4; cases h4
theorem fnd_has {d : Dom} {l : List Pc} (hz : ∀ k, k < l.length → pieceE d l k = 0) (n : Int) (x : ByteArray) (t : Int) (r : Nat) : fndQ l n x t r = (hasQ (runM l n l.length) x t r).map (fun v => v.map plusZ) := by
  unfold fndQ hasQ
  rw [fnd_run hz]
  split <;> rfl
theorem rowsQ_map {q : Nat → Option (List Nat)} {f : List Nat → List Nat} {n : Nat} : rowsQ (fun r => (q r).map f) n = ((rowsQ q n).1.map f, (rowsQ q n).2) := by
  cases h : (List.range n).all (fun r => (q r).isSome) with
  | true =>
    have h1 : ∀ r, r < n → (q r).isSome = true := fun r hr => List.all_eq_true.1 h r (List.mem_range.2 hr)
    rw [rowsQ_t h1, rowsQ_t fun r hr => by rw [Option.isSome_map]; exact h1 r hr]
    simp only [List.map_map]
    congr 1
    apply List.map_congr_left
    intro r hr
    have h2 := h1 r (List.mem_range.1 hr)
    simp only [Function.comp]
    cases hq : q r with
    | none => rw [hq] at h2; cases h2
    | some v => rfl
  | false =>
    obtain ⟨r, hr, h2⟩ := List.all_eq_false.1 h
    have h3 : (q r).isSome = false := by simpa using h2
    rw [rowsQ_f (List.mem_range.1 hr) h3, rowsQ_f (List.mem_range.1 hr) (by rw [Option.isSome_map]; exact h3)]
    rfl
theorem fieldA_eq {d : Dom} {l : List Pc} {n : Int} : fieldA d l n = if storeE d l ≠ 0 then storeE d l else rangeE n 0 100000 := by
  rw [fieldA, show ∀ x y : Int, firstE [x, y] = firstE ([x] ++ [y]) from fun _ _ => rfl, firstE_app, firstE_one, firstE_one]
  by_cases h : storeE d l = 0
  · rw [if_pos h, if_neg (by simpa using h)]
  · rw [if_neg h, if_pos h]
end Go.Proofs
namespace Go.Proofs
open Go.Fs Ieee
set_option linter.unusedVariables false
theorem vt145 : ValT Tryz.prog 145 y145 := valT_of (by kernel_rfl)
/-! ## What is missing -/
def slM (d : Dom) (m t r : Nat) : Sl := (nmE d.2.2.2 m, (t : Int), (r : Int))
def preT (d : Dom) (m t : Nat) : List Sl := (List.range t).flatMap fun t => (List.range d.1.toNat).map (slM d m t)
def preM (d : Dom) (m : Nat) : List Sl := (List.range m).flatMap fun m => preT d m d.2.2.1.toNat
def preR (d : Dom) (m t r : Nat) : List Sl := preM d m ++ (preT d m t ++ (List.range r).map (slM d m t))
def lost (l : List Pc) (n : Int) (s : Sl) : Bool := decide (fndE l n s < 0)
def missL (d : Dom) (l : List Pc) (n : Int) : List Sl := (preM d d.2.2.2.length).filter (lost l n)
def z3 : Sl := (ByteArray.empty, 0, 0)
def cntE (d : Dom) (l : List Pc) (n : Int) (m t r : Nat) : Nat := ((preR d m t r).filter (lost l n)).length
def hdE (d : Dom) (l : List Pc) (n : Int) (m t r : Nat) : Sl := ((preR d m t r).filter (lost l n)).headD z3
theorem preR_row (d : Dom) (m t : Nat) : preR d m t d.1.toNat = preR d m (t + 1) 0 := by
  unfold preR preT
  rw [List.range_succ, List.flatMap_append]
  simp
theorem preR_tick (d : Dom) (m : Nat) : preR d m d.2.2.1.toNat 0 = preR d (m + 1) 0 0 := by
  unfold preR preM
  rw [List.range_succ, List.flatMap_append]
  simp [preT]
theorem preR_end (d : Dom) (m : Nat) : preR d m 0 0 = preM d m := by simp [preR, preT]
theorem preR_succ (d : Dom) (m t r : Nat) : preR d m t (r + 1) = preR d m t r ++ [slM d m t r] := by
  unfold preR
  rw [List.range_succ, List.map_append]
  simp
theorem fil_hit {d : Dom} {l : List Pc} {n : Int} {m t r : Nat} (h : 0 ≤ fndE l n (slM d m t r)) : (preR d m t (r + 1)).filter (lost l n) = (preR d m t r).filter (lost l n) := by
  rw [preR_succ, List.filter_append, List.filter_cons_of_neg (by rw [lost, decide_eq_false (by omega)]; exact Bool.false_ne_true)]
  simp
theorem fil_lost {d : Dom} {l : List Pc} {n : Int} {m t r : Nat} (h : ¬ 0 ≤ fndE l n (slM d m t r)) : (preR d m t (r + 1)).filter (lost l n) = (preR d m t r).filter (lost l n) ++ [slM d m t r] := by
  rw [preR_succ, List.filter_append, List.filter_cons_of_pos (by rw [lost, decide_eq_true (by omega)])]
  simp
theorem cnt_hit {d : Dom} {l : List Pc} {n : Int} {m t r : Nat} (h : 0 ≤ fndE l n (slM d m t r)) : cntE d l n m t (r + 1) = cntE d l n m t r := by rw [cntE, fil_hit h] <;> rfl
theorem cnt_lost {d : Dom} {l : List Pc} {n : Int} {m t r : Nat} (h : ¬ 0 ≤ fndE l n (slM d m t r)) : cntE d l n m t (r + 1) = cntE d l n m t r + 1 := by rw [cntE, fil_lost h, List.length_append] <;> rfl
theorem hd_hit {d : Dom} {l : List Pc} {n : Int} {m t r : Nat} (h : 0 ≤ fndE l n (slM d m t r)) : hdE d l n m t (r + 1) = hdE d l n m t r := by rw [hdE, fil_hit h] <;> rfl
theorem hd_first {d : Dom} {l : List Pc} {n : Int} {m t r : Nat} (h : ¬ 0 ≤ fndE l n (slM d m t r)) (h0 : cntE d l n m t r = 0) : hdE d l n m t (r + 1) = slM d m t r := by
  rw [hdE, fil_lost h, List.eq_nil_of_length_eq_zero h0] <;> rfl
theorem hd_more {d : Dom} {l : List Pc} {n : Int} {m t r : Nat} (h : ¬ 0 ≤ fndE l n (slM d m t r)) (h0 : ¬ cntE d l n m t r = 0) : hdE d l n m t (r + 1) = hdE d l n m t r := by
  rw [hdE, fil_lost h, hdE]
  unfold cntE at h0
  cases hf : (preR d m t r).filter (lost l n) with
  | nil => rw [hf] at h0; exact absurd rfl h0
  | cons a b => rfl
theorem cnt_bound {d : Dom} {l : List Pc} {n : Int} {m t r : Nat} : cntE d l n m t r ≤ (m * d.2.2.1.toNat + t) * d.1.toNat + r := by
  unfold cntE
  refine Nat.le_trans (List.length_filter_le _ _) ?_
  have h1 : ∀ m t, (preT d m t).length = t * d.1.toNat := fun m t => by
    unfold preT
    induction t with
    | zero => simp
    | succ t ih => rw [List.range_succ, List.flatMap_append, List.length_append, ih]; simp [Nat.succ_mul]
  have h2 : (preM d m).length = m * d.2.2.1.toNat * d.1.toNat := by
    unfold preM
    induction m with
    | zero => simp
    | succ m ih => rw [List.range_succ, List.flatMap_append, List.length_append, ih]; simp [h1, Nat.succ_mul, Nat.add_mul]
  unfold preR
  rw [List.length_append, List.length_append, h1, h2, List.length_map, List.length_range, Nat.add_mul, Nat.add_assoc]
  exact Nat.le_refl _
theorem cnt_small {d : Dom} {l : List Pc} {n : Int} {m t r : Nat} (hd : domE d = 0) (hm : m ≤ d.2.2.2.length) (ht : t ≤ d.2.2.1.toNat) (hr : r ≤ d.1.toNat) : cntE d l n m t r ≤ 100000 := by
  obtain ⟨h1, h2, h3, h4, _⟩ := dom_ok hd
  have h5 := cnt_bound (d := d) (l := l) (n := n) (m := m) (t := t) (r := r)
  have h6 : m * d.2.2.1.toNat ≤ 16 * 96 := Nat.mul_le_mul (by omega) (by omega)
  have h7 : (m * d.2.2.1.toNat + t) * d.1.toNat ≤ (16 * 96 + 96) * 8 := Nat.mul_le_mul (by omega) (by omega)
  omega
theorem slM_eq {d : Dom} {m t r : Nat} (h : m < d.2.2.2.length) : (d.2.2.2[m].1, ((t : Nat) : Int), ((r : Nat) : Int)) = slM d m t r := by rw [nmE_eq h] <;> rfl
theorem rMiss_ok {d : Int × Int × Int × (List (ByteArray × Int))} {l : List (Int × ByteArray × Int × Int × (List Nat))} {n : Int} (hd : domE d = 0) (hl : l.length < 100000) : VF Tryz.prog OA 76 [.v y95 d, .v y96 l, I n] (.tup [I ((missL d l n).length : Nat), .v y145 ((missL d l n).headD z3)]) := by
  refine VF.enter Tryz.func76 rfl (fun _ _ => rfl) rfl ?_
  show VC _ _ _ _ _ [(0, .v y95 d), (1, .v y96 l), (2, I n)] [] _
  refine VC.seq ?_
  refine VC.text ?_
  have hdd := dom_ok hd
  refine VO.new (.box) ?_
  refine VO.c (.assign rfl) ?_
  refine VO.cell (.alloc zt145) ?_
  intro ww1
  refine VO.go ?_
  refine VC.seq ?_
  refine VC.text ?_
  refine VO.c (.assign rfl) ?_
  refine VO.go ?_
  refine VC.seq ?_
  refine VC.text ?_
  refine VO.cell (.alloc zt145) ?_
  intro ww2
  refine VO.go ?_
  refine VC.seq ?_
  refine VC.seq ?_
  refine VC.text ?_
  refine VO.c (.assign rfl) ?_
  refine VO.go ?_
  refine VC.block ?_
  refine VC.keep [(1, .v y96 l), (2, I n), (3, .p y95 d), (7, .raw ww1), (8, I ((cntE d l n 0 0 0 : Nat) : Int)), (9, .raw ww2), (10, I ((0 : Nat) : Int))] ⟨rfl, rfl, rfl, rfl, slI rfl (by rfl), rfl, rfl, trivial⟩ ?_
  refine VC.loop (I := fun kk ff ss => ∃ (m : Nat), kk = d.2.2.2.length - m ∧ ff = [(1, .v y96 l), (2, I n), (3, .p y95 d), (7, .raw ww1), (8, I ((cntE d l n m 0 0 : Nat) : Int)), (9, .raw ww2), (10, I ((m : Nat) : Int))] ∧ ss = [(ww2, .var [St ((hdE d l n m 0 0).1), I ((hdE d l n m 0 0).2.1), I ((hdE d l n m 0 0).2.2)]), (ww1, .var [St ByteArray.empty, I (0 : Int), I (0 : Int)])] ∧ (m ≤ d.2.2.2.length)) ?_ _ _ _ ⟨0, rfl, rfl, (by rfl), Nat.zero_le _⟩
  rintro kk ff ss ⟨m, hk0, rfl, rfl, hm⟩
  refine VC.seq ?_
  refine VC.seq ?_
  refine VC.text ?_
  refine VO.c (.move rfl) ?_
  refine VO.c (.fa (.r (.r (.r .o)))) ?_
  refine VO.r (.ld vt93) ?_
  refine VO.r (.len el93) ?_
  refine VO.c (.lss) ?_
  refine VO.go ?_
  refine VC.condD rfl (fun c4 => ?_) (fun c4 => ?_)
  · have hm' : m < d.2.2.2.length := by omega
    refine VC.skip ?_
    show VC _ _ _ _ _ _ _ _
    refine VC.seq ?_
    refine VC.block ?_
    refine VC.seq ?_
    refine VC.text ?_
    refine VO.c (.assign rfl) ?_
    refine VO.go ?_
    refine VC.block ?_
    refine VC.keep [(1, .v y96 l), (2, I n), (3, .p y95 d), (7, .raw ww1), (8, I ((cntE d l n m 0 0 : Nat) : Int)), (9, .raw ww2), (10, I ((m : Nat) : Int)), (11, I ((0 : Nat) : Int))] ⟨rfl, rfl, rfl, rfl, rfl, rfl, rfl, rfl, trivial⟩ ?_
    refine VC.loop (I := fun kk ff ss => ∃ (t : Nat), kk = d.2.2.1.toNat - t ∧ ff = [(1, .v y96 l), (2, I n), (3, .p y95 d), (7, .raw ww1), (8, I ((cntE d l n m t 0 : Nat) : Int)), (9, .raw ww2), (10, I ((m : Nat) : Int)), (11, I ((t : Nat) : Int))] ∧ ss = [(ww2, .var [St ((hdE d l n m t 0).1), I ((hdE d l n m t 0).2.1), I ((hdE d l n m t 0).2.2)]), (ww1, .var [St ByteArray.empty, I (0 : Int), I (0 : Int)])] ∧ (t ≤ d.2.2.1.toNat)) ?_ _ _ _ ⟨0, rfl, rfl, rfl, Nat.zero_le _⟩
    rintro kk ff ss ⟨t, hk2, rfl, rfl, ht⟩
    refine VC.seq ?_
    refine VC.seq ?_
    refine VC.text ?_
    refine VO.c (.move rfl) ?_
    refine VO.c (.fa (.r (.r (.l .o)))) ?_
    refine VO.r (.ld vt3) ?_
    refine VO.c (.lss) ?_
    refine VO.go ?_
    refine VC.condD rfl (fun c7 => ?_) (fun c7 => ?_)
    · refine VC.skip ?_
      show VC _ _ _ _ _ _ _ _
      refine VC.seq ?_
      refine VC.block ?_
      refine VC.seq ?_
      refine VC.text ?_
      refine VO.c (.assign rfl) ?_
      refine VO.go ?_
      refine VC.block ?_
      refine VC.keep [(1, .v y96 l), (2, I n), (3, .p y95 d), (7, .raw ww1), (8, I ((cntE d l n m t 0 : Nat) : Int)), (9, .raw ww2), (10, I ((m : Nat) : Int)), (11, I ((t : Nat) : Int)), (12, I ((0 : Nat) : Int))] ⟨rfl, rfl, rfl, rfl, rfl, rfl, rfl, rfl, rfl, trivial⟩ ?_
      refine VC.loop (I := fun kk ff ss => ∃ (r : Nat), kk = d.1.toNat - r ∧ ff = [(1, .v y96 l), (2, I n), (3, .p y95 d), (7, .raw ww1), (8, I ((cntE d l n m t r : Nat) : Int)), (9, .raw ww2), (10, I ((m : Nat) : Int)), (11, I ((t : Nat) : Int)), (12, I ((r : Nat) : Int))] ∧ ss = [(ww2, .var [St ((hdE d l n m t r).1), I ((hdE d l n m t r).2.1), I ((hdE d l n m t r).2.2)]), (ww1, .var [St ByteArray.empty, I (0 : Int), I (0 : Int)])] ∧ (r ≤ d.1.toNat)) ?_ _ _ _ ⟨0, rfl, rfl, rfl, Nat.zero_le _⟩
      rintro kk ff ss ⟨r, hk4, rfl, rfl, hr⟩
      refine VC.seq ?_
      refine VC.seq ?_
      refine VC.text ?_
      refine VO.c (.move rfl) ?_
      refine VO.c (.fa (.l .o)) ?_
      refine VO.r (.ld vt3) ?_
      refine VO.c (.lss) ?_
      refine VO.go ?_
      refine VC.condD rfl (fun c10 => ?_) (fun c10 => ?_)
      · refine VC.skip ?_
        show VC _ _ _ _ _ _ _ _
        refine VC.seq ?_
        refine VC.block ?_
        refine VC.seq ?_
        refine VC.text ?_
        refine VO.c (.fa (.r (.r (.r .o)))) ?_
        refine VO.r (.ld vt93) ?_
        refine VO.c (.move rfl) ?_
        refine VO.c (.ix (j := m) rfl rfl el93 (by omega)) ?_
        refine VO.c (.fa (.l .o)) ?_
        refine VO.r (.ld vt9) ?_
        refine VO.c (.move rfl) ?_
        refine VO.c (.move rfl) ?_
        refine VO.c (.build ((d.2.2.2[m]).1, ((t : Nat) : Int), ((r : Nat) : Int)) bt145) ?_
        refine VO.cell (.alloc zt145) ?_
        intro ww3
        refine VO.setV (cs' := [St ((d.2.2.2[m]).1), I ((t : Nat) : Int), I ((r : Nat) : Int)]) vt145 .v ?_
        refine VO.shut [(13, .p y145 ((d.2.2.2[m]).1, ((t : Nat) : Int), ((r : Nat) : Int)))] (.cons rfl (.var m0 .refl) .nil) ?_
        refine VO.go ?_
        refine VC.seq ?_
        refine VC.seq ?_
        refine VC.text ?_
        refine VO.c (.move rfl) ?_
        refine VO.c (.move rfl) ?_
        refine VO.r (.ld vt145) ?_
        refine VO.call rfl rfl (VF.call (rFind_ok hl)) ?_
        refine VO.c (.geq) ?_
        refine VO.go ?_
        refine VC.condD rfl (fun c13 => ?_) (fun c13 => ?_)
        · have c13' : 0 ≤ fndE l n (slM d m t r) := by rw [← slM_eq hm']; exact c13
          refine VC.exit ?_
          show VC _ _ _ _ _ _ _ _
          refine VC.text ?_
          refine VO.c (.move rfl) ?_
          refine VO.c (.add rfl rfl (by omega)) ?_
          refine VO.c (.assign rfl) ?_
          refine VO.nil ?_
          refine ⟨_, [(1, .v y96 l), (2, I n), (3, .p y95 d), (7, .raw ww1), (8, I ((cntE d l n m t (r + 1) : Nat) : Int)), (9, .raw ww2), (10, I ((m : Nat) : Int)), (11, I ((t : Nat) : Int)), (12, I (((r + 1) : Nat) : Int))], ?_, ⟨rfl, rfl, rfl, rfl, slI rfl (by first | rw [cnt_hit c13'] | (rw [cnt_lost c13']; rfl)), rfl, rfl, rfl, rfl, trivial⟩, (r + 1), rfl, rfl, (by first | rw [hd_hit c13'] | (rw [hd_first c13' (by omega), ← slM_eq hm']) | rw [hd_more c13' (by omega)]), (by omega)⟩
          omega
        · have c13' : ¬ 0 ≤ fndE l n (slM d m t r) := by rw [← slM_eq hm']; exact c13
          have hcs := cnt_small (l := l) (n := n) hd hm ht hr
          refine VC.skip ?_
          show VC _ _ _ _ _ _ _ _
          refine VC.seq ?_
          refine VC.seq ?_
          refine VC.text ?_
          refine VO.c (.move rfl) ?_
          refine VO.c (.eql) ?_
          refine VO.go ?_
          refine VC.condD rfl (fun c14 => ?_) (fun c14 => ?_)
          · refine VC.text ?_
            refine VO.r (.ld vt145) ?_
            refine VO.setV (cs' := [St ((d.2.2.2[m]).1), I ((t : Nat) : Int), I ((r : Nat) : Int)]) vt145 .v ?_
            refine VO.go ?_
            refine VC.text ?_
            refine VO.c (.move rfl) ?_
            refine VO.c (.add rfl rfl (by omega)) ?_
            refine VO.c (.assign rfl) ?_
            refine VO.nil ?_
            show VC _ _ _ _ _ _ _ _
            refine VC.text ?_
            refine VO.c (.move rfl) ?_
            refine VO.c (.add rfl rfl (by omega)) ?_
            refine VO.c (.assign rfl) ?_
            refine VO.nil ?_
            refine ⟨_, [(1, .v y96 l), (2, I n), (3, .p y95 d), (7, .raw ww1), (8, I ((cntE d l n m t (r + 1) : Nat) : Int)), (9, .raw ww2), (10, I ((m : Nat) : Int)), (11, I ((t : Nat) : Int)), (12, I (((r + 1) : Nat) : Int))], ?_, ⟨rfl, rfl, rfl, rfl, slI rfl (by first | rw [cnt_hit c13'] | (rw [cnt_lost c13']; rfl)), rfl, rfl, rfl, rfl, trivial⟩, (r + 1), rfl, rfl, (by first | rw [hd_hit c13'] | (rw [hd_first c13' (by omega), ← slM_eq hm']) | rw [hd_more c13' (by omega)]), (by omega)⟩
            omega
          · refine VC.skip ?_
            show VC _ _ _ _ _ _ _ _
            refine VC.text ?_
            refine VO.c (.move rfl) ?_
            refine VO.c (.add rfl rfl (by omega)) ?_
            refine VO.c (.assign rfl) ?_
            refine VO.nil ?_
            show VC _ _ _ _ _ _ _ _
            refine VC.text ?_
            refine VO.c (.move rfl) ?_
            refine VO.c (.add rfl rfl (by omega)) ?_
            refine VO.c (.assign rfl) ?_
            refine VO.nil ?_
            refine ⟨_, [(1, .v y96 l), (2, I n), (3, .p y95 d), (7, .raw ww1), (8, I ((cntE d l n m t (r + 1) : Nat) : Int)), (9, .raw ww2), (10, I ((m : Nat) : Int)), (11, I ((t : Nat) : Int)), (12, I (((r + 1) : Nat) : Int))], ?_, ⟨rfl, rfl, rfl, rfl, slI rfl (by first | rw [cnt_hit c13'] | (rw [cnt_lost c13']; rfl)), rfl, rfl, rfl, rfl, trivial⟩, (r + 1), rfl, rfl, (by first | rw [hd_hit c13'] | (rw [hd_first c13' (by omega), ← slM_eq hm']) | rw [hd_more c13' (by omega)]), (by omega)⟩
            omega
      · refine VC.exit ?_
        show VC _ _ _ _ _ _ _ _
        refine VC.text ?_
        refine VO.c (.move rfl) ?_
        refine VO.c (.add rfl rfl (by omega)) ?_
        refine VO.c (.assign rfl) ?_
        refine VO.nil ?_
        refine ⟨_, [(1, .v y96 l), (2, I n), (3, .p y95 d), (7, .raw ww1), (8, I ((cntE d l n m (t + 1) 0 : Nat) : Int)), (9, .raw ww2), (10, I ((m : Nat) : Int)), (11, I (((t + 1) : Nat) : Int))], ?_, ⟨rfl, rfl, rfl, rfl, slI rfl (by rw [← show cntE d l n m t d.1.toNat = cntE d l n m (t + 1) 0 by rw [cntE, preR_row]; rfl, show r = d.1.toNat by omega]), rfl, rfl, rfl, trivial⟩, (t + 1), rfl, rfl, (by rw [← show hdE d l n m t d.1.toNat = hdE d l n m (t + 1) 0 by rw [hdE, preR_row]; rfl, show r = d.1.toNat by omega]), (by omega)⟩
        omega
    · refine VC.exit ?_
      show VC _ _ _ _ _ _ _ _
      refine VC.text ?_
      refine VO.c (.move rfl) ?_
      refine VO.c (.add rfl rfl (by omega)) ?_
      refine VO.c (.assign rfl) ?_
      refine VO.nil ?_
      refine ⟨_, [(1, .v y96 l), (2, I n), (3, .p y95 d), (7, .raw ww1), (8, I ((cntE d l n (m + 1) 0 0 : Nat) : Int)), (9, .raw ww2), (10, I (((m + 1) : Nat) : Int))], ?_, ⟨rfl, rfl, rfl, rfl, slI rfl (by rw [← show cntE d l n m d.2.2.1.toNat 0 = cntE d l n (m + 1) 0 0 by rw [cntE, preR_tick]; rfl, show t = d.2.2.1.toNat by omega]), rfl, rfl, trivial⟩, (m + 1), rfl, rfl, (by rw [← show hdE d l n m d.2.2.1.toNat 0 = hdE d l n (m + 1) 0 0 by rw [hdE, preR_tick]; rfl, show t = d.2.2.1.toNat by omega]), (by omega)⟩
      omega
  · refine VC.exit ?_
    show VC _ _ _ _ _ _ _ _
    refine VC.seq ?_
    refine VC.drawn ?_
    refine VD.c (.move rfl) ?_
    refine VD.r [(ww2, .var [St ((hdE d l n m 0 0).1), I ((hdE d l n m 0 0).2.1), I ((hdE d l n m 0 0).2.2)]), (ww1, .var [St ByteArray.empty, I (0 : Int), I (0 : Int)])] (.ldA (dx := (((hdE d l n m 0 0).1), ((hdE d l n m 0 0).2.1), ((hdE d l n m 0 0).2.2))) m0 vt145) (.inr ⟨rfl, rfl⟩) ?_
    refine VD.c (.assign rfl) ?_
    refine VD.perm swap1 ?_
    refine VD.mk0 (MakeV.setF (k := 0) vt145 .v (by decide) (.inr ⟨rfl, rfl⟩) rfl rfl) ?_
    rintro _ _ tl4 ⟨rfl, rfl⟩
    refine VD.go ?_
    refine VC.ret ?_
    exact VEnd.two rfl evT (.cell (x := (((hdE d l n m 0 0).1), ((hdE d l n m 0 0).2.1), ((hdE d l n m 0 0).2.2))) rfl m0 vt145 .refl) (pvI (by rw [cntE, preR_end, show m = d.2.2.2.length by omega]; rfl)) (pvE (by rw [hdE, preR_end, show m = d.2.2.2.length by omega] <;> rfl))
end Go.Proofs
namespace Go.Proofs
open Go.Fs Ieee
set_option linter.unusedVariables false

/-! ## Courses of a run -/
abbrev Tf := List Int × Int × Int
def fldE (d : Dom) (l : List Pc) (n : Int) (x : ByteArray) (t : Nat) : List (List Nat) × Bool := rowsQ (hasQ (runM l n l.length) x t) d.1.toNat
def lvsE (d : Dom) (l : List Pc) (n : Int) (p : Int × Int) (x : ByteArray) (k : Nat) : List Int := (List.range k).map fun t => (atE (fldE d l n x t).1 p).fdiv 16
def wholeB (d : Dom) (l : List Pc) (n : Int) : Bool := decide (∀ i, i < d.2.2.2.length → ∀ t, t < d.2.2.1.toNat → (fldE d l n (nmE d.2.2.2 i) t).2 = true)
def csE (d : Dom) (l : List Pc) (n : Int) (p : Int × Int) (tr : Tf) (k : Nat) : List (Int × List Int) := (List.range k).map fun i => (wgtE d.2.2.2 i, applyE tr (lvsE d l n p (nmE d.2.2.2 i) d.2.2.1.toNat))
def folA (d : Dom) (p : Int × Int) (tr : Tf) : Int := firstE [placeE p d.1 d.2.1, transferE tr]
def folV (d : Dom) (l : List Pc) (n : Int) (p : Int × Int) (tr : Tf) : List (Int × List Int) × Int := if fieldA d l n ≠ 0 then ([], fieldA d l n) else if folA d p tr ≠ 0 then ([], folA d p tr) else bif wholeB d l n then (csE d l n p tr d.2.2.2.length, 0) else ([], 7)
theorem whole_t {q : Nat → Option (List Nat)} {m : Nat} (h : (rowsQ q m).2 = true) : (∀ r, r < m → (q r).isSome = true) ∧ (rowsQ q m).1 = (List.range m).map (fun r => (q r).getD []) := by
  cases ha : (List.range m).all (fun r => (q r).isSome) with
  | false => rw [rowsQ, ha] at h; cases h
  | true =>
    have h1 : ∀ r, r < m → (q r).isSome = true := fun r hr => List.all_eq_true.1 ha r (List.mem_range.2 hr)
    exact ⟨h1, by rw [rowsQ_t h1]⟩
theorem pc_width {d : Dom} {p : Pc} (h : pcE d p = 0) : (p.2.2.2.2.length : Int) = d.2.1 := by
  have h1 := (pc_lv h).1
  unfold pcPre at h1
  rw [firstE_zero] at h1
  have h2 := whenE_zero (by decide) (h1 _ (List.mem_cons_of_mem _ (List.mem_cons_of_mem _ (List.mem_cons_of_mem _ (List.mem_cons_of_mem _ List.mem_cons_self)))))
  exact Decidable.not_not.1 h2
theorem fld_ok {d : Dom} {l : List Pc} {n : Int} {x : ByteArray} {t : Nat} (hs : storeE d l = 0) (h : (fldE d l n x t).2 = true) : OkF (fldE d l n x t).1 ∧ ((fldE d l n x t).1.length : Int) = d.1 ∧ (wid (fldE d l n x t).1 : Int) = d.2.1 := by
  obtain ⟨hd, _, hz⟩ := store_dom hs
  obtain ⟨h1, h2, _⟩ := dom_ok hd
  obtain ⟨w1, w2⟩ := whole_t h
  have hlen : (fldE d l n x t).1.length = d.1.toNat := by unfold fldE; rw [w2]; simp
  have hrow : ∀ r ∈ (fldE d l n x t).1, (r.length : Int) = d.2.1 ∧ ∀ y ∈ r, lvlE y = 0 := by
    intro r hr
    unfold fldE at hr
    rw [w2] at hr
    obtain ⟨i, hi, rfl⟩ := List.mem_map.1 hr
    have h3 := w1 i (List.mem_range.1 hi)
    unfold hasQ at h3 ⊢
    cases hg : mget (runM l n l.length) (x, (t : Int), (i : Int)) with
    | none => rw [hg] at h3; cases h3
    | some p =>
      obtain ⟨j, j1, rfl, _⟩ := runM_some _ hg
      have h4 := piece_zero (hz j j1)
      exact ⟨pc_width h4, (pc_lv h4).2⟩
  have hw : wid (fldE d l n x t).1 = d.2.1.toNat := by
    have hp : 0 < (fldE d l n x t).1.length := by omega
    rw [← wid_eq hp]
    have := (hrow _ (List.getElem_mem hp)).1
    omega
  exact ⟨⟨by omega, by omega, by omega, by omega, fun r hr => by have := (hrow r hr).1; omega, fun r hr => (hrow r hr).2⟩, by omega, by omega⟩
theorem sx0 : sxE 0 = 0 := by decide +kernel
theorem sx_all {F : List (List Nat)} (h : OkF F) (r c : Nat) : -1024 ≤ sxF F r c ∧ sxF F r c ≤ 1024 := by
  by_cases hr : r < F.length
  · by_cases hc : c < F[r].length
    · rw [← sxF_get hr hc]; exact sx_bound h hr hc
    · have e : sxF F r c = 0 := by
        unfold sxF
        rw [show F.getD r [] = F[r] by simp [hr], show F[r].getD c 0 = 0 by simp [List.getElem?_eq_none (by omega : F[r].length ≤ c)]]; exact sx0
      rw [e]; decide
  · have e : sxF F r c = 0 := by
      unfold sxF
      rw [show F.getD r [] = [] by simp [List.getElem?_eq_none (by omega : F.length ≤ r)]]; exact sx0
    rw [e]; decide
theorem atE_bound {F : List (List Nat)} {p : Int × Int} (h : OkF F) : -16384 ≤ atE F p ∧ atE F p ≤ 16384 := by
  unfold atE
  simp only
  have h1 := sx_all h (p.1 / 4).toNat (p.2 / 4).toNat
  have h2 := sx_all h (p.1 / 4).toNat (min ((p.2 / 4).toNat + 1) ((F.getD 0 []).length - 1))
  have h3 := sx_all h (min ((p.1 / 4).toNat + 1) (F.length - 1)) (p.2 / 4).toNat
  have h4 := sx_all h (min ((p.1 / 4).toNat + 1) (F.length - 1)) (min ((p.2 / 4).toNat + 1) ((F.getD 0 []).length - 1))
  generalize sxF F (p.1 / 4).toNat (p.2 / 4).toNat = a at *
  generalize sxF F (p.1 / 4).toNat (min ((p.2 / 4).toNat + 1) ((F.getD 0 []).length - 1)) = b at *
  generalize sxF F (min ((p.1 / 4).toNat + 1) (F.length - 1)) (p.2 / 4).toNat = c at *
  generalize sxF F (min ((p.1 / 4).toNat + 1) (F.length - 1)) (min ((p.2 / 4).toNat + 1) ((F.getD 0 []).length - 1)) = e at *
  have hy : p.1 % 4 = 0 ∨ p.1 % 4 = 1 ∨ p.1 % 4 = 2 ∨ p.1 % 4 = 3 := by omega
  have hx : p.2 % 4 = 0 ∨ p.2 % 4 = 1 ∨ p.2 % 4 = 2 ∨ p.2 % 4 = 3 := by omega
  rcases hy with hy | hy | hy | hy <;> rcases hx with hx | hx | hx | hx <;> rw [hy, hx] <;> omega
theorem lvs_ok {d : Dom} {l : List Pc} {n : Int} {p : Int × Int} {x : ByteArray} {k : Nat} (hs : storeE d l = 0) (hk : k ≤ 96) (hw : ∀ t, t < k → (fldE d l n x t).2 = true) : OkL (lvsE d l n p x k) := by
  refine ⟨fun v hv => ?_, by unfold lvsE; simp; exact hk⟩
  obtain ⟨t, ht, rfl⟩ := List.mem_map.1 hv
  have h1 := atE_bound (p := p) (fld_ok hs (hw t (List.mem_range.1 ht))).1
  rw [Int.fdiv_eq_ediv_of_nonneg _ (by decide)]
  omega
theorem folA_ok {d : Dom} {p : Int × Int} {tr : Tf} (h : folA d p tr = 0) : placeE p d.1 d.2.1 = 0 ∧ transferE tr = 0 := by
  unfold folA at h
  rw [firstE_zero] at h
  exact ⟨h _ (by simp), h _ (by simp)⟩
theorem sFollow_ok {d : Int × Int × Int × (List (ByteArray × Int))} {l : List (Int × ByteArray × Int × Int × (List Nat))} {n : Int} {p : Int × Int} {tr : (List Int) × Int × Int} (hl : l.length < 100000) (hv : ∀ p ∈ l, p.2.2.2.2.length < 100000) (ht : tr.1.length < 100000) : VF Tryz.prog OA 68 [.v y106 d, .v y108 l, I n, .v y121 p, .v y29 tr] (.tup [.v y64 ((folV d l n p tr).1), I ((folV d l n p tr).2)]) := by
  refine VF.enter Tryz.func68 rfl (fun _ _ => rfl) rfl ?_
  show VC _ _ _ _ _ [(0, .v y106 d), (1, .v y108 l), (2, I n), (3, .v y121 p), (4, .v y29 tr)] [] _
  refine VC.seq ?_
  refine VC.text ?_
  refine VO.new (.box) ?_
  refine VO.new (.box) ?_
  refine VO.new (.box) ?_
  refine VO.c (.assign rfl) ?_
  refine VO.c (.assign rfl) ?_
  refine VO.go ?_
  refine VC.seq ?_
  refine VC.seq ?_
  refine VC.text ?_
  refine VO.r (.ld vt106) ?_
  refine VO.c (.move rfl) ?_
  refine VO.call rfl rfl (VF.call (sStore_ok hl hv)) ?_
  refine VO.c (.move rfl) ?_
  refine VO.call rfl rfl (VF.call (sTime_ok )) ?_
  refine VO.new (.lit [storeE d l, rangeE n 0 100000] el179) ?_
  refine VO.call rfl rfl (VF.call (sFirst_ok (by first | assumption | omega | simp))) ?_
  refine VO.c (.assign rfl) ?_
  refine VO.go ?_
  refine VC.seq ?_
  refine VC.text ?_
  refine VO.c (.move rfl) ?_
  refine VO.c (.neq) ?_
  refine VO.go ?_
  refine VC.condD rfl (fun c2 => ?_) (fun c2 => ?_)
  · have c2' : fieldA d l n ≠ 0 := c2
    refine VC.seq ?_
    refine VC.text ?_
    refine VO.c (.move rfl) ?_
    refine VO.c (.assign rfl) ?_
    refine VO.c (.assign rfl) ?_
    refine VO.go ?_
    refine VC.ret ?_
    exact VEnd.two rfl (evC .nil) evT (pvE (by rw [folV, if_pos c2'])) (pvI (by rw [folV, if_pos c2'] <;> rfl))
  · have c2' : ¬ fieldA d l n ≠ 0 := c2
    have hs := (fieldA_ok (by simpa using c2')).1
    have hd := (store_dom hs).1
    have hdd := dom_ok hd
    refine VC.skip ?_
    show VC _ _ _ _ _ _ _ _
    refine VC.seq ?_
    refine VC.seq ?_
    refine VC.drawn ?_
    refine VD.r [] (.ld vt121) (.inl rfl) ?_
    refine VD.c (.fa (.l .o)) ?_
    refine VD.r [] (.ld vt3) (.inl rfl) ?_
    refine VD.c (.fa (.r (.l .o))) ?_
    refine VD.r [] (.ld vt3) (.inl rfl) ?_
    refine VD.call rfl rfl (VF.call (sPlace_ok (by omega) (by omega))) ?_
    refine VD.nw [] ?_
    refine VD.r [] (.ld vt29) (.inl rfl) ?_
    refine VD.call rfl rfl (VF.call (sCheckTransfer_ok ht)) ?_
    refine VD.new (.lit [placeE p d.1 d.2.1, transferE tr] el179) ?_
    refine VD.callO rfl rfl (VF.call (sFirst_ok (by first | assumption | omega | simp))) ?_
    refine VD.c (.assign rfl) ?_
    refine VD.go ?_
    refine VC.seq ?_
    refine VC.text ?_
    refine VO.c (.move rfl) ?_
    refine VO.c (.neq) ?_
    refine VO.go ?_
    refine VC.condD rfl (fun c5 => ?_) (fun c5 => ?_)
    · have c5' : folA d p tr ≠ 0 := c5
      refine VC.seq ?_
      refine VC.text ?_
      refine VO.c (.move rfl) ?_
      refine VO.c (.assign rfl) ?_
      refine VO.c (.assign rfl) ?_
      refine VO.go ?_
      refine VC.ret ?_
      exact VEnd.two rfl (evC .nil) evT (pvE (by rw [folV, if_neg c2', if_pos c5'])) (pvI (by rw [folV, if_neg c2', if_pos c5'] <;> rfl))
    · have c5' : ¬ folA d p tr ≠ 0 := c5
      have hf := folA_ok (by simpa using c5')
      have hP := placeE_ok hf.1
      have hT := transferE_ok hf.2
      refine VC.skip ?_
      show VC _ _ _ _ _ _ _ _
      refine VC.seq ?_
      refine VC.text ?_
      refine VO.c (.move rfl) ?_
      refine VO.c (.move rfl) ?_
      refine VO.call rfl rfl (VF.call (sRun_ok hl)) ?_
      refine VO.c (.assign rfl) ?_
      refine VO.go ?_
      refine VC.seq ?_
      refine VC.keep [(5, .p y106 d), (8, .p y121 p), (9, .p y29 tr), (14, .v y208 (runM l n l.length))] ⟨rfl, rfl, rfl, rfl, trivial⟩ ?_
      refine VC.text ?_
      refine VO.c (.assign rfl) ?_
      refine VO.go ?_
      refine VC.seq ?_
      refine VC.seq ?_
      refine VC.text ?_
      refine VO.c (.fa (.r (.r (.r .o)))) ?_
      refine VO.r (.ld vt104) ?_
      refine VO.r (.len el104) ?_
      refine VO.c (.move rfl) ?_
      refine VO.go ?_
      refine VC.block ?_
      refine VC.cell0 89 y89 ?_
      refine VC.keep [(5, .p y106 d), (8, .p y121 p), (9, .p y29 tr), (14, .v y208 (runM l n l.length)), (15, .raw (.slice none 0 0)), (49, .v y104 d.2.2.2), (50, I ((d.2.2.2.length : Nat) : Int)), (51, I ((0 : Nat) : Int))] ⟨rfl, rfl, rfl, rfl, rfl, rfl, rfl, rfl, trivial⟩ ?_
      refine VC.loop (I := fun kk ff ss => ∃ (i : Nat) (out : Value), kk = d.2.2.2.length - i ∧ ff = [(5, .p y106 d), (8, .p y121 p), (9, .p y29 tr), (14, .v y208 (runM l n l.length)), (15, .raw out), (49, .v y104 d.2.2.2), (50, I ((d.2.2.2.length : Nat) : Int)), (51, I ((i : Nat) : Int))] ∧ ss = [(out, .row 89 y89 (csE d l n p tr i))] ∧ (i ≤ d.2.2.2.length) ∧ (∀ j, j < i → ∀ k, k < d.2.2.1.toNat → (fldE d l n (nmE d.2.2.2 j) k).2 = true)) ?_ _ _ _ ⟨0, (.slice none 0 0), rfl, rfl, rfl, Nat.zero_le _, (by intro j hj; omega)⟩
      rintro kk ff ss ⟨i, out, hk0, rfl, rfl, hi, hw⟩
      refine VC.seq ?_
      refine VC.text ?_
      refine VO.c (.lss) ?_
      refine VO.go ?_
      refine VC.seq ?_
      refine VC.condD rfl (fun c10 => ?_) (fun c10 => ?_)
      · have hi' : i < d.2.2.2.length := by omega
        have hn := nmE_eq hi'
        refine VC.skip ?_
        show VC _ _ _ _ _ _ _ _
        refine VC.seq ?_
        refine VC.block ?_
        refine VC.seq ?_
        refine VC.text ?_
        refine VO.c (.ix (j := i) rfl rfl el104 (by omega)) ?_
        refine VO.r (.ld vt210) ?_
        refine VO.cell (.alloc zt210) ?_
        intro ww1
        refine VO.setV (cs' := [St ((d.2.2.2[i]).1), I ((d.2.2.2[i]).2)]) vt210 .v ?_
        refine VO.shut [(17, .p y210 (d.2.2.2[i]))] (.cons rfl (.var m0 .refl) .nil) ?_
        refine VO.go ?_
        refine VC.seq ?_
        refine VC.text ?_
        refine VO.c (.assign rfl) ?_
        refine VO.go ?_
        refine VC.seq ?_
        refine VC.seq ?_
        refine VC.text ?_
        refine VO.c (.fa (.r (.r (.l .o)))) ?_
        refine VO.r (.ld vt3) ?_
        refine VO.c (.move rfl) ?_
        refine VO.go ?_
        refine VC.block ?_
        refine VC.cell0 3 (.int .i64) ?_
        refine VC.keep [(5, .p y106 d), (8, .p y121 p), (9, .p y29 tr), (14, .v y208 (runM l n l.length)), (15, .raw out), (17, .p y210 (d.2.2.2[i])), (18, .raw (.slice none 0 0)), (49, .v y104 d.2.2.2), (50, I ((d.2.2.2.length : Nat) : Int)), (51, I ((i : Nat) : Int)), (56, I d.2.2.1), (57, I ((0 : Nat) : Int))] ⟨rfl, rfl, rfl, rfl, rfl, rfl, rfl, rfl, rfl, rfl, rfl, rfl, trivial⟩ ?_
        refine VC.loop (I := fun kk ff ss => ∃ (t : Nat) (lv : Value), kk = d.2.2.1.toNat - t ∧ ff = [(5, .p y106 d), (8, .p y121 p), (9, .p y29 tr), (14, .v y208 (runM l n l.length)), (15, .raw out), (17, .p y210 (d.2.2.2[i])), (18, .raw lv), (49, .v y104 d.2.2.2), (50, I ((d.2.2.2.length : Nat) : Int)), (51, I ((i : Nat) : Int)), (56, I d.2.2.1), (57, I ((t : Nat) : Int))] ∧ ss = [(lv, .row 3 (.int .i64) (lvsE d l n p (nmE d.2.2.2 i) t)), (out, .row 89 y89 (csE d l n p tr i))] ∧ (t ≤ d.2.2.1.toNat) ∧ (∀ k, k < t → (fldE d l n (nmE d.2.2.2 i) k).2 = true)) ?_ _ _ _ ⟨0, (.slice none 0 0), rfl, rfl, rfl, Nat.zero_le _, (by intro k hk; omega)⟩
        rintro kk ff ss ⟨t, lv, hk2, rfl, rfl, htk, hq⟩
        refine VC.seq ?_
        refine VC.text ?_
        refine VO.c (.lss) ?_
        refine VO.go ?_
        refine VC.seq ?_
        refine VC.condD rfl (fun c14 => ?_) (fun c14 => ?_)
        · refine VC.skip ?_
          show VC _ _ _ _ _ _ _ _
          refine VC.seq ?_
          refine VC.block ?_
          refine VC.seq ?_
          refine VC.text ?_
          refine VO.c (.move rfl) ?_
          refine VO.c (.assign rfl) ?_
          refine VO.go ?_
          refine VC.seq ?_
          refine VC.text ?_
          refine VO.r (.ld vt106) ?_
          refine VO.c (.move rfl) ?_
          refine VO.c (.fa (.l .o)) ?_
          refine VO.r (.ld vt9) ?_
          refine VO.c (.move rfl) ?_
          refine VO.call rfl rfl (VF.call (sField2_ok hd (fun k p hk => by obtain ⟨j, h1, rfl, _⟩ := runM_some _ hk; exact hv _ (pcA_mem h1)))) ?_
          refine VO.c (.move rfl) ?_
          refine VO.c (.extract) ?_
          refine VO.c (.extract) ?_
          refine VO.c (.assign rfl) ?_
          refine VO.c (.assign rfl) ?_
          refine VO.go ?_
          refine VC.seq ?_
          refine VC.seq ?_
          refine VC.text ?_
          refine VO.c (.move rfl) ?_
          refine VO.c (.not) ?_
          refine VO.go ?_
          refine VC.condB rfl (fun c17 => ?_) (fun c17 => ?_)
          · try simp only [Bool.and_eq_true, Bool.or_eq_true, Bool.and_eq_false_iff, Bool.or_eq_false_iff, Bool.not_eq_true', Bool.not_eq_false', decide_eq_true_eq, decide_eq_false_iff_not] at c17
            have c17' : (fldE d l n (nmE d.2.2.2 i) t).2 = false := by rw [← hn]; exact c17
            have hwf : wholeB d l n = false := decide_eq_false fun hh => by rw [hh i hi' t (by omega)] at c17'; cases c17'
            refine VC.seq ?_
            refine VC.text ?_
            refine VO.c (.assign rfl) ?_
            refine VO.c (.assign rfl) ?_
            refine VO.go ?_
            refine VC.ret ?_
            exact VEnd.two rfl (evC .nil) evT (pvE (by rw [folV, if_neg c2', if_neg c5', hwf]; rfl)) (pvI (by rw [folV, if_neg c2', if_neg c5', hwf] <;> rfl))
          · try simp only [Bool.and_eq_true, Bool.or_eq_true, Bool.and_eq_false_iff, Bool.or_eq_false_iff, Bool.not_eq_true', Bool.not_eq_false', decide_eq_true_eq, decide_eq_false_iff_not] at c17
            have hfo := fld_ok hs (x := d.2.2.2[i].1) (t := t) (n := n) c17
            unfold fldE at hfo
            refine VC.skip ?_
            show VC _ _ _ _ _ _ _ _
            refine VC.text ?_
            refine VO.c (.move rfl) ?_
            refine VO.c (.move rfl) ?_
            refine VO.r (.ld vt121) ?_
            refine VO.call rfl rfl (VF.call (sAt_ok hfo.1 (by rw [hfo.2.1, hfo.2.2]; exact hP))) ?_
            refine VO.c (.shrU rfl rfl (by decide)) ?_
            refine VO.new (.lit [((atE ((rowsQ (hasQ (runM l n l.length) ((d.2.2.2[i]).1) ((t : Nat) : Int)) d.1.toNat).1) p).fdiv (2 ^ ((4 : Int)).toNat))] el22) ?_
            refine VO.app rfl rfl el22 el22 (by simp [lvsE]; omega) ?_
            intro ww2
            refine VO.c (.assign rfl) ?_
            refine VO.nil ?_
            show VC _ _ _ _ _ _ _ _
            refine VC.text ?_
            refine VO.c (.add rfl rfl (by omega)) ?_
            refine VO.c (.move rfl) ?_
            refine VO.nil ?_
            refine ⟨_, [(5, .p y106 d), (8, .p y121 p), (9, .p y29 tr), (14, .v y208 (runM l n l.length)), (15, .raw out), (17, .p y210 (d.2.2.2[i])), (18, .raw ww2), (49, .v y104 d.2.2.2), (50, I ((d.2.2.2.length : Nat) : Int)), (51, I ((i : Nat) : Int)), (56, I d.2.2.1), (57, I (((t + 1) : Nat) : Int))], ?_, ⟨rfl, rfl, rfl, rfl, rfl, rfl, rfl, rfl, rfl, rfl, rfl, rfl, trivial⟩, (t + 1), ww2, rfl, rfl, (by rw [lvsE, lvsE, List.range_succ, List.map_append, ← hn] <;> rfl), (by omega), (by intro k hk; rcases Nat.lt_succ_iff_lt_or_eq.1 hk with h | h; exact hq k h; subst h; rw [← hn]; exact c17)⟩
            omega
        · refine VC.exit ?_
          show VC _ _ _ _ _ _ _ _
          refine VC.shutL [(lv, .row 3 (.int .i64) (lvsE d l n p (nmE d.2.2.2 i) t))] [(18, .v y22 (lvsE d l n p (nmE d.2.2.2 i) t))] rfl (.cons rfl (.row m0) .nil) ?_
          refine VC.drawn ?_
          have hL := lvs_ok (p := p) hs (by omega) (fun k hk => hq k hk)
          refine VD.c (.move rfl) ?_
          refine VD.c (.fa (.r .o)) ?_
          refine VD.r [] (.ld vt3) (.inl rfl) ?_
          refine VD.r [] (.ld vt29) (.inl rfl) ?_
          refine VD.c (.move rfl) ?_
          refine VD.call rfl rfl (VF.call (sApplyT_ok hT hL)) ?_
          refine VD.nw [84] ?_
          refine VD.c (.build ((d.2.2.2[i]).2, applyE tr (lvsE d l n p (nmE d.2.2.2 i) t)) bt89) ?_
          refine VD.new (.lit [((d.2.2.2[i]).2, applyE tr (lvsE d l n p (nmE d.2.2.2 i) t))] el64) ?_
          refine VD.mk (MakeV.app el64 el64 rfl rfl (by simp [csE]; omega)) ?_
          rintro _ _ tl3 ⟨ww3, rfl, rfl⟩
          refine VD.c (.assign rfl) ?_
          refine VD.nil ?_
          show VC _ _ _ _ _ _ _ _
          refine VC.text ?_
          refine VO.c (.add rfl rfl (by omega)) ?_
          refine VO.c (.move rfl) ?_
          refine VO.nil ?_
          refine ⟨_, [(5, .p y106 d), (8, .p y121 p), (9, .p y29 tr), (14, .v y208 (runM l n l.length)), (15, .raw ww3), (49, .v y104 d.2.2.2), (50, I ((d.2.2.2.length : Nat) : Int)), (51, I (((i + 1) : Nat) : Int))], ?_, ⟨rfl, rfl, rfl, rfl, rfl, rfl, rfl, rfl, trivial⟩, (i + 1), ww3, rfl, rfl, (by rw [csE, csE, List.range_succ, List.map_append, wgtE_eq hi', show t = d.2.2.1.toNat by omega] <;> rfl), (by omega), (by intro j hj; rcases Nat.lt_succ_iff_lt_or_eq.1 hj with h | h; exact hw j h; subst h; exact fun k hk => hq k (by omega))⟩
          omega
      · refine VC.exit ?_
        show VC _ _ _ _ _ _ _ _
        refine VC.seq ?_
        refine VC.text ?_
        have hwt : wholeB d l n = true := decide_eq_true (fun j hj => hw j (by omega))
        refine VO.c (.move rfl) ?_
        refine VO.c (.assign rfl) ?_
        refine VO.c (.assign rfl) ?_
        refine VO.go ?_
        refine VC.ret ?_
        exact VEnd.two rfl (evC (.row m0)) evT (pvE (by rw [folV, if_neg c2', if_neg c5', hwt, show i = d.2.2.2.length by omega]; rfl)) (pvI (by rw [folV, if_neg c2', if_neg c5', hwt] <;> rfl))
end Go.Proofs
namespace Go.Proofs
open Go.Fs Ieee
set_option linter.unusedVariables false
theorem vt24AL : ValT Tryz.prog 24 y24 := valT_of (by kernel_rfl)
theorem bt72 : BldT Tryz.prog 72 y72 [(0, 1), (1, 1)] := bldT_of zt72 rfl (by kernel_rfl)
/-! ## The reference's courses -/
theorem mem_preM {d : Dom} {k : Nat} {s : Sl} : s ∈ preM d k ↔ ∃ m, m < k ∧ ∃ t, t < d.2.2.1.toNat ∧ ∃ r, r < d.1.toNat ∧ slM d m t r = s := by
  unfold preM preT
  simp only [List.mem_flatMap, List.mem_map, List.mem_range]
theorem miss_nil {d : Dom} {l : List Pc} {n : Int} (hs : storeE d l = 0) : missL d l n = [] ↔ ∀ i, i < d.2.2.2.length → ∀ t, t < d.2.2.1.toNat → (fldE d l n (nmE d.2.2.2 i) t).2 = true := by
  have hz := (store_dom hs).2.2
  unfold missL
  rw [List.filter_eq_nil_iff]
  have hk : ∀ m t r : Nat, (hasQ (runM l n l.length) (nmE d.2.2.2 m) (t : Int) r).isSome = true ↔ ¬ lost l n (slM d m t r) = true := fun m t r => by
    unfold hasQ lost
    rw [fnd_run hz, Option.isSome_map, decide_eq_true_iff]
    by_cases h : fndE l n (nmE d.2.2.2 m, (t : Int), (r : Int)) < 0
    · rw [if_pos h]; exact ⟨fun hh => (by cases hh), fun hh => absurd h hh⟩
    · rw [if_neg h]; exact ⟨fun _ => h, fun _ => rfl⟩
  constructor
  · intro h i hi t ht
    unfold fldE
    rw [rowsQ_t fun r hr => (hk i t r).2 (h _ (mem_preM.2 ⟨i, hi, t, ht, r, hr, rfl⟩))]
  · intro h s hs2
    obtain ⟨m, hm, t, ht, r, hr, rfl⟩ := mem_preM.1 hs2
    exact (hk m t r).1 ((whole_t (h m hm t ht)).1 r hr)
theorem whole_miss {d : Dom} {l : List Pc} {n : Int} (hs : storeE d l = 0) : wholeB d l n = decide (missL d l n = []) := decide_eq_decide.2 (miss_nil hs).symm
def plusF (F : List (List Nat)) : List (List Nat) := F.map fun r => r.map plusZ
theorem fnd_fld {d : Dom} {l : List Pc} {n : Int} (hs : storeE d l = 0) (x : ByteArray) (t : Nat) : rowsQ (fndQ l n x t) d.1.toNat = (plusF (fldE d l n x t).1, (fldE d l n x t).2) :=
  (congrArg (fun q => rowsQ q d.1.toNat) (funext fun r => fnd_has (store_dom hs).2.2 n x t r)).trans rowsQ_map
theorem plusF_ok {F : List (List Nat)} (h : OkF F) : OkF (plusF F) ∧ (plusF F).length = F.length ∧ wid (plusF F) = wid F := by
  have hw : wid (plusF F) = wid F := by
    unfold wid plusF
    cases F with
    | nil => rfl
    | cons a b => simp
  have hl : (plusF F).length = F.length := by simp [plusF]
  refine ⟨⟨by rw [hl]; exact h.pos, by rw [hl]; exact h.top, by rw [hw]; exact h.wpos, by rw [hw]; exact h.wtop, fun r hr => ?_, fun r hr y hy => ?_⟩, hl, hw⟩
  · obtain ⟨q, hq, rfl⟩ := List.mem_map.1 hr
    rw [hw, List.length_map]; exact h.row q hq
  · obtain ⟨q, hq, rfl⟩ := List.mem_map.1 hr
    obtain ⟨z, hz, rfl⟩ := List.mem_map.1 hy
    exact (plusZ_ok (h.lv q hq z hz)).2.1
theorem plusZ_sx {x : Nat} (h : lvlE x = 0) : sxE (plusZ x) = sxE x := by
  have h1 := lvl_ok h
  have h2 := plusZ_ok h
  exact (lvl_of (h2.2.2.trans h1.1) h1.2.1 h1.2.2).2
theorem plusF_sx {F : List (List Nat)} (h : OkF F) (r c : Nat) : sxF (plusF F) r c = sxF F r c := by
  unfold sxF plusF
  by_cases hr : r < F.length
  · have e1 : (F.map fun r => r.map plusZ).getD r [] = F[r].map plusZ := by simp [hr]
    have e2 : F.getD r [] = F[r] := by simp [hr]
    rw [e1, e2]
    by_cases hc : c < F[r].length
    · have e3 : (F[r].map plusZ).getD c 0 = plusZ F[r][c] := by simp [hc]
      have e4 : F[r].getD c 0 = F[r][c] := by simp [hc]
      rw [e3, e4]
      exact plusZ_sx (h.lv _ (List.getElem_mem hr) _ (List.getElem_mem hc))
    · have e3 : (F[r].map plusZ).getD c 0 = 0 := by simp [List.getElem?_eq_none (by omega : F[r].length ≤ c)]
      have e4 : F[r].getD c 0 = 0 := by simp [List.getElem?_eq_none (by omega : F[r].length ≤ c)]
      rw [e3, e4]
  · have e1 : (F.map fun r => r.map plusZ).getD r [] = [] := by simp [List.getElem?_eq_none (by omega : F.length ≤ r)]
    have e2 : F.getD r [] = [] := by simp [List.getElem?_eq_none (by omega : F.length ≤ r)]
    rw [e1, e2]
theorem plusF_at {F : List (List Nat)} (h : OkF F) (p : Int × Int) : atE (plusF F) p = atE F p := by
  obtain ⟨_, h2, h3⟩ := plusF_ok h
  have h4 : ((plusF F).getD 0 []).length = (F.getD 0 []).length := by
    have e : ∀ G : List (List Nat), (G.getD 0 []).length = wid G := fun G => by cases G <;> rfl
    rw [e, e]; exact h3
  unfold atE
  simp only [plusF_sx h, h2, h4]
def folR (d : Dom) (l : List Pc) (n : Int) (p : Int × Int) (tr : Tf) : List (Int × List Int) × Bool := bif decide (missL d l n = []) then (csE d l n p tr d.2.2.2.length, true) else ([], false)
theorem rFollow_ok {d : Int × Int × Int × (List (ByteArray × Int))} {l : List (Int × ByteArray × Int × Int × (List Nat))} {n : Int} {p : Int × Int} {tr : (List Int) × Int × Int} (hs : storeE d l = 0) (hl : l.length < 100000) (hv : ∀ p ∈ l, p.2.2.2.2.length < 100000 ∧ ∀ x ∈ p.2.2.2.2, lvlE x = 0) (hp : placeE p d.1 d.2.1 = 0) (ht : transferE tr = 0) : VF Tryz.prog OA 69 [.v y95 d, .v y96 l, I n, .v y117 p, .v y24 tr] (.tup [.v y54 ((folR d l n p tr).1), B ((folR d l n p tr).2)]) := by
  refine VF.enter Tryz.func69 rfl (fun _ _ => rfl) rfl ?_
  show VC _ _ _ _ _ [(0, .v y95 d), (1, .v y96 l), (2, I n), (3, .v y117 p), (4, .v y24 tr)] [] _
  refine VC.seq ?_
  refine VC.text ?_
  have hd := (store_dom hs).1
  have hdd := dom_ok hd
  have hP := placeE_ok hp
  have hT := transferE_ok ht
  refine VO.new (.box) ?_
  refine VO.new (.box) ?_
  refine VO.new (.box) ?_
  refine VO.c (.assign rfl) ?_
  refine VO.c (.assign rfl) ?_
  refine VO.go ?_
  refine VC.seq ?_
  refine VC.seq ?_
  refine VC.text ?_
  refine VO.r (.ld vt95) ?_
  refine VO.c (.move rfl) ?_
  refine VO.c (.move rfl) ?_
  refine VO.call rfl rfl (VF.call (rMiss_ok hd hl)) ?_
  refine VO.c (.move rfl) ?_
  refine VO.c (.extract) ?_
  refine VO.c (.extract) ?_
  refine VO.cell (.alloc zt145) ?_
  intro ww1
  refine VO.c (.assign rfl) ?_
  refine VO.setV (cs' := [St (((missL d l n).headD z3).1), I (((missL d l n).headD z3).2.1), I (((missL d l n).headD z3).2.2)]) vt145 .v ?_
  refine VO.shut [(13, .p y145 ((missL d l n).headD z3))] (.cons rfl (.var m0 .refl) .nil) ?_
  refine VO.go ?_
  refine VC.seq ?_
  refine VC.text ?_
  refine VO.c (.move rfl) ?_
  refine VO.c (.gtr) ?_
  refine VO.go ?_
  refine VC.condD rfl (fun c2 => ?_) (fun c2 => ?_)
  · have hm : ¬ missL d l n = [] := fun e => by rw [e] at c2; exact absurd c2 (by decide)
    refine VC.seq ?_
    refine VC.text ?_
    refine VO.c (.assign rfl) ?_
    refine VO.c (.assign rfl) ?_
    refine VO.go ?_
    refine VC.ret ?_
    exact VEnd.two rfl (evC .nil) evT (pvE (by rw [folR, decide_eq_false hm]; rfl)) (pvE (by rw [folR, decide_eq_false hm] <;> rfl))
  · have hm : missL d l n = [] := List.eq_nil_of_length_eq_zero (by omega)
    have hw := (miss_nil hs).1 hm
    refine VC.skip ?_
    show VC _ _ _ _ _ _ _ _
    refine VC.seq ?_
    refine VC.text ?_
    refine VO.c (.assign rfl) ?_
    refine VO.go ?_
    refine VC.seq ?_
    refine VC.seq ?_
    refine VC.text ?_
    refine VO.c (.assign rfl) ?_
    refine VO.go ?_
    refine VC.block ?_
    refine VC.cell0 72 y72 ?_
    refine VC.keep [(1, .v y96 l), (2, I n), (5, .p y95 d), (8, .p y117 p), (9, .p y24 tr), (14, .raw (.slice none 0 0)), (15, I ((0 : Nat) : Int))] ⟨rfl, rfl, rfl, rfl, rfl, rfl, rfl, trivial⟩ ?_
    refine VC.loop (I := fun kk ff ss => ∃ (i : Nat) (out : Value), kk = d.2.2.2.length - i ∧ ff = [(1, .v y96 l), (2, I n), (5, .p y95 d), (8, .p y117 p), (9, .p y24 tr), (14, .raw out), (15, I ((i : Nat) : Int))] ∧ ss = [(out, .row 72 y72 (csE d l n p tr i))] ∧ (i ≤ d.2.2.2.length)) ?_ _ _ _ ⟨0, (.slice none 0 0), rfl, rfl, rfl, Nat.zero_le _⟩
    rintro kk ff ss ⟨i, out, hk0, rfl, rfl, hi⟩
    refine VC.seq ?_
    refine VC.seq ?_
    refine VC.text ?_
    refine VO.c (.move rfl) ?_
    refine VO.c (.fa (.r (.r (.r .o)))) ?_
    refine VO.r (.ld vt93) ?_
    refine VO.r (.len el93) ?_
    refine VO.c (.lss) ?_
    refine VO.go ?_
    refine VC.condD rfl (fun c6 => ?_) (fun c6 => ?_)
    · have hi' : i < d.2.2.2.length := by omega
      have hn := nmE_eq hi'
      refine VC.skip ?_
      show VC _ _ _ _ _ _ _ _
      refine VC.seq ?_
      refine VC.block ?_
      refine VC.seq ?_
      refine VC.text ?_
      refine VO.c (.assign rfl) ?_
      refine VO.go ?_
      refine VC.seq ?_
      refine VC.seq ?_
      refine VC.text ?_
      refine VO.c (.assign rfl) ?_
      refine VO.go ?_
      refine VC.block ?_
      refine VC.cell0 3 (.int .i64) ?_
      refine VC.keep [(1, .v y96 l), (2, I n), (5, .p y95 d), (8, .p y117 p), (9, .p y24 tr), (14, .raw out), (15, I ((i : Nat) : Int)), (16, .raw (.slice none 0 0)), (17, I ((0 : Nat) : Int))] ⟨rfl, rfl, rfl, rfl, rfl, rfl, rfl, rfl, rfl, trivial⟩ ?_
      refine VC.loop (I := fun kk ff ss => ∃ (t : Nat) (lv : Value), kk = d.2.2.1.toNat - t ∧ ff = [(1, .v y96 l), (2, I n), (5, .p y95 d), (8, .p y117 p), (9, .p y24 tr), (14, .raw out), (15, I ((i : Nat) : Int)), (16, .raw lv), (17, I ((t : Nat) : Int))] ∧ ss = [(lv, .row 3 (.int .i64) (lvsE d l n p (nmE d.2.2.2 i) t)), (out, .row 72 y72 (csE d l n p tr i))] ∧ (t ≤ d.2.2.1.toNat)) ?_ _ _ _ ⟨0, (.slice none 0 0), rfl, rfl, rfl, Nat.zero_le _⟩
      rintro kk ff ss ⟨t, lv, hk2, rfl, rfl, htk⟩
      refine VC.seq ?_
      refine VC.seq ?_
      refine VC.text ?_
      refine VO.c (.move rfl) ?_
      refine VO.c (.fa (.r (.r (.l .o)))) ?_
      refine VO.r (.ld vt3) ?_
      refine VO.c (.lss) ?_
      refine VO.go ?_
      refine VC.condD rfl (fun c10 => ?_) (fun c10 => ?_)
      · have hfo := fld_ok hs (hw i hi' t (by omega))
        rw [← hn] at hfo
        have hpo := plusF_ok hfo.1
        have hft := fnd_fld (n := n) hs d.2.2.2[i].1 t
        have hpp : (0 ≤ p.1 ∧ p.1 ≤ 4 * (((plusF (fldE d l n d.2.2.2[i].1 t).1).length : Int) - 1)) ∧ (0 ≤ p.2 ∧ p.2 ≤ 4 * ((wid (plusF (fldE d l n d.2.2.2[i].1 t).1) : Int) - 1)) := by rw [hpo.2.1, hpo.2.2, hfo.2.1, hfo.2.2]; exact hP
        have hab := atE_bound (p := p) hfo.1
        have hat := plusF_at hfo.1 p
        refine VC.skip ?_
        show VC _ _ _ _ _ _ _ _
        refine VC.seq ?_
        refine VC.block ?_
        refine VC.seq ?_
        refine VC.drawn ?_
        refine VD.r [] (.ld vt95) (.inl rfl) ?_
        refine VD.c (.move rfl) ?_
        refine VD.c (.move rfl) ?_
        refine VD.c (.fa (.r (.r (.r .o)))) ?_
        refine VD.r [] (.ld vt93) (.inl rfl) ?_
        refine VD.c (.move rfl) ?_
        refine VD.nw [] ?_
        refine VD.c (.ix (j := i) rfl rfl el93 (by omega)) ?_
        refine VD.c (.fa (.l .o)) ?_
        refine VD.r [] (.ld vt9) (.inl rfl) ?_
        refine VD.c (.move rfl) ?_
        refine VD.call rfl rfl (VF.call (rFieldX_ok hd hl hv)) ?_
        refine VD.c (.move rfl) ?_
        refine VD.c (.extract) ?_
        refine VD.nw [54, 42, 53] ?_
        refine VD.c (.extract) ?_
        refine VD.c (.assign rfl) ?_
        refine VD.c (.assign rfl) ?_
        refine VD.go ?_
        refine VC.text ?_
        refine VO.c (.move rfl) ?_
        refine VO.c (.move rfl) ?_
        refine VO.r (.ld vt117) ?_
        refine VO.call rfl rfl (VF.call (rAt_ok (by rw [hft]; exact hpo.1) (by rw [hft]; exact hpp))) ?_
        refine VO.call rfl rfl (VF.call (rFloor_ok (by decide) (by rw [hft]; rw [hat]; omega))) ?_
        refine VO.new (.lit [(atE ((rowsQ (fndQ l n ((d.2.2.2[i]).1) ((t : Nat) : Int)) d.1.toNat).1) p).fdiv (16 : Int)] el22) ?_
        refine VO.app rfl rfl el22 el22 (by simp [lvsE]; omega) ?_
        intro ww2
        refine VO.c (.assign rfl) ?_
        refine VO.nil ?_
        show VC _ _ _ _ _ _ _ _
        refine VC.text ?_
        refine VO.c (.move rfl) ?_
        refine VO.c (.add rfl rfl (by omega)) ?_
        refine VO.c (.assign rfl) ?_
        refine VO.nil ?_
        refine ⟨_, [(1, .v y96 l), (2, I n), (5, .p y95 d), (8, .p y117 p), (9, .p y24 tr), (14, .raw out), (15, I ((i : Nat) : Int)), (16, .raw ww2), (17, I (((t + 1) : Nat) : Int))], ?_, ⟨rfl, rfl, rfl, rfl, rfl, rfl, rfl, rfl, rfl, trivial⟩, (t + 1), ww2, rfl, rfl, (by rw [lvsE, lvsE, List.range_succ, List.map_append, hft, hat, hn] <;> rfl), (by omega)⟩
        omega
      · refine VC.exit ?_
        show VC _ _ _ _ _ _ _ _
        refine VC.shutL [(lv, .row 3 (.int .i64) (lvsE d l n p (nmE d.2.2.2 i) t))] [(16, .v y22 (lvsE d l n p (nmE d.2.2.2 i) t))] rfl (.cons rfl (.row m0) .nil) ?_
        refine VC.drawn ?_
        have hL := lvs_ok (p := p) (k := t) hs (by omega) (fun k hk => hw i hi' k (by omega))
        refine VD.c (.move rfl) ?_
        refine VD.c (.fa (.r (.r (.r .o)))) ?_
        refine VD.r [] (.ld vt93) (.inl rfl) ?_
        refine VD.c (.move rfl) ?_
        refine VD.c (.ix (j := i) rfl rfl el93 (by omega)) ?_
        refine VD.c (.fa (.r .o)) ?_
        refine VD.nw [] ?_
        refine VD.r [] (.ld vt3) (.inl rfl) ?_
        refine VD.r [] (.ld vt24AL) (.inl rfl) ?_
        refine VD.c (.move rfl) ?_
        refine VD.call rfl rfl (VF.call (rApply_ok hT hL)) ?_
        refine VD.c (.build ((d.2.2.2[i]).2, applyE tr (lvsE d l n p (nmE d.2.2.2 i) t)) bt72) ?_
        refine VD.new (.lit [((d.2.2.2[i]).2, applyE tr (lvsE d l n p (nmE d.2.2.2 i) t))] el54) ?_
        refine VD.mk (MakeV.app el54 el54 rfl rfl (by simp [csE]; omega)) ?_
        rintro _ _ tl3 ⟨ww3, rfl, rfl⟩
        refine VD.nw [75, 74, 73, 72] ?_
        refine VD.c (.assign rfl) ?_
        refine VD.nil ?_
        show VC _ _ _ _ _ _ _ _
        refine VC.text ?_
        refine VO.c (.move rfl) ?_
        refine VO.c (.add rfl rfl (by omega)) ?_
        refine VO.c (.assign rfl) ?_
        refine VO.nil ?_
        refine ⟨_, [(1, .v y96 l), (2, I n), (5, .p y95 d), (8, .p y117 p), (9, .p y24 tr), (14, .raw ww3), (15, I (((i + 1) : Nat) : Int))], ?_, ⟨rfl, rfl, rfl, rfl, rfl, rfl, rfl, trivial⟩, (i + 1), ww3, rfl, rfl, (by rw [csE, csE, List.range_succ, List.map_append, wgtE_eq hi', show t = d.2.2.1.toNat by omega] <;> rfl), (by omega)⟩
        omega
    · refine VC.exit ?_
      show VC _ _ _ _ _ _ _ _
      refine VC.seq ?_
      refine VC.text ?_
      refine VO.c (.move rfl) ?_
      refine VO.c (.assign rfl) ?_
      refine VO.c (.assign rfl) ?_
      refine VO.go ?_
      refine VC.ret ?_
      exact VEnd.two rfl (evC (.row m0)) evT (pvE (by rw [folR, decide_eq_true hm, show i = d.2.2.2.length by omega]; rfl)) (pvE (by rw [folR, decide_eq_true hm] <;> rfl))
theorem rSameCs_ok {a : List (Int × (List Int))} {b : List (Int × (List Int))} (ha : a.length < 100000) (hr : ∀ r ∈ a, r.2.length < 100000) : VF Tryz.prog OA 70 [.v y54 a, .v y54 b] (B (decide (a = b))) := by
  refine VF.enter Tryz.func70 rfl (fun _ _ => rfl) rfl ?_
  show VC _ _ _ _ _ [(0, .v y54 a), (1, .v y54 b)] [] _
  refine VC.seq ?_
  refine VC.text ?_
  refine VO.c (.assign rfl) ?_
  refine VO.go ?_
  refine VC.seq ?_
  refine VC.seq ?_
  refine VC.text ?_
  refine VO.c (.move rfl) ?_
  refine VO.r (.len el54) ?_
  refine VO.c (.move rfl) ?_
  refine VO.r (.len el54) ?_
  refine VO.c (.neq) ?_
  refine VO.go ?_
  refine VC.condD rfl (fun c1 => ?_) (fun c1 => ?_)
  · have hne : ¬ a.length = b.length := by omega
    refine VC.seq ?_
    refine VC.text ?_
    refine VO.c (.assign rfl) ?_
    refine VO.go ?_
    refine VC.ret ?_
    exact VEnd.one rfl evT (pvE (by exact (decide_eq_false fun e => hne (by rw [e])).symm))
  · have hle : a.length = b.length := by omega
    refine VC.skip ?_
    show VC _ _ _ _ _ _ _ _
    refine VC.seq ?_
    refine VC.seq ?_
    refine VC.text ?_
    refine VO.c (.assign rfl) ?_
    refine VO.go ?_
    refine VC.block ?_
    refine VC.keep [(0, .v y54 a), (1, .v y54 b), (5, I ((0 : Nat) : Int))] ⟨rfl, rfl, rfl, trivial⟩ ?_
    refine VC.loop (I := fun kk ff ss => ∃ (i : Nat), kk = a.length - i ∧ ff = [(0, .v y54 a), (1, .v y54 b), (5, I ((i : Nat) : Int))] ∧ ss = [] ∧ (i ≤ a.length) ∧ (∀ j, j < i → a[j]? = b[j]?)) ?_ _ _ _ ⟨0, rfl, rfl, rfl, Nat.zero_le _, (by intro j hj; omega)⟩
    rintro kk ff ss ⟨i, hk0, rfl, rfl, hi, hq⟩
    refine VC.seq ?_
    refine VC.seq ?_
    refine VC.text ?_
    refine VO.c (.move rfl) ?_
    refine VO.c (.move rfl) ?_
    refine VO.r (.len el54) ?_
    refine VO.c (.lss) ?_
    refine VO.go ?_
    refine VC.condD rfl (fun c4 => ?_) (fun c4 => ?_)
    · have hi' : i < a.length := by omega
      have hb' : i < b.length := by omega
      refine VC.skip ?_
      show VC _ _ _ _ _ _ _ _
      refine VC.seq ?_
      refine VC.block ?_
      refine VC.seq ?_
      refine VC.join [(0, .v y54 a), (1, .v y54 b), (5, I ((i : Nat) : Int)), (41, B (!decide (a[i]? = b[i]?)))] [] ?_ ?_
      · skip
        refine VC.drawn ?_
        refine VD.c (.move rfl) ?_
        refine VD.c (.move rfl) ?_
        refine VD.c (.ix (j := i) rfl rfl el54 (by omega)) ?_
        refine VD.c (.fa (.l .o)) ?_
        refine VD.r [] (.ld vt3) (.inl rfl) ?_
        refine VD.c (.move rfl) ?_
        refine VD.nw [] ?_
        refine VD.c (.move rfl) ?_
        refine VD.c (.ix (j := i) rfl rfl el54 (by omega)) ?_
        refine VD.c (.fa (.l .o)) ?_
        refine VD.r [] (.ld vt3) (.inl rfl) ?_
        refine VD.c (.neq) ?_
        refine VD.c (.move rfl) ?_
        refine VD.splitD (x := 28) rfl (fun g6_11 => ?_) (fun g6_11 => ?_)
        · refine VD.nw [] ?_
          refine VD.skip ?_
          refine VD.skip ?_
          refine VD.skip ?_
          refine VD.skip ?_
          refine VD.skip ?_
          refine VD.skip ?_
          refine VD.skip ?_
          refine VD.nw [] ?_
          refine VD.skip ?_
          refine VD.skip ?_
          refine VD.skip ?_
          refine VD.skip ?_
          refine VD.skip ?_
          refine VD.c (.pickT rfl rfl) ?_
          refine VD.nil ?_
          exact ⟨⟨rfl, rfl, rfl, slE rfl (by simp [List.getElem?_eq_getElem hi', List.getElem?_eq_getElem hb', Prod.ext_iff, *]), trivial⟩, rfl⟩
        · refine VD.nw [] ?_
          refine VD.c (.move rfl) ?_
          refine VD.c (.move rfl) ?_
          refine VD.c (.ix (j := i) rfl rfl el54 (by omega)) ?_
          refine VD.c (.fa (.r .o)) ?_
          refine VD.r [] (.ld vt22) (.inl rfl) ?_
          refine VD.c (.move rfl) ?_
          refine VD.c (.move rfl) ?_
          refine VD.nw [] ?_
          refine VD.c (.ix (j := i) rfl rfl el54 (by omega)) ?_
          refine VD.c (.fa (.r .o)) ?_
          refine VD.r [] (.ld vt22) (.inl rfl) ?_
          refine VD.call rfl rfl (VF.call (rSameInts_ok (by have := hr _ (List.getElem_mem hi'); omega))) ?_
          refine VD.c (.not) ?_
          refine VD.c (.pickF rfl rfl) ?_
          refine VD.nil ?_
          exact ⟨⟨rfl, rfl, rfl, slE rfl (by simp [List.getElem?_eq_getElem hi', List.getElem?_eq_getElem hb', Prod.ext_iff, *]), trivial⟩, rfl⟩
      show VC _ _ _ _ _ _ _ _
      refine VC.condB rfl (fun c6 => ?_) (fun c6 => ?_)
      · try simp only [Bool.and_eq_true, Bool.or_eq_true, Bool.and_eq_false_iff, Bool.or_eq_false_iff, Bool.not_eq_true', Bool.not_eq_false', decide_eq_true_eq, decide_eq_false_iff_not] at c6
        refine VC.seq ?_
        refine VC.text ?_
        refine VO.c (.assign rfl) ?_
        refine VO.go ?_
        refine VC.ret ?_
        exact VEnd.one rfl evT (pvE (by exact (decide_eq_false fun e => c6 (by rw [e])).symm))
      · try simp only [Bool.and_eq_true, Bool.or_eq_true, Bool.and_eq_false_iff, Bool.or_eq_false_iff, Bool.not_eq_true', Bool.not_eq_false', decide_eq_true_eq, decide_eq_false_iff_not] at c6
        have hok : a[i]? = b[i]? := c6
        refine VC.skip ?_
        show VC _ _ _ _ _ _ _ _
        refine VC.text ?_
        refine VO.c (.move rfl) ?_
        refine VO.c (.add rfl rfl (by omega)) ?_
        refine VO.c (.assign rfl) ?_
        refine VO.nil ?_
        refine ⟨_, [(0, .v y54 a), (1, .v y54 b), (5, I (((i + 1) : Nat) : Int))], ?_, ⟨rfl, rfl, rfl, trivial⟩, (i + 1), rfl, rfl, rfl, (by omega), (by intro j hj; rcases Nat.lt_succ_iff_lt_or_eq.1 hj with h | h; exact hq j h; subst h; exact hok)⟩
        omega
    · refine VC.exit ?_
      show VC _ _ _ _ _ _ _ _
      refine VC.seq ?_
      refine VC.text ?_
      refine VO.c (.assign rfl) ?_
      refine VO.go ?_
      refine VC.ret ?_
      exact VEnd.one rfl evT (pvE (by exact (decide_eq_true (List.ext_getElem? fun j => by by_cases h : j < i; exact hq j h; rw [List.getElem?_eq_none (by omega), List.getElem?_eq_none (by omega)])).symm))
theorem lRan_ok {l : List (Int × (List Int))} (hl : l.length < 100000) : VF Tryz.prog OA 71 [.v y64 l] (.v y54 l) := by
  refine VF.enter Tryz.func71 rfl (fun _ _ => rfl) rfl ?_
  show VC _ _ _ _ _ [(0, .v y64 l)] [] _
  refine VC.seq ?_
  refine VC.text ?_
  refine VO.c (.assign rfl) ?_
  refine VO.go ?_
  refine VC.seq ?_
  refine VC.text ?_
  refine VO.c (.assign rfl) ?_
  refine VO.go ?_
  refine VC.seq ?_
  refine VC.seq ?_
  refine VC.text ?_
  refine VO.c (.move rfl) ?_
  refine VO.r (.len el64) ?_
  refine VO.c (.move rfl) ?_
  refine VO.go ?_
  refine VC.block ?_
  refine VC.cell0 72 y72 ?_
  refine VC.keep [(3, .raw (.slice none 0 0)), (6, .v y64 l), (7, I ((l.length : Nat) : Int)), (8, I ((0 : Nat) : Int))] ⟨rfl, rfl, rfl, rfl, trivial⟩ ?_
  refine VC.loop (I := fun kk ff ss => ∃ (j : Nat) (out : Value), kk = l.length - j ∧ ff = [(3, .raw out), (6, .v y64 l), (7, I ((l.length : Nat) : Int)), (8, I ((j : Nat) : Int))] ∧ ss = [(out, .row 72 y72 (l.take j))] ∧ (j ≤ l.length)) ?_ _ _ _ ⟨0, (.slice none 0 0), rfl, rfl, rfl, Nat.zero_le _⟩
  rintro kk ff ss ⟨j, out, hk0, rfl, rfl, hj⟩
  refine VC.seq ?_
  refine VC.text ?_
  refine VO.c (.lss) ?_
  refine VO.go ?_
  refine VC.seq ?_
  refine VC.condD rfl (fun c3 => ?_) (fun c3 => ?_)
  · refine VC.skip ?_
    show VC _ _ _ _ _ _ _ _
    refine VC.seq ?_
    refine VC.block ?_
    refine VC.seq ?_
    refine VC.text ?_
    refine VO.c (.ix (j := j) rfl rfl el64 (by omega)) ?_
    refine VO.r (.ld vt89) ?_
    refine VO.cell (.alloc zt89) ?_
    intro ww4
    refine VO.setV (cs' := [I ((l[j]).1), .v y22 ((l[j]).2)]) vt89 .v ?_
    refine VO.shut [(5, .p y89 (l[j]))] (.cons rfl (.var m0 .refl) .nil) ?_
    refine VO.go ?_
    refine VC.text ?_
    refine VO.c (.move rfl) ?_
    refine VO.r (.ld vt89) ?_
    refine VO.new (.lit [l[j]] el54) ?_
    refine VO.app rfl rfl el54 el54 (by simp; omega) ?_
    intro ww5
    refine VO.c (.assign rfl) ?_
    refine VO.nil ?_
    show VC _ _ _ _ _ _ _ _
    refine VC.text ?_
    refine VO.c (.add rfl rfl (by omega)) ?_
    refine VO.c (.move rfl) ?_
    refine VO.nil ?_
    refine ⟨_, [(3, .raw ww5), (6, .v y64 l), (7, I ((l.length : Nat) : Int)), (8, I (((j + 1) : Nat) : Int))], ?_, ⟨rfl, rfl, rfl, rfl, trivial⟩, (j + 1), ww5, rfl, rfl, (by rw [List.take_succ_eq_append_getElem (by omega)] <;> rfl), (by omega)⟩
    omega
  · refine VC.exit ?_
    show VC _ _ _ _ _ _ _ _
    refine VC.seq ?_
    refine VC.text ?_
    refine VO.c (.move rfl) ?_
    refine VO.c (.assign rfl) ?_
    refine VO.go ?_
    refine VC.ret ?_
    exact VEnd.one rfl (evC (.row m0)) (pvE (by rw [List.take_of_length_le (by omega)]))
end Go.Proofs
namespace Go.Proofs
open Go.Fs Ieee
set_option linter.unusedVariables false
abbrev y131 : Ty := (.pair (.int .i64) (.pair (.pair (.int .i64) (.int .i64)) (.pair (.sl (.int .i64)) (.pair (.int .i64) (.int .i64)))))
/-! ## The law of courses -/
def folB (d : Dom) (n : Int) (p : Int × Int) (tr : Tf) : Int := firstE [rangeE n 0 100000, placeE p d.1 d.2.1, transferE tr]
theorem folB_eq {d : Dom} {n : Int} {p : Int × Int} {tr : Tf} : folB d n p tr = if rangeE n 0 100000 ≠ 0 then rangeE n 0 100000 else folA d p tr := by
  rw [folB, show ∀ x y z : Int, firstE [x, y, z] = firstE ([x] ++ [y, z]) from fun _ _ _ => rfl, firstE_app, firstE_one]
  by_cases h : rangeE n 0 100000 = 0
  · rw [if_pos h, if_neg (by simpa using h)] <;> rfl
  · rw [if_neg h, if_pos h]
theorem finC3 {d : Dom} {l : List Pc} {n : Int} {p : Int × Int} {tr : Tf} (h : ¬ storeE d l = 0) : (folV d l n p tr).1 = [] ∧ (folV d l n p tr).2 = storeE d l := by
  have e : fieldA d l n = storeE d l := by rw [fieldA_eq, if_pos h]
  rw [folV, e, if_pos h]
  exact ⟨rfl, rfl⟩
theorem finC2 {d : Dom} {l : List Pc} {n : Int} {p : Int × Int} {tr : Tf} (h : storeE d l = 0) (h2 : ¬ folB d n p tr = 0) : (folV d l n p tr).1 = [] ∧ (folV d l n p tr).2 = folB d n p tr := by
  have e : fieldA d l n = rangeE n 0 100000 := by rw [fieldA_eq, if_neg (by simpa using h)]
  rw [folB_eq] at h2 ⊢
  rw [folV, e]
  by_cases h3 : rangeE n 0 100000 ≠ 0
  · rw [if_pos h3, if_pos h3]; exact ⟨rfl, rfl⟩
  · rw [if_neg h3] at h2
    rw [if_neg h3, if_neg h3, if_pos h2]; exact ⟨rfl, rfl⟩
theorem finC1 {d : Dom} {l : List Pc} {n : Int} {p : Int × Int} {tr : Tf} (h : storeE d l = 0) (h2 : folB d n p tr = 0) : (folV d l n p tr).1 = (folR d l n p tr).1 ∧ (folV d l n p tr).2 = whenE (!(folR d l n p tr).2) 7 := by
  have e : fieldA d l n = rangeE n 0 100000 := by rw [fieldA_eq, if_neg (by simpa using h)]
  rw [folB_eq] at h2
  rw [folV, e, folR, whole_miss h]
  by_cases h3 : rangeE n 0 100000 ≠ 0
  · rw [if_pos h3] at h2; exact absurd h2 h3
  · rw [if_neg h3] at h2
    rw [if_neg h3, if_neg (by simpa using h2)]
    cases decide (missL d l n = []) <;> exact ⟨rfl, rfl⟩
theorem folB_ok {d : Dom} {n : Int} {p : Int × Int} {tr : Tf} (h : folB d n p tr = 0) : placeE p d.1 d.2.1 = 0 ∧ transferE tr = 0 := by
  unfold folB at h
  rw [firstE_zero] at h
  exact ⟨h _ (by simp), h _ (by simp)⟩
theorem folV_ok {d : Dom} {l : List Pc} {n : Int} {p : Int × Int} {tr : Tf} : (folV d l n p tr).1.length ≤ 16 ∧ ∀ r ∈ (folV d l n p tr).1, r.2.length < 100000 := by
  unfold folV
  split
  · exact ⟨Nat.zero_le _, fun r h => by cases h⟩
  · split
    · exact ⟨Nat.zero_le _, fun r h => by cases h⟩
    · rename_i h1 _
      have h2 := dom_ok (store_dom (fieldA_ok (by simpa using h1)).1).1
      cases wholeB d l n with
      | false => exact ⟨Nat.zero_le _, fun r h => by cases h⟩
      | true =>
        show (csE d l n p tr _).length ≤ 16 ∧ ∀ r ∈ csE d l n p tr _, _
        unfold csE
        refine ⟨by rw [List.length_map, List.length_range]; exact h2.2.2.2.1, fun r hr => ?_⟩
        obtain ⟨i, _, rfl⟩ := List.mem_map.1 hr
        have : (lvsE d l n p (nmE d.2.2.2 i) d.2.2.1.toNat).length = d.2.2.1.toNat := by simp [lvsE]
        simp only [applyE, List.length_map, List.length_range, this]
        omega
theorem law12_ok {d : Int × Int × Int × (List (ByteArray × Int))} {l : List (Int × ByteArray × Int × Int × (List Nat))} {x : Int × (Int × Int) × ((List Int) × Int × Int)} (hd1 : d.2.2.2.length ≤ 9223372036854775807) (hl1 : l.length ≤ 9223372036854775807) (ht1 : x.2.2.1.length ≤ 9223372036854775807) : VF Tryz.prog OA 12 [.v y95 d, .v y96 l, .v y131 x] (B true) := by
  refine VF.enter Tryz.func12 rfl (fun _ _ => rfl) rfl ?_
  show VC _ _ _ _ _ [(0, .v y95 d), (1, .v y96 l), (2, .v y131 x)] [] _
  refine VC.seq ?_
  refine VC.text ?_
  refine VO.new (.box) ?_
  refine VO.new (.box) ?_
  refine VO.c (.assign rfl) ?_
  refine VO.go ?_
  refine VC.seq ?_
  refine VC.seq ?_
  refine VC.text ?_
  refine VO.r (.ld vt95) ?_
  refine VO.call rfl rfl (VF.call (rShortD_ok hd1)) ?_
  refine VO.c (.not) ?_
  refine VO.c (.move rfl) ?_
  refine VO.splitB (x := 16) rfl (fun g1_3 => ?_) (fun g1_3 => ?_)
  · try simp only [Bool.and_eq_true, Bool.or_eq_true, Bool.and_eq_false_iff, Bool.or_eq_false_iff, Bool.not_eq_true', Bool.not_eq_false', decide_eq_true_eq, decide_eq_false_iff_not] at g1_3
    refine VO.skip ?_
    refine VO.skip ?_
    refine VO.skip ?_
    refine VO.c (.pickT rfl rfl) ?_
    refine VO.c (.move rfl) ?_
    refine VO.skip ?_
    refine VO.skip ?_
    refine VO.skip ?_
    refine VO.skip ?_
    refine VO.skip ?_
    refine VO.c (.pickT rfl rfl) ?_
    refine VO.go ?_
    refine VC.condT rfl ?_
    refine VC.seq ?_
    refine VC.text ?_
    refine VO.call rfl rfl (VF.call (awake_ok )) ?_
    refine VO.c (.assign rfl) ?_
    refine VO.go ?_
    refine VC.ret ?_
    exact VEnd.one rfl evT (pvE (by first | rfl | exact absurd c8 c5 | exact absurd (finC1 c5 c8).1 g11_4 | exact absurd (finC2 c5 c8).1 g11_4 | exact absurd (finC3 c5).1 g11_4 | exact absurd (finC1 c5 c8).2 g11_9 | exact absurd (finC2 c5 c8).2 g11_9 | exact absurd (finC3 c5).2 g11_9))
  · try simp only [Bool.and_eq_true, Bool.or_eq_true, Bool.and_eq_false_iff, Bool.or_eq_false_iff, Bool.not_eq_true', Bool.not_eq_false', decide_eq_true_eq, decide_eq_false_iff_not] at g1_3
    refine VO.c (.move rfl) ?_
    refine VO.call rfl rfl (VF.call (rShortS_ok hl1)) ?_
    refine VO.c (.not) ?_
    refine VO.c (.pickF rfl rfl) ?_
    refine VO.c (.move rfl) ?_
    refine VO.splitB (x := 21) rfl (fun g1_8 => ?_) (fun g1_8 => ?_)
    · try simp only [Bool.and_eq_true, Bool.or_eq_true, Bool.and_eq_false_iff, Bool.or_eq_false_iff, Bool.not_eq_true', Bool.not_eq_false', decide_eq_true_eq, decide_eq_false_iff_not] at g1_8
      refine VO.skip ?_
      refine VO.skip ?_
      refine VO.skip ?_
      refine VO.skip ?_
      refine VO.skip ?_
      refine VO.c (.pickT rfl rfl) ?_
      refine VO.go ?_
      refine VC.condT rfl ?_
      refine VC.seq ?_
      refine VC.text ?_
      refine VO.call rfl rfl (VF.call (awake_ok )) ?_
      refine VO.c (.assign rfl) ?_
      refine VO.go ?_
      refine VC.ret ?_
      exact VEnd.one rfl evT (pvE (by first | rfl | exact absurd c8 c5 | exact absurd (finC1 c5 c8).1 g11_4 | exact absurd (finC2 c5 c8).1 g11_4 | exact absurd (finC3 c5).1 g11_4 | exact absurd (finC1 c5 c8).2 g11_9 | exact absurd (finC2 c5 c8).2 g11_9 | exact absurd (finC3 c5).2 g11_9))
    · try simp only [Bool.and_eq_true, Bool.or_eq_true, Bool.and_eq_false_iff, Bool.or_eq_false_iff, Bool.not_eq_true', Bool.not_eq_false', decide_eq_true_eq, decide_eq_false_iff_not] at g1_8
      refine VO.c (.fa (.r (.r .o))) ?_
      refine VO.c (.fa (.l .o)) ?_
      refine VO.r (.ld vt22) ?_
      refine VO.r (.len el22) ?_
      refine VO.c (.gtr) ?_
      refine VO.c (.pickF rfl rfl) ?_
      refine VO.go ?_
      refine VC.condD rfl (fun c1 => ?_) (fun c1 => ?_)
      · refine VC.seq ?_
        refine VC.text ?_
        refine VO.call rfl rfl (VF.call (awake_ok )) ?_
        refine VO.c (.assign rfl) ?_
        refine VO.go ?_
        refine VC.ret ?_
        exact VEnd.one rfl evT (pvE (by first | rfl | exact absurd c8 c5 | exact absurd (finC1 c5 c8).1 g11_4 | exact absurd (finC2 c5 c8).1 g11_4 | exact absurd (finC3 c5).1 g11_4 | exact absurd (finC1 c5 c8).2 g11_9 | exact absurd (finC2 c5 c8).2 g11_9 | exact absurd (finC3 c5).2 g11_9))
      · have hs : (shortD d = true ∧ shortS l 24 = true) := by simp_all
        have htl : x.2.2.1.length < 100000 := by simp_all; omega
        have hsd := of_decide_eq_true hs.1
        have hss := of_decide_eq_true hs.2
        have hdl : d.2.2.2.length < 100000 := by have := hsd.1; omega
        have hll : l.length < 100000 := by have := hss.1; omega
        have hr : ∀ p ∈ l, p.2.2.2.2.length < 100000 := fun p m => by obtain ⟨i, hi, rfl⟩ := List.getElem_of_mem m; have := (hss.2 i hi).2; rw [← pcA_eq hi] at this; omega
        refine VC.skip ?_
        show VC _ _ _ _ _ _ _ _
        refine VC.seq ?_
        refine VC.drawn ?_
        refine VD.r [] (.ld vt95) (.inl rfl) ?_
        refine VD.call rfl rfl (VF.call (lDom_ok hdl)) ?_
        refine VD.c (.move rfl) ?_
        refine VD.call rfl rfl (VF.call (lPcs_ok hll hr)) ?_
        refine VD.c (.fa (.l .o)) ?_
        refine VD.r [] (.ld vt3) (.inl rfl) ?_
        refine VD.nw [33, 31] ?_
        refine VD.c (.fa (.r (.l .o))) ?_
        refine VD.r [] (.ld vt117) (.inl rfl) ?_
        refine VD.c (.fa (.r (.r .o))) ?_
        refine VD.r [] (.ld vt24AL) (.inl rfl) ?_
        refine VD.call rfl rfl (VF.call (lTransfer_ok (by omega))) ?_
        refine VD.callO rfl rfl (VF.call (sFollow_ok hll hr htl)) ?_
        refine VD.c (.move rfl) ?_
        refine VD.nw [29, 41, 40, 33, 31] ?_
        refine VD.c (.extract) ?_
        refine VD.c (.extract) ?_
        refine VD.c (.assign rfl) ?_
        refine VD.c (.assign rfl) ?_
        refine VD.go ?_
        refine VC.seq ?_
        refine VC.keep [(1, .v y96 l), (3, .p y95 d), (5, .p y131 x), (7, .v y64 ((folV d l x.1 x.2.1 x.2.2).1)), (8, I ((folV d l x.1 x.2.1 x.2.2).2))] ⟨rfl, rfl, rfl, rfl, rfl, trivial⟩ ?_
        refine VC.text ?_
        refine VO.r (.ld vt95) ?_
        refine VO.c (.move rfl) ?_
        refine VO.call rfl rfl (VF.call (rStore_ok hll hr)) ?_
        refine VO.c (.assign rfl) ?_
        refine VO.go ?_
        refine VC.seq ?_
        refine VC.seq ?_
        refine VC.text ?_
        refine VO.c (.move rfl) ?_
        refine VO.c (.eql) ?_
        refine VO.go ?_
        refine VC.condD rfl (fun c5 => ?_) (fun c5 => ?_)
        · have hdd := dom_ok (store_dom c5).1
          refine VC.drawn ?_
          refine VD.c (.fa (.l .o)) ?_
          refine VD.r [] (.ld vt3) (.inl rfl) ?_
          refine VD.call rfl rfl (VF.call (rCheckRange_ok )) ?_
          refine VD.c (.fa (.r (.l .o))) ?_
          refine VD.r [] (.ld vt117) (.inl rfl) ?_
          refine VD.c (.fa (.l .o)) ?_
          refine VD.nw [] ?_
          refine VD.r [] (.ld vt3) (.inl rfl) ?_
          refine VD.c (.fa (.r (.l .o))) ?_
          refine VD.r [] (.ld vt3) (.inl rfl) ?_
          refine VD.call rfl rfl (VF.call (rPlace_ok (by omega) (by omega))) ?_
          refine VD.c (.fa (.r (.r .o))) ?_
          refine VD.r [] (.ld vt24AL) (.inl rfl) ?_
          refine VD.call rfl rfl (VF.call (rCheckTransfer_ok htl)) ?_
          refine VD.nw [] ?_
          refine VD.new (.lit [rangeE x.1 (0 : Int) (100000 : Int), placeE x.2.1 d.1 d.2.1, transferE x.2.2] el22) ?_
          refine VD.callO rfl rfl (VF.call (lFirst_ok (by first | assumption | omega | simp))) ?_
          refine VD.c (.assign rfl) ?_
          refine VD.go ?_
          refine VC.seq ?_
          refine VC.text ?_
          refine VO.c (.assign rfl) ?_
          refine VO.go ?_
          refine VC.seq ?_
          refine VC.seq ?_
          refine VC.text ?_
          refine VO.c (.move rfl) ?_
          refine VO.c (.eql) ?_
          refine VO.go ?_
          refine VC.condD rfl (fun c8 => ?_) (fun c8 => ?_)
          · have hst : storeE d l = 0 := by first | exact absurd c8 c5 | exact c5
            have hfb : folB d x.1 x.2.1 x.2.2 = 0 := by first | exact absurd c8 c5 | exact c8
            have hr2 : ∀ p ∈ l, p.2.2.2.2.length < 100000 ∧ ∀ x ∈ p.2.2.2.2, lvlE x = 0 := fun p m => ⟨hr p m, by obtain ⟨i, hi, rfl⟩ := List.getElem_of_mem m; have := (pc_lv (piece_zero ((store_dom hst).2.2 i hi))).2; rw [← pcA_eq hi] at this; exact this⟩
            refine VC.seq ?_
            refine VC.text ?_
            refine VO.r (.ld vt95) ?_
            refine VO.c (.move rfl) ?_
            refine VO.c (.fa (.l .o)) ?_
            refine VO.r (.ld vt3) ?_
            refine VO.c (.fa (.r (.l .o))) ?_
            refine VO.r (.ld vt117) ?_
            refine VO.c (.fa (.r (.r .o))) ?_
            refine VO.r (.ld vt24AL) ?_
            refine VO.call rfl rfl (VF.call (rFollow_ok hst hll hr2 (folB_ok hfb).1 (folB_ok hfb).2)) ?_
            refine VO.c (.move rfl) ?_
            refine VO.c (.extract) ?_
            refine VO.c (.extract) ?_
            refine VO.c (.assign rfl) ?_
            refine VO.c (.assign rfl) ?_
            refine VO.go ?_
            refine VC.keep [(7, .v y64 ((folV d l x.1 x.2.1 x.2.2).1)), (8, I ((folV d l x.1 x.2.1 x.2.2).2)), (11, .v y54 ((folR d l x.1 x.2.1 x.2.2).1)), (12, B ((folR d l x.1 x.2.1 x.2.2).2))] ⟨rfl, rfl, rfl, rfl, trivial⟩ ?_
            refine VC.text ?_
            refine VO.c (.move rfl) ?_
            refine VO.c (.move rfl) ?_
            refine VO.c (.not) ?_
            refine VO.call rfl rfl (VF.call (lWhen_ok )) ?_
            refine VO.c (.assign rfl) ?_
            refine VO.c (.assign rfl) ?_
            refine VO.go ?_
            refine VC.seq ?_
            refine VC.text ?_
            have hfv := folV_ok (d := d) (l := l) (n := x.1) (p := x.2.1) (tr := x.2.2)
            refine VO.c (.move rfl) ?_
            refine VO.call rfl rfl (VF.call (lRan_ok (by omega))) ?_
            refine VO.c (.move rfl) ?_
            refine VO.call rfl rfl (VF.call (rSameCs_ok (by omega) hfv.2)) ?_
            refine VO.c (.move rfl) ?_
            refine VO.splitB (x := 86) rfl (fun g11_4 => ?_) (fun g11_4 => ?_)
            · try simp only [Bool.and_eq_true, Bool.or_eq_true, Bool.and_eq_false_iff, Bool.or_eq_false_iff, Bool.not_eq_true', Bool.not_eq_false', decide_eq_true_eq, decide_eq_false_iff_not] at g11_4
              refine VO.c (.move rfl) ?_
              refine VO.c (.move rfl) ?_
              refine VO.c (.eql) ?_
              refine VO.c (.pickT rfl rfl) ?_
              refine VO.c (.move rfl) ?_
              refine VO.splitD (x := 91) rfl (fun g11_9 => ?_) (fun g11_9 => ?_)
              · refine VO.call rfl rfl (VF.call (awake_ok )) ?_
                refine VO.c (.pickT rfl rfl) ?_
                refine VO.c (.assign rfl) ?_
                refine VO.go ?_
                refine VC.ret ?_
                exact VEnd.one rfl evT (pvE (by first | rfl | exact absurd c8 c5 | exact absurd (finC1 c5 c8).1 g11_4 | exact absurd (finC2 c5 c8).1 g11_4 | exact absurd (finC3 c5).1 g11_4 | exact absurd (finC1 c5 c8).2 g11_9 | exact absurd (finC2 c5 c8).2 g11_9 | exact absurd (finC3 c5).2 g11_9))
              · refine VO.skip ?_
                refine VO.c (.pickF rfl rfl) ?_
                refine VO.c (.assign rfl) ?_
                refine VO.go ?_
                refine VC.ret ?_
                exact VEnd.one rfl evT (pvE (by first | rfl | exact absurd c8 c5 | exact absurd (finC1 c5 c8).1 g11_4 | exact absurd (finC2 c5 c8).1 g11_4 | exact absurd (finC3 c5).1 g11_4 | exact absurd (finC1 c5 c8).2 g11_9 | exact absurd (finC2 c5 c8).2 g11_9 | exact absurd (finC3 c5).2 g11_9))
            · try simp only [Bool.and_eq_true, Bool.or_eq_true, Bool.and_eq_false_iff, Bool.or_eq_false_iff, Bool.not_eq_true', Bool.not_eq_false', decide_eq_true_eq, decide_eq_false_iff_not] at g11_4
              refine VO.skip ?_
              refine VO.skip ?_
              refine VO.skip ?_
              refine VO.c (.pickF rfl rfl) ?_
              refine VO.c (.move rfl) ?_
              refine VO.skip ?_
              refine VO.c (.pickF rfl rfl) ?_
              refine VO.c (.assign rfl) ?_
              refine VO.go ?_
              refine VC.ret ?_
              exact VEnd.one rfl evT (pvE (by first | rfl | exact absurd c8 c5 | exact absurd (finC1 c5 c8).1 g11_4 | exact absurd (finC2 c5 c8).1 g11_4 | exact absurd (finC3 c5).1 g11_4 | exact absurd (finC1 c5 c8).2 g11_9 | exact absurd (finC2 c5 c8).2 g11_9 | exact absurd (finC3 c5).2 g11_9))
          · refine VC.skip ?_
            show VC _ _ _ _ _ _ _ _
            refine VC.seq ?_
            refine VC.text ?_
            have hfv := folV_ok (d := d) (l := l) (n := x.1) (p := x.2.1) (tr := x.2.2)
            refine VO.c (.move rfl) ?_
            refine VO.call rfl rfl (VF.call (lRan_ok (by omega))) ?_
            refine VO.c (.move rfl) ?_
            refine VO.callC rfl rfl .same (.cons .same (.cons .nil .nil)) rfl (VF.call (rSameCs_ok (by omega) hfv.2)) ?_
            refine VO.c (.move rfl) ?_
            refine VO.splitB (x := 86) rfl (fun g11_4 => ?_) (fun g11_4 => ?_)
            · try simp only [Bool.and_eq_true, Bool.or_eq_true, Bool.and_eq_false_iff, Bool.or_eq_false_iff, Bool.not_eq_true', Bool.not_eq_false', decide_eq_true_eq, decide_eq_false_iff_not] at g11_4
              refine VO.c (.move rfl) ?_
              refine VO.c (.move rfl) ?_
              refine VO.c (.eql) ?_
              refine VO.c (.pickT rfl rfl) ?_
              refine VO.c (.move rfl) ?_
              refine VO.splitD (x := 91) rfl (fun g11_9 => ?_) (fun g11_9 => ?_)
              · refine VO.call rfl rfl (VF.call (awake_ok )) ?_
                refine VO.c (.pickT rfl rfl) ?_
                refine VO.c (.assign rfl) ?_
                refine VO.go ?_
                refine VC.ret ?_
                exact VEnd.one rfl evT (pvE (by first | rfl | exact absurd c8 c5 | exact absurd (finC1 c5 c8).1 g11_4 | exact absurd (finC2 c5 c8).1 g11_4 | exact absurd (finC3 c5).1 g11_4 | exact absurd (finC1 c5 c8).2 g11_9 | exact absurd (finC2 c5 c8).2 g11_9 | exact absurd (finC3 c5).2 g11_9))
              · refine VO.skip ?_
                refine VO.c (.pickF rfl rfl) ?_
                refine VO.c (.assign rfl) ?_
                refine VO.go ?_
                refine VC.ret ?_
                exact VEnd.one rfl evT (pvE (by first | rfl | exact absurd c8 c5 | exact absurd (finC1 c5 c8).1 g11_4 | exact absurd (finC2 c5 c8).1 g11_4 | exact absurd (finC3 c5).1 g11_4 | exact absurd (finC1 c5 c8).2 g11_9 | exact absurd (finC2 c5 c8).2 g11_9 | exact absurd (finC3 c5).2 g11_9))
            · try simp only [Bool.and_eq_true, Bool.or_eq_true, Bool.and_eq_false_iff, Bool.or_eq_false_iff, Bool.not_eq_true', Bool.not_eq_false', decide_eq_true_eq, decide_eq_false_iff_not] at g11_4
              refine VO.skip ?_
              refine VO.skip ?_
              refine VO.skip ?_
              refine VO.c (.pickF rfl rfl) ?_
              refine VO.c (.move rfl) ?_
              refine VO.skip ?_
              refine VO.c (.pickF rfl rfl) ?_
              refine VO.c (.assign rfl) ?_
              refine VO.go ?_
              refine VC.ret ?_
              exact VEnd.one rfl evT (pvE (by first | rfl | exact absurd c8 c5 | exact absurd (finC1 c5 c8).1 g11_4 | exact absurd (finC2 c5 c8).1 g11_4 | exact absurd (finC3 c5).1 g11_4 | exact absurd (finC1 c5 c8).2 g11_9 | exact absurd (finC2 c5 c8).2 g11_9 | exact absurd (finC3 c5).2 g11_9))
        · refine VC.skip ?_
          show VC _ _ _ _ _ _ _ _
          refine VC.seq ?_
          refine VC.text ?_
          refine VO.c (.assign rfl) ?_
          refine VO.go ?_
          refine VC.seq ?_
          refine VC.seq ?_
          refine VC.text ?_
          refine VO.c (.move rfl) ?_
          refine VO.c (.eql) ?_
          refine VO.go ?_
          refine VC.condD rfl (fun c8 => ?_) (fun c8 => ?_)
          · have hst : storeE d l = 0 := by first | exact absurd c8 c5 | exact c5
            have hfb : folB d x.1 x.2.1 x.2.2 = 0 := by first | exact absurd c8 c5 | exact c8
            have hr2 : ∀ p ∈ l, p.2.2.2.2.length < 100000 ∧ ∀ x ∈ p.2.2.2.2, lvlE x = 0 := fun p m => ⟨hr p m, by obtain ⟨i, hi, rfl⟩ := List.getElem_of_mem m; have := (pc_lv (piece_zero ((store_dom hst).2.2 i hi))).2; rw [← pcA_eq hi] at this; exact this⟩
            refine VC.seq ?_
            refine VC.text ?_
            refine VO.r (.ld vt95) ?_
            refine VO.c (.move rfl) ?_
            refine VO.c (.fa (.l .o)) ?_
            refine VO.r (.ld vt3) ?_
            refine VO.c (.fa (.r (.l .o))) ?_
            refine VO.r (.ld vt117) ?_
            refine VO.c (.fa (.r (.r .o))) ?_
            refine VO.r (.ld vt24AL) ?_
            refine VO.call rfl rfl (VF.call (rFollow_ok hst hll hr2 (folB_ok hfb).1 (folB_ok hfb).2)) ?_
            refine VO.c (.move rfl) ?_
            refine VO.c (.extract) ?_
            refine VO.c (.extract) ?_
            refine VO.c (.assign rfl) ?_
            refine VO.c (.assign rfl) ?_
            refine VO.go ?_
            refine VC.text ?_
            refine VO.c (.move rfl) ?_
            refine VO.c (.move rfl) ?_
            refine VO.c (.not) ?_
            refine VO.call rfl rfl (VF.call (lWhen_ok )) ?_
            refine VO.c (.assign rfl) ?_
            refine VO.c (.assign rfl) ?_
            refine VO.go ?_
            refine VC.seq ?_
            refine VC.text ?_
            have hfv := folV_ok (d := d) (l := l) (n := x.1) (p := x.2.1) (tr := x.2.2)
            refine VO.c (.move rfl) ?_
            refine VO.call rfl rfl (VF.call (lRan_ok (by omega))) ?_
            refine VO.c (.move rfl) ?_
            refine VO.call rfl rfl (VF.call (rSameCs_ok (by omega) hfv.2)) ?_
            refine VO.c (.move rfl) ?_
            refine VO.splitB (x := 86) rfl (fun g11_4 => ?_) (fun g11_4 => ?_)
            · try simp only [Bool.and_eq_true, Bool.or_eq_true, Bool.and_eq_false_iff, Bool.or_eq_false_iff, Bool.not_eq_true', Bool.not_eq_false', decide_eq_true_eq, decide_eq_false_iff_not] at g11_4
              refine VO.c (.move rfl) ?_
              refine VO.c (.move rfl) ?_
              refine VO.c (.eql) ?_
              refine VO.c (.pickT rfl rfl) ?_
              refine VO.c (.move rfl) ?_
              refine VO.splitD (x := 91) rfl (fun g11_9 => ?_) (fun g11_9 => ?_)
              · refine VO.call rfl rfl (VF.call (awake_ok )) ?_
                refine VO.c (.pickT rfl rfl) ?_
                refine VO.c (.assign rfl) ?_
                refine VO.go ?_
                refine VC.ret ?_
                exact VEnd.one rfl evT (pvE (by first | rfl | exact absurd c8 c5 | exact absurd (finC1 c5 c8).1 g11_4 | exact absurd (finC2 c5 c8).1 g11_4 | exact absurd (finC3 c5).1 g11_4 | exact absurd (finC1 c5 c8).2 g11_9 | exact absurd (finC2 c5 c8).2 g11_9 | exact absurd (finC3 c5).2 g11_9))
              · refine VO.skip ?_
                refine VO.c (.pickF rfl rfl) ?_
                refine VO.c (.assign rfl) ?_
                refine VO.go ?_
                refine VC.ret ?_
                exact VEnd.one rfl evT (pvE (by first | rfl | exact absurd c8 c5 | exact absurd (finC1 c5 c8).1 g11_4 | exact absurd (finC2 c5 c8).1 g11_4 | exact absurd (finC3 c5).1 g11_4 | exact absurd (finC1 c5 c8).2 g11_9 | exact absurd (finC2 c5 c8).2 g11_9 | exact absurd (finC3 c5).2 g11_9))
            · try simp only [Bool.and_eq_true, Bool.or_eq_true, Bool.and_eq_false_iff, Bool.or_eq_false_iff, Bool.not_eq_true', Bool.not_eq_false', decide_eq_true_eq, decide_eq_false_iff_not] at g11_4
              refine VO.skip ?_
              refine VO.skip ?_
              refine VO.skip ?_
              refine VO.c (.pickF rfl rfl) ?_
              refine VO.c (.move rfl) ?_
              refine VO.skip ?_
              refine VO.c (.pickF rfl rfl) ?_
              refine VO.c (.assign rfl) ?_
              refine VO.go ?_
              refine VC.ret ?_
              exact VEnd.one rfl evT (pvE (by first | rfl | exact absurd c8 c5 | exact absurd (finC1 c5 c8).1 g11_4 | exact absurd (finC2 c5 c8).1 g11_4 | exact absurd (finC3 c5).1 g11_4 | exact absurd (finC1 c5 c8).2 g11_9 | exact absurd (finC2 c5 c8).2 g11_9 | exact absurd (finC3 c5).2 g11_9))
          · refine VC.skip ?_
            show VC _ _ _ _ _ _ _ _
            refine VC.seq ?_
            refine VC.text ?_
            have hfv := folV_ok (d := d) (l := l) (n := x.1) (p := x.2.1) (tr := x.2.2)
            refine VO.c (.move rfl) ?_
            refine VO.call rfl rfl (VF.call (lRan_ok (by omega))) ?_
            refine VO.c (.move rfl) ?_
            refine VO.callC rfl rfl .same (.cons .same (.cons .nil .nil)) rfl (VF.call (rSameCs_ok (by omega) hfv.2)) ?_
            refine VO.c (.move rfl) ?_
            refine VO.splitB (x := 86) rfl (fun g11_4 => ?_) (fun g11_4 => ?_)
            · try simp only [Bool.and_eq_true, Bool.or_eq_true, Bool.and_eq_false_iff, Bool.or_eq_false_iff, Bool.not_eq_true', Bool.not_eq_false', decide_eq_true_eq, decide_eq_false_iff_not] at g11_4
              refine VO.c (.move rfl) ?_
              refine VO.c (.move rfl) ?_
              refine VO.c (.eql) ?_
              refine VO.c (.pickT rfl rfl) ?_
              refine VO.c (.move rfl) ?_
              refine VO.splitD (x := 91) rfl (fun g11_9 => ?_) (fun g11_9 => ?_)
              · refine VO.call rfl rfl (VF.call (awake_ok )) ?_
                refine VO.c (.pickT rfl rfl) ?_
                refine VO.c (.assign rfl) ?_
                refine VO.go ?_
                refine VC.ret ?_
                exact VEnd.one rfl evT (pvE (by first | rfl | exact absurd c8 c5 | exact absurd (finC1 c5 c8).1 g11_4 | exact absurd (finC2 c5 c8).1 g11_4 | exact absurd (finC3 c5).1 g11_4 | exact absurd (finC1 c5 c8).2 g11_9 | exact absurd (finC2 c5 c8).2 g11_9 | exact absurd (finC3 c5).2 g11_9))
              · refine VO.skip ?_
                refine VO.c (.pickF rfl rfl) ?_
                refine VO.c (.assign rfl) ?_
                refine VO.go ?_
                refine VC.ret ?_
                exact VEnd.one rfl evT (pvE (by first | rfl | exact absurd c8 c5 | exact absurd (finC1 c5 c8).1 g11_4 | exact absurd (finC2 c5 c8).1 g11_4 | exact absurd (finC3 c5).1 g11_4 | exact absurd (finC1 c5 c8).2 g11_9 | exact absurd (finC2 c5 c8).2 g11_9 | exact absurd (finC3 c5).2 g11_9))
            · try simp only [Bool.and_eq_true, Bool.or_eq_true, Bool.and_eq_false_iff, Bool.or_eq_false_iff, Bool.not_eq_true', Bool.not_eq_false', decide_eq_true_eq, decide_eq_false_iff_not] at g11_4
              refine VO.skip ?_
              refine VO.skip ?_
              refine VO.skip ?_
              refine VO.c (.pickF rfl rfl) ?_
              refine VO.c (.move rfl) ?_
              refine VO.skip ?_
              refine VO.c (.pickF rfl rfl) ?_
              refine VO.c (.assign rfl) ?_
              refine VO.go ?_
              refine VC.ret ?_
              exact VEnd.one rfl evT (pvE (by first | rfl | exact absurd c8 c5 | exact absurd (finC1 c5 c8).1 g11_4 | exact absurd (finC2 c5 c8).1 g11_4 | exact absurd (finC3 c5).1 g11_4 | exact absurd (finC1 c5 c8).2 g11_9 | exact absurd (finC2 c5 c8).2 g11_9 | exact absurd (finC3 c5).2 g11_9))
end Go.Proofs
