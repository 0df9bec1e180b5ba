/- Parts of the proof: an evaluator of the model, what it is sound for, and contracts of functions. No condition. -/
import Derived.Test.YtjmkmalgfanifaaGreatDoorP5
import Derived.Test.YtjmkmalgfanifaaGreatDoorP4
set_option linter.all false
namespace Go.Proofs
open Go.Fs
set_option maxHeartbeats 1000000
theorem wrap_nat {n : Nat} (h : n < 2 ^ 63) : IntKind.i64.wrap ((n : Nat) : Int) = ((n : Nat) : Int) := by
  have e : (2 : Nat) ^ 63 = 9223372036854775808 := by decide
  exact wrap64 (by omega) (by omega)
theorem ofI_nat {a : Nat} (h : a < 2 ^ 63) : (BitVec.ofInt IntKind.i64.bits ((a : Nat) : Int)).toNat = a := by
  show (BitVec.ofInt 64 ((a : Nat) : Int)).toNat = a; rw [BitVec.ofInt_natCast, BitVec.toNat_ofNat]; exact Nat.mod_eq_of_lt (Nat.lt_trans h (by decide))
theorem orI_nat {a b : Nat} (ha : a < 2 ^ 63) (hb : b < 2 ^ 63) : Fs.orI ((a : Nat) : Int) ((b : Nat) : Int) = ((a ||| b : Nat) : Int) := by
  unfold Fs.orI; rw [BitVec.toNat_or, ofI_nat ha, ofI_nat hb]; exact wrap_nat (Nat.or_lt_two_pow ha hb)
theorem andI_nat {a b : Nat} (ha : a < 2 ^ 63) (hb : b < 2 ^ 63) : Fs.andI ((a : Nat) : Int) ((b : Nat) : Int) = ((a &&& b : Nat) : Int) := by
  unfold Fs.andI; rw [BitVec.toNat_and, ofI_nat ha, ofI_nat hb]; exact wrap_nat (Nat.and_lt_two_pow _ hb)
structure SetOk (n : Nat) (s : Int) : Prop where
  n9 : n ≤ 9
  lo : 0 ≤ s
  hi : s.toNat < 2 ^ n
theorem SetOk.big {n : Nat} {s : Int} (h : SetOk n s) : s.toNat < 512 := Nat.lt_of_lt_of_le h.hi (Nat.pow_le_pow_right (by decide) (show n ≤ 9 from h.n9))
theorem set_of {n : Nat} {s : Int} (hn : n ≤ 9) (h0 : 0 ≤ s) (h1 : s < (1 : Int) * 2 ^ ((n : Nat) : Int).toNat) : SetOk n s := ⟨hn, h0, by
  rw [Int.toNat_natCast, Int.one_mul] at h1
  have : ((s.toNat : Nat) : Int) < ((2 ^ n : Nat) : Int) := by rw [Int.toNat_of_nonneg h0]; simpa using h1
  omega⟩
theorem hasI_bit {s : Int} {i : Nat} (h0 : 0 ≤ s) (h1 : s.toNat < 2 ^ 63) : hasI s ((i : Nat) : Int) = s.toNat.testBit i := by
  obtain ⟨a, rfl⟩ : ∃ a : Nat, s = ((a : Nat) : Int) := ⟨s.toNat, (Int.toNat_of_nonneg h0).symm⟩; rw [Int.toNat_natCast] at h1 ⊢; unfold hasI
  rw [Int.toNat_natCast, show ((a : Nat) : Int).fdiv (2 ^ i) = ((a / 2 ^ i : Nat) : Int) by
    rw [Int.fdiv_eq_ediv_of_nonneg _ (by exact_mod_cast Nat.zero_le (2 ^ i))]; simp]
  rw [show (1 : Int) = ((1 : Nat) : Int) from rfl, andI_nat (Nat.lt_of_le_of_lt (Nat.div_le_self _ _) h1) (by decide)]; rw [Nat.and_one_is_mod, Nat.testBit_eq_decide_div_mod_eq]; exact decide_eq_decide.2 ⟨fun h => by omega, fun h => by omega⟩
def nxtI (s : Int) (i : Nat) : Int := ((s.toNat ||| 2 ^ i : Nat) : Int)
theorem pow_63 {i : Nat} (h : i ≤ 9) : (2 : Nat) ^ i < 2 ^ 63 := Nat.pow_lt_pow_right (by decide) (by omega)
theorem orI_nxt {n : Nat} {s : Int} (h : SetOk n s) {i : Nat} (hi : i ≤ 9) : Fs.orI s ((1 : Int) * 2 ^ (((i : Nat) : Int)).toNat) = nxtI s i := by
  have hb := h.big; obtain ⟨a, rfl⟩ : ∃ a : Nat, s = ((a : Nat) : Int) := ⟨s.toNat, (Int.toNat_of_nonneg h.lo).symm⟩; rw [Int.toNat_natCast] at hb; rw [Int.toNat_natCast, Int.one_mul, show (2 : Int) ^ i = ((2 ^ i : Nat) : Int) by simp]; exact orI_nat (Nat.lt_trans hb (by decide)) (pow_63 hi)
theorem nxt_nat {s : Int} {i : Nat} : (nxtI s i).toNat = s.toNat ||| 2 ^ i := Int.toNat_natCast _
theorem nxt_bit {s : Int} {i k : Nat} : (nxtI s i).toNat.testBit k = (s.toNat.testBit k || decide (i = k)) := by
  rw [nxt_nat, Nat.testBit_or, Nat.testBit_two_pow]
theorem nxt_ok {n : Nat} {s : Int} (h : SetOk n s) {i : Nat} (hi : i < n) : SetOk n (nxtI s i) := ⟨h.n9, Int.natCast_nonneg _, by
  rw [nxt_nat]; exact Nat.or_lt_two_pow h.hi (Nat.pow_lt_pow_right (by decide) hi)⟩
theorem nat_ext {a b : Nat} (h : ∀ k, a.testBit k = b.testBit k) : a = b := Nat.eq_of_testBit_eq h
theorem bit_hi {n a : Nat} (h : a < 2 ^ n) {k : Nat} (hk : n ≤ k) : a.testBit k = false := Nat.testBit_lt_two_pow (Nat.lt_of_lt_of_le h (Nat.pow_le_pow_right (by decide) hk))
theorem set_ext {n : Nat} {s t : Int} (h : SetOk n s) (h2 : SetOk n t) (hb : ∀ k, k < n → s.toNat.testBit k = t.toNat.testBit k) : s = t := by
  have : s.toNat = t.toNat := nat_ext fun k => by
    by_cases hk : k < n
    · exact hb k hk
    rw [bit_hi h.hi (by omega), bit_hi h2.hi (by omega)]
  have := h.lo; have := h2.lo; omega
theorem nxt_self {n : Nat} {s : Int} (h : SetOk n s) {i : Nat} (hi : i < n) (hb : s.toNat.testBit i = true) : nxtI s i = s := set_ext (nxt_ok h hi) h fun k hk => by
  rw [nxt_bit]; by_cases e : i = k
  · subst e; rw [hb] <;> rfl
  rw [decide_eq_false e, Bool.or_false]
theorem nxt_lt {s : Int} {i : Nat} (h0 : 0 ≤ s) (hb : s.toNat.testBit i = false) : s < nxtI s i := by
  have h1 : s.toNat ≤ s.toNat ||| 2 ^ i := Nat.left_le_or
  have h2 : s.toNat ≠ s.toNat ||| 2 ^ i := fun e => by
    have := congrArg (fun a => a.testBit i) e; simp only [Nat.testBit_or, Nat.testBit_two_pow_self, Bool.or_true, hb] at this; cases this
  unfold nxtI; omega
theorem zero_bit {k : Nat} : (0 : Int).toNat.testBit k = false := Nat.zero_testBit k
theorem zero_ok {n : Nat} (h : n ≤ 9) : SetOk n 0 := ⟨h, Int.le_refl _, Nat.two_pow_pos n⟩
def fulI (n : Nat) : Int := ((2 ^ n - 1 : Nat) : Int)
theorem ful_ok {n : Nat} (h : n ≤ 9) : SetOk n (fulI n) := ⟨h, Int.natCast_nonneg _, by unfold fulI; rw [Int.toNat_natCast]; have := Nat.two_pow_pos n; omega⟩
theorem ful_bit {n k : Nat} (h : k < n) : (fulI n).toNat.testBit k = true := by
  unfold fulI; rw [Int.toNat_natCast, Nat.testBit_two_pow_sub_one]; exact decide_eq_true h
theorem ful_eq {n : Nat} : (1 : Int) * 2 ^ ((n : Nat) : Int).toNat - 1 = fulI n := by
  unfold fulI; have := Nat.two_pow_pos n; rw [Int.toNat_natCast, Int.one_mul, show (2 : Int) ^ n = ((2 ^ n : Nat) : Int) by simp]; omega
def misN (n : Nat) (s : Int) : Nat := ((List.range n).filter fun i => !s.toNat.testBit i).length
theorem mis_full {n : Nat} {s : Int} (h : SetOk n s) : misN n s = 0 ↔ s = fulI n := by
  unfold misN; rw [List.length_eq_zero_iff, List.filter_eq_nil_iff]; constructor
  · intro h1; refine set_ext h (ful_ok h.n9) fun k hk => ?_; rw [ful_bit hk]; simpa using h1 k (List.mem_range.2 hk)
  rintro rfl k hk; rw [ful_bit (List.mem_range.1 hk)]; simp
theorem filter_less {P Q : Nat → Bool} {x : Nat} : ∀ {l : List Nat}, l.Nodup → x ∈ l → P x = true → Q x = false → (∀ y, y ≠ x → P y = Q y) → (l.filter Q).length + 1 = (l.filter P).length
  | [], _, h, _, _, _ => by cases h
  | y :: l, hn, h, hp, hq, he => by
    obtain ⟨h1, h2⟩ := List.nodup_cons.1 hn; rw [List.filter_cons, List.filter_cons]; by_cases e : y = x
    · subst e; rw [if_neg (by rw [hq]; decide), if_pos hp, List.length_cons]; congr 2; exact List.filter_congr fun z hz => (he z (fun e => h1 (e ▸ hz))).symm
    have ih := filter_less h2 ((List.mem_cons.1 h).resolve_left (fun e2 => e e2.symm)) hp hq he; rw [he y e]; split
    · rw [List.length_cons, List.length_cons]; omega
    exact ih
theorem mis_next {n : Nat} {s : Int} {i : Nat} (hi : i < n) (hb : s.toNat.testBit i = false) : misN n (nxtI s i) + 1 = misN n s := by
  unfold misN; refine filter_less List.nodup_range (List.mem_range.2 hi) (by rw [hb]; rfl) (by rw [nxt_bit]; simp) fun y hy => ?_; rw [nxt_bit, decide_eq_false (fun e => hy e.symm), Bool.or_false]
theorem mis_zero {n : Nat} : misN n 0 = n := by
  unfold misN; rw [List.filter_eq_self.2 fun k _ => by rw [zero_bit]; rfl]; simp
def mayB (g : Gat) (s : Int) (i : Nat) : Bool := !s.toNat.testBit i && permE g (nxtI s i) g.1.length
def moreL (g : Gat) (s : Int) : List (Int × Int) := ((List.range g.1.length).filter (mayB g s)).map fun i => (((i : Nat) : Int), nxtI s i)
theorem more_mem {g : Gat} {s : Int} {x : Int × Int} : x ∈ moreL g s ↔ ∃ i, i < g.1.length ∧ mayB g s i = true ∧ x = (((i : Nat) : Int), nxtI s i) := by
  unfold moreL; simp only [List.mem_map, List.mem_filter, List.mem_range]; constructor
  · rintro ⟨i, ⟨h1, h2⟩, rfl⟩; exact ⟨i, h1, h2, rfl⟩
  rintro ⟨i, h1, h2, rfl⟩; exact ⟨i, ⟨h1, h2⟩, rfl⟩
theorem may_2 {g : Gat} {s : Int} {i : Nat} (h : mayB g s i = true) : s.toNat.testBit i = false ∧ permE g (nxtI s i) g.1.length = true := by
  obtain ⟨h1, h2⟩ := band h; exact ⟨by simpa using h1, h2⟩
theorem more_ok {g : Gat} {s : Int} (h : SetOk g.1.length s) {x : Int × Int} (hx : x ∈ moreL g s) : SetOk g.1.length x.2 ∧ misN g.1.length x.2 + 1 = misN g.1.length s ∧ 0 ≤ x.1 ∧ x.1 < ((g.1.length : Nat) : Int) ∧ s < x.2 ∧ permE g x.2 g.1.length = true := by
  obtain ⟨i, hi, hm, rfl⟩ := more_mem.1 hx; obtain ⟨h1, h2⟩ := may_2 hm; exact ⟨nxt_ok h hi, mis_next hi h1, Int.natCast_nonneg _, by show ((i : Nat) : Int) < _; omega, nxt_lt h.lo h1, h2⟩
def moreD (g : Gat) (s : Int) (i : Nat) : List (Int × Int) := ((List.range' i (g.1.length - i)).filter (mayB g s)).map fun i => (((i : Nat) : Int), nxtI s i)
theorem moreD_0 {g : Gat} {s : Int} : moreL g s = moreD g s 0 := by
  unfold moreL moreD; rw [List.range_eq_range'] <;> rfl
theorem moreD_t {g : Gat} {s : Int} {i : Nat} (hi : i < g.1.length) (h : mayB g s i = true) : moreD g s i = (((i : Nat) : Int), nxtI s i) :: moreD g s (i + 1) := by
  unfold moreD; rw [show g.1.length - i = (g.1.length - (i + 1)) + 1 by omega, List.range'_succ, List.filter_cons, if_pos h] <;> rfl
theorem moreD_f {g : Gat} {s : Int} {i : Nat} (hi : i < g.1.length) (h : mayB g s i = false) : moreD g s i = moreD g s (i + 1) := by
  unfold moreD; rw [show g.1.length - i = (g.1.length - (i + 1)) + 1 by omega, List.range'_succ, List.filter_cons, if_neg (by rw [h]; decide)]
theorem moreD_end {g : Gat} {s : Int} {i : Nat} (hi : g.1.length ≤ i) : moreD g s i = [] := by
  unfold moreD; rw [show g.1.length - i = 0 by omega] <;> rfl
abbrev Dead := List (Int × Bool)
def deadB (m : Dead) (s : Int) : Bool := (mget m s).getD false
def goM (R : Int → Dead → Option (List Int) × Dead) : List (Int × Int) → Dead → Option (List Int) × Dead
  | [], m => (none, m)
  | x :: r, m => if deadB m x.2 = true then goM R r m else
    match (R x.2 m).1 with
    | some o => (some (x.1 :: o), (R x.2 m).2)
    | none => goM R r (R x.2 m).2
def ordM (g : Gat) : Nat → Int → Dead → Option (List Int) × Dead
  | 0, _, m => (some [], m)
  | f + 1, s, m => ((goM (ordM g f) (moreL g s) m).1, if (goM (ordM g f) (moreL g s) m).1.isSome = true then (goM (ordM g f) (moreL g s) m).2 else mset (goM (ordM g f) (moreL g s) m).2 s true)
def ordF (g : Gat) : Nat → Int → Option (List Int)
  | 0, _ => some []
  | f + 1, s => (moreL g s).findSome? fun x => (ordF g f x.2).map fun o => x.1 :: o
def ordN (g : Gat) (s : Int) : Option (List Int) := ordF g (misN g.1.length s) s
def DeadOk (g : Gat) (m : Dead) : Prop := ∀ s, deadB m s = true → ordN g s = none
theorem goM_ok {g : Gat} {f : Nat} {R : Int → Dead → Option (List Int) × Dead} (hR : ∀ s m, SetOk g.1.length s → misN g.1.length s = f → DeadOk g m → (R s m).1 = ordF g f s ∧ DeadOk g (R s m).2) : ∀ (r : List (Int × Int)) (m : Dead), (∀ x ∈ r, SetOk g.1.length x.2 ∧ misN g.1.length x.2 = f) → DeadOk g m →
    (goM R r m).1 = (r.findSome? fun x => (ordF g f x.2).map fun o => x.1 :: o) ∧ DeadOk g (goM R r m).2
  | [], m, _, hm => ⟨rfl, hm⟩
  | x :: r, m, hr, hm => by
    have hx := hr x List.mem_cons_self; have hr2 : ∀ y ∈ r, SetOk g.1.length y.2 ∧ misN g.1.length y.2 = f := fun y hy => hr y (List.mem_cons_of_mem _ hy); rw [List.findSome?_cons]; unfold goM; by_cases hd : deadB m x.2 = true
    · rw [if_pos hd]; have h1 := hm _ hd; unfold ordN at h1; rw [hx.2] at h1; rw [h1]; exact goM_ok hR r m hr2 hm
    rw [if_neg hd]; obtain ⟨h1, h2⟩ := hR x.2 m hx.1 hx.2 hm; rw [h1]
    cases ho : ordF g f x.2 with
    | some o => exact ⟨rfl, h2⟩
    | none => exact goM_ok hR r _ hr2 h2
theorem ordM_ok {g : Gat} : ∀ (f : Nat) (s : Int) (m : Dead), SetOk g.1.length s → misN g.1.length s = f → DeadOk g m → (ordM g f s m).1 = ordF g f s ∧ DeadOk g (ordM g f s m).2
  | 0, s, m, _, _, hm => ⟨rfl, hm⟩
  | f + 1, s, m, hs, hf, hm => by
    obtain ⟨h1, h2⟩ := goM_ok (fun s m a b c => ordM_ok f s m a b c) (moreL g s) m (fun x hx => by have := more_ok hs hx; exact ⟨this.1, by omega⟩) hm; refine ⟨h1, ?_⟩; show DeadOk g (if _ then _ else _); split
    · exact h2
    rename_i hn; intro t ht; unfold deadB at ht; rw [mget_mset] at ht; by_cases e : t = s
    · subst e; rw [h1] at hn; unfold ordN; rw [hf]; simpa [ordF] using hn
    rw [if_neg e] at ht; exact h2 t ht
theorem dead_nil {g : Gat} : DeadOk g [] := fun s hs => by cases hs
end Go.Proofs
namespace Go.Proofs
open Go.Fs
set_option maxHeartbeats 1000000
structure PlanOk (l : List Pha) : Prop where
  len : l.length ≤ 16
  dur : ∀ i, i < l.length → 0 ≤ (phA l i).2.1 ∧ (phA l i).2.1 ≤ (phA l i).2.2.1 ∧ (phA l i).2.2.1 ≤ 1000
  bef : ∀ i, i < l.length → ∀ k, k < (phA l i).2.2.2.length → 0 ≤ (phA l i).2.2.2.getD k 0 ∧ (phA l i).2.2.2.getD k 0 < ((i : Nat) : Int) ∧ ∀ j, j < k → (phA l i).2.2.2.getD j 0 < (phA l i).2.2.2.getD k 0
def begE (es b : List Int) : Nat → Int
  | 0 => 0
  | k + 1 => max (begE es b k) (es.getD (b.getD k 0).toNat 0)
def endL (d : Pha → Int) (l : List Pha) : Nat → List Int
  | 0 => []
  | i + 1 => endL d l i ++ [begE (endL d l i) (phA l i).2.2.2 (phA l i).2.2.2.length + d (phA l i)]
def begF (d : Pha → Int) (l : List Pha) (i : Nat) : Int := begE (endL d l i) (phA l i).2.2.2 (phA l i).2.2.2.length
def dE (long : Bool) (x : Pha) : Int := bif long then x.2.2.1 else x.2.1
def fillL (A : List Int) (n : Nat) : List Int := A ++ List.replicate (n - A.length) 0
theorem fill_get {A : List Int} {n p : Nat} (h : p < A.length) : (fillL A n).getD p 0 = A.getD p 0 := by
  unfold fillL; rw [List.getD_eq_getElem?_getD, List.getElem?_append_left h, ← List.getD_eq_getElem?_getD]
end Go.Proofs
namespace Go.Fs
variable {P : Program} {orc : FuncId → List Value → Heap → Option (Value × Heap)} {rnd : Option Nat} {h h' h0 h1 h2 hs : Heap} {S S' S0 B G : List Nat} {σ σ' : Sto} {t t' : Tr} {ms : List Nat} {fl : VL} {ops : Array Oper} {n i mem : Nat} {l : List Oper} {K : VL → Sto → Prop} {Q : Ex → VL → Sto → Prop}
  {d d1 d2 : Tmp} {ty ty1 ty2 : TypeId} {pos pos1 pos2 : String} {after after1 after2 : Array Edge} {op : Op} {v v1 : PV} {g g1 g2 : Option (Nat × Bool)} {bs nw : List Nat} {segs : List (Nat × Nat × Nat)} {tail so : Bool}
section
variable (P orc)
end
end Go.Fs
namespace Go.Fs
variable {P : Program} {orc : FuncId → List Value → Heap → Option (Value × Heap)} {rnd : Option Nat} {h h' h0 h1 h2 : Heap} {S S' S0 B G : List Nat} {σ σ' : Sto} {t t' : Tr} {ms : List Nat} {fl : VL} {ops : Array Oper} {n i mem : Nat} {l : List Oper} {K : VL → Sto → Prop} {Q : Ex → VL → Sto → Prop}
  {d : Tmp} {ty : TypeId} {pos : String} {after : Array Edge} {op : Op} {v pv : PV} {g : Option (Nat × Bool)} {bs nw : List Nat} {segs : List (Nat × Nat × Nat)} {so : Bool}
end Go.Fs
namespace Go.Fs
variable {P : Program} {orc : FuncId → List Value → Heap → Option (Value × Heap)} {rnd : Option Nat} {h h' h0 h1 h2 : Heap} {S S' S0 B G : List Nat} {σ σ' σr : Sto} {t t' : Tr} {ms : List Nat} {fl : VL} {ops : Array Oper} {n i mem : Nat} {l : List Oper} {K : VL → Sto → Prop} {Q : Ex → VL → Sto → Prop}
  {d : Tmp} {ty : TypeId} {pos : String} {after : Array Edge} {op : Op} {v pv : PV} {g : Option (Nat × Bool)} {x y z : Operand} {T T' e e' : TypeId} {τ τ' : Ty} {w w' : Value} {c c' : Cell}
def matS (e : TypeId) (τ : Ty) (us : List Value) (xss : List (List τ.den)) : Sto := (us.zip xss).map fun p => (p.1, .row e τ p.2)
theorem matS_cons {u : Value} {us : List Value} {xs : List τ.den} {xss : List (List τ.den)} : matS e τ (u :: us) (xs :: xss) = (u, .row e τ xs) :: matS e τ us xss := rfl
theorem matS_perm {us : List Value} {xss : List (List τ.den)} {j : Nat} (hj : j < us.length) (hj2 : j < xss.length) : (matS e τ us xss).Perm ((us[j], .row e τ xss[j]) :: matS e τ (us.eraseIdx j) (xss.eraseIdx j)) := by
  induction us generalizing xss j with
  | nil => simp at hj
  | cons u us ih =>
    cases xss with
    | nil => simp at hj2
    | cons xs xss =>
      cases j with
      | zero => exact .refl _
      | succ j =>
        have := ih (xss := xss) (j := j) (by simpa using hj) (by simpa using hj2); exact (List.Perm.cons _ this).trans (.swap _ _ _)
theorem matS_set {us : List Value} {xss : List (List τ.den)} {j : Nat} {u : Value} {xs : List τ.den} (hj : j < us.length) (hj2 : j < xss.length) : ((u, .row e τ xs) :: matS e τ (us.eraseIdx j) (xss.eraseIdx j)).Perm (matS e τ (us.set j u) (xss.set j xs)) := by
  have := matS_perm (e := e) (τ := τ) (us := us.set j u) (xss := xss.set j xs) (j := j) (by simpa using hj) (by simpa using hj2); rw [List.getElem_set_self, List.getElem_set_self, List.eraseIdx_set_eq, List.eraseIdx_set_eq] at this; exact this.symm
theorem CalmV.ixC {cs : List PV} {m j : Nat} (hx : evV fl x = some (.raw w)) (hy : evV fl y = some (.v (.int .i64) ((j : Nat) : Int))) (hm : (w, Cell.cel e m cs) ∈ σ) (hT : ElT P T e (.sl τ)) (hj : j < m) : CalmV P fl σ (.indexAddr T x y) (.raw (ptrAt w 1 j)) :=
  ⟨rfl, fun h S t hs hc => by
    have h1 : evalO t x = w := hs x (by simp [Op.operands]) _ hx; have h2 := RepV.int (hs y (by simp [Op.operands]) _ hy); refine ⟨_, rfl, fun _ _ _ _ _ H => ?_⟩; show (if af (evalO t y) then (runPure P (Instr.indexAt T (evalO t x) (evalO t y))).map fun v => (v, H) else none) = _; rcases hc _ hm with ⟨_, h3, _⟩ | ⟨b, rs, mm, h3, h4, h5, h6⟩
    · omega
    rw [h1, h2, show w = _ from h3]; obtain ⟨i, z, hinf, hsz, _⟩ := hT.sl.info; have hsz : i.size = 1 := hsz
    have : runPure P (Instr.indexAt T (.slice (some ⟨b, 0, none⟩) m 0) (.int .i64 (j : Nat))) = some (ptrAt (.slice (some ⟨b, 0, none⟩) m 0) 1 j) := by
      unfold Instr.indexAt
      have h7 : (0 : Int) ≤ (j : Int) ∧ (j : Int) < (m : Nat) := by omega
      simp only [runPure_bind, asIntOf, runPure_pure, Option.bind_some, runPure_underlying hT.sl.sl, if_pos h7, runPure_sizeOf hinf, hsz, add_none, Int.toNat_natCast, ptrAt]
    rw [this]; rfl⟩
theorem ReadV.ldC {cs : List PV} {m j : Nat} (hx : evV fl x = some (.raw (ptrAt w 1 j))) (hm : (w, Cell.cel T m cs) ∈ σ) (hT : ValT P T (.sl τ)) (hj : cs[j]? = some v) (hjm : j < m) : ReadV P fl σ (.load T x) v :=
  ⟨rfl, fun h S t hs hc => by
    have h1 : evalO t x = ptrAt w 1 j := hs x (by simp [Op.operands]) _ hx; rcases hc _ hm with ⟨_, h3, _⟩ | ⟨b, rs, mm, h3, h4, h5, h6, h7⟩
    · omega
    obtain ⟨u, h8, h9⟩ := h6.get hj; obtain ⟨i, hi, hs2⟩ := hT.info; obtain ⟨d, hd, hag⟩ := hT.agg; have hag : isAggD d = false := hag; refine ⟨u, h9, fun H hH _ _ _ _ _ => ?_⟩; show (fsLoad P T (evalO t x) H).map _ = _; have h10 := hH b _ h5; rw [h1, show w = _ from h3]; simp only [fsLoad, ptrAt, h10, hd, hi, hag, Nat.zero_add, Nat.mul_one, h8]
    rfl⟩
theorem coL_mat : ∀ {us : List Value} {xss : List (List τ.den)}, us.length = xss.length → (∀ p ∈ us.zip xss, (p.1, Cell.row e τ p.2) ∈ σ) → CoL σ (us.map .raw) (xss.flatMap (cellsPV (.sl τ)))
  | [], [], _, _ => .nil
  | u :: us, xs :: xss, hl, hm => .cons (.row (hm (u, xs) List.mem_cons_self)) (coL_mat (by simpa using hl) fun p hp => hm p (List.mem_cons_of_mem _ hp))
  | [], _ :: _, hl, _ => by simp at hl
  | _ :: _, [], hl, _ => by simp at hl
theorem matS_mem {us : List Value} {xss : List (List τ.den)} {p : Value × List τ.den} (hp : p ∈ us.zip xss) : (p.1, Cell.row e τ p.2) ∈ matS e τ us xss := List.mem_map_of_mem hp
end Go.Fs
namespace Go.Fs
variable {P : Program} {orc : FuncId → List Value → Heap → Option (Value × Heap)} {τ : Ty}
end Go.Fs
namespace Go.Fs
variable {P : Program} {fl : VL} {σ γ : Sto} {Q : PV → Sto → Prop} {fn : Func} {τ : Ty}
end Go.Fs
namespace Go.Fs
variable {P : Program} {fl : VL} {σ γ : Sto} {Q : PV → Sto → Prop} {fn : Func}
theorem VEndG.two {r r' : ResultVar} {p q : PV} (hr : fn.results = #[r, r']) (h1 : EndV P fl [] r p) (h2 : EndV P fl [] r' q) (hQ : Q (.tup [p, q]) σ) (ho : own σ = own γ) (hf : (σ.all fun c => c.2.flat) = true) : VEndG P fn γ Q .ret fl σ :=
  ⟨rfl, [p, q], by rw [hr]; exact .cons h1 (.cons h2 .nil), hQ, .inr (.inl ⟨ho, fun c hc => List.all_eq_true.1 hf c hc⟩)⟩
theorem mp_end {w : Value} {κ ν τ τ' : Ty} {m m' : List (κ.den × ν.den)} {x x' : τ.den} {y y' : τ'.den} (h1 : x = x') (h2 : y = y') (h3 : m = m') : PV.tup [.v τ x, .v τ' y] = PV.tup [.v τ x', .v τ' y'] ∧ [(w, Cell.mp κ ν m)] = [(w, Cell.mp κ ν m')] := by
  subst h1 h2 h3; exact ⟨rfl, rfl⟩
end Go.Fs
namespace Go.Fs
variable {P : Program} {orc : FuncId → List Value → Heap → Option (Value × Heap)} {rnd : Option Nat} {h h' h0 h1 h2 : Heap} {S S' S0 B G : List Nat} {σ σ' : Sto} {t t' : Tr} {ms : List Nat} {fl : VL} {ops : Array Oper} {n : Nat} {l : List Oper} {K : VL → Sto → Prop} {Q : Ex → VL → Sto → Prop}
  {d : Tmp} {ty : TypeId} {pos : String} {after : Array Edge} {op : Op} {v : PV} {g : Option (Nat × Bool)}
end Go.Fs
namespace Go.Fs
variable {P : Program} {fl : VL} {σ : Sto} {T : TypeId} {τ : Ty} {h : Heap} {S : List Nat}
inductive PartP : PV → List PV → Prop where
  | v {τ : Ty} {x : τ.den} : PartP (.v τ x) (cellsPV τ x)
  | w {w : Value} (ho : oneCell w = true) : PartP (.raw w) [.raw w]
theorem one_cells {w : Value} (ho : oneCell w = true) : w.cells.toList = [w] := by
  cases w with
  | agg cs => cases ho
  | _ => rfl
theorem PartP.ok {p : PV} {qs : List PV} {u : Value} (hp : PartP p qs) (hu : RepPV h S p u) : RepL h S qs u.cells.toList ∧ u.cells.toList.all oneCell = true ∧ u.cells.toList.length = qs.length := by
  cases hp with
  | v => 
    have hv : RepV h S _ u _ := hu; have h1 := cells_repC hv.2
    exact ⟨h1, hv.2.allOne, h1.len⟩
  | w ho =>
    obtain rfl : u = _ := hu; rw [one_cells ho]; exact ⟨⟨_, [], rfl, rfl, rfl⟩, by rw [List.all_cons, ho]; rfl, rfl⟩
inductive BldR (pl : List (Nat × Nat)) : List PV → List Nat → List PV → List PV → Prop where
  | nil {L L' : List PV} (h : L = L') : BldR pl L [] [] L'
  | cons {L L' : List PV} {i o : Nat} {is : List Nat} {p : PV} {ps qs : List PV} (hp : PartP p qs) (hpl : pl[i]? = some (o, qs.length)) (ho : Nat.ble (o + qs.length) L.length = true) (r : BldR pl (spl L o qs) is ps L') : BldR pl L (i :: is) (p :: ps) L'
theorem BldR.fill {pl : List (Nat × Nat)} : ∀ {is : List Nat} {ps : List PV} {us : List Value} {L L' : List PV} {cs : List Value}, BldR pl L is ps L' → RepL h S ps us → RepL h S L cs → cs.all oneCell = true →
    ∃ cs', Instr.fill (pl[·]?) cs.toArray (is.zip us) = some cs'.toArray ∧ RepL h S L' cs' ∧ us.all (fun u => u.cells.toList.all oneCell) = true ∧ is.length = us.length
  | [], [], us, L, L', cs, .nil e, hp, hL, ho => by
    obtain rfl : us = [] := hp; subst e
    exact ⟨cs, rfl, hL, rfl, rfl⟩
  | i :: is, p :: ps, us, L, L', cs, .cons (o := o) (qs := qs) hp hpl hle0 hr, ⟨u, r, h1, h2, h3⟩, hL, ho => by
    subst h1; have hlen := hL.len; have hle := nble hle0; obtain ⟨g1, g2, hul⟩ := hp.ok h2
    have hus : u.cells.size = qs.length := by simpa using hul
    obtain ⟨cs', f1, f2, f3, f4⟩ := BldR.fill hr h3 (hL.spl o g1) (allOne_spl o ho g2); refine ⟨cs', ?_, f2, by rw [List.all_cons, g2, f3]; rfl, by simp [f4]⟩; simp only [List.zip_cons_cons, Instr.fill, hpl]
    have h9 : (u.cells.size ≠ qs.length || o + u.cells.size > cs.toArray.size) = false := by simp [hus]; omega
    rw [h9]; simp only [Bool.false_eq_true, if_false]
    have hsp : u.cells.zipIdx.foldl (fun (cs : Array Value) (p : Value × Nat) => cs.setIfInBounds (o + p.2) p.1) cs.toArray = (splice cs o u.cells.toList).toArray := by
      have e0 : cs = cs.take o ++ ((cs.drop o).take qs.length) ++ cs.drop (o + qs.length) := by
        rw [← List.drop_drop, List.append_assoc, List.take_append_drop, List.take_append_drop]
      have := fill_at qs.length o u (cs.take o) ((cs.drop o).take qs.length) (cs.drop (o + qs.length)) (by rw [List.length_take]; omega) (by rw [List.length_take, List.length_drop]; omega) hus; rw [← e0] at this; rw [this]; unfold splice; rw [hul]
    rw [hsp]; exact f1
theorem CalmV.buildR {pl : List (Nat × Nat)} {parts : Array (Nat × Operand)} {zs : List Value} {ps cs : List PV} (hT : BldT P T τ pl) (hz : zeroC τ = zs) (hps : evVs fl (parts.toList.map (·.2)) = some ps) (hb : BldR pl (zs.map .raw) (parts.toList.map (·.1)) ps cs) : CalmV P fl σ (.build T parts) (.agg cs) :=
  ⟨rfl, fun h S t hs _ => by
    obtain ⟨z, z1, z2, z3⟩ := hT.zer.zero; obtain ⟨y1, y2⟩ := zero_rep h S τ; have hr : RepL h S ps ((parts.toList.map (·.2)).map (evalO t)) := sees_list (fun x hx => hs x (by simpa [Op.operands] using hx)) hps; obtain ⟨cs', f1, f2, f3, f4⟩ := hb.fill hr (show RepL h S (zs.map .raw) (zeroC τ) from by rw [hz]; exact repL_raw zs) (af0_one y2); refine ⟨.agg cs'.toArray, ⟨cs', rfl, f2⟩, fun _ _ _ _ _ H => ?_⟩; show (bif (parts.toList.all fun p => (evalO t p.2).cells.toList.all oneCell) && ((((P.info? T).bind (·.zero)).map fun z => z.cells.toList.all af0) == some true) then (runPure P (Instr.build T (parts.map fun p => (p.1, evalO t p.2)))).map fun v => (v, H) else none) = _
    have c1 : (parts.toList.all fun p => (evalO t p.2).cells.toList.all oneCell) = true := by
      rw [List.map_map, List.all_map] at f3; exact f3
    have c2 : ((((P.info? T).bind (·.zero)).map fun z => z.cells.toList.all af0) == some true) = true := by
      rw [z1]
      have e : z.cells.toList.all af0 = true := by rw [z2]; exact y2
      simp only [Option.map_some, e]; rfl
    have hrun := hT.run z (parts.map fun p => (p.1, evalO t p.2)) cs'.toArray z1 (by
      rw [← f1, Array.toList_map, ← zip_map, List.map_map]; congr 1
      rw [← z2])
    rw [c1, c2, hrun]
    rfl⟩
theorem allC {p : PV} {l : List PV} (h : p.one = true) (r : l.all PV.one = true) : (p :: l).all PV.one = true := by rw [List.all_cons, h, r]; rfl
end Go.Fs
namespace Go.Fs
variable {P : Program} {fl : VL} {σ : Sto} {T T' : TypeId} {x y : Operand} {p q : Int}
end Go.Fs
namespace Go.Fs
variable {P : Program} {orc : FuncId → List Value → Heap → Option (Value × Heap)} {h : Heap} {σ ρ : Sto} {fl : VL} {ops : Array Oper} {n i mem : Nat} {l : List Oper} {K : VL → Sto → Prop} {nw bs : List Nat} {tl : Bool} {hr : Heap} {S0 A : List Nat} {t : Tr} {rd chg : List Nat}
end Go.Fs
namespace Go.Fs
variable {P : Program} {orc : FuncId → List Value → Heap → Option (Value × Heap)} {rnd : Option Nat} {h h' h0 h1 h2 : Heap} {S S' S0 B G : List Nat} {σ σ' : Sto} {t t' : Tr} {ms : List Nat} {fl : VL} {ops : Array Oper} {n i mem : Nat} {l : List Oper} {K : VL → Sto → Prop} {Q : Ex → VL → Sto → Prop}
  {d : Tmp} {ty : TypeId} {pos : String} {after : Array Edge} {op : Op} {v pv : PV} {g : Option (Nat × Bool)} {bs nw : List Nat} {segs : List (Nat × Nat × Nat)} {so : Bool} {mk : Nat} {nw0 : List Nat}
section
variable (P orc)
end
end Go.Fs
namespace Go.Proofs
open Go.Fs
set_option maxHeartbeats 1000000
abbrev y109 : Ty := (.mp (.int .i64) .bool)
theorem vt4CH : ValT Tryz.prog 4 .bool := valT_of (by kernel_rfl)
theorem vt109 : ValT Tryz.prog 109 y109 := valT_of (by kernel_rfl)
theorem zt25CH : ZerT Tryz.prog 25 y25 := zerT_of (z := .slice none 0 0) (by kernel_rfl) rfl rfl
theorem mt109CH : MapT Tryz.prog 109 (.int .i64) .bool := ⟨3, 4, by kernel_rfl, keyInt (by kernel_rfl), zt4⟩
theorem cMore1_ok {g : (List Int) × (List Int) × (List (List Int))} {s : Int} (hg : gatesE g = 0) (hs : SetOk g.1.length s) : IterC Tryz.prog OA 156 [] [.p y92 g, .p (.int .i64) s] (fun x : Int × Int => [I x.1, I x.2]) (moreL g s) := by
  refine IterC.enter Tryz.func156 rfl rfl (fun _ => rfl) fun yv II EE γ hy hI => ?_; show VC _ _ _ _ _ [(0, .raw yv), (1, .p y92 g), (2, .p (.int .i64) s)] γ _; refine VC.seq (VC.text ?_); have hd := head_ok (gates_ok hg).1; refine VO.c (.fa (.l .o)) ?_; refine VO.r (.ld vt25) ?_; refine VO.r (.len el25) ?_; refine VO.c (.move rfl) ?_; refine VO.go (VC.block ?_); refine VC.keep [(0, .raw yv), (1, .p y92 g), (2, .p (.int .i64) s), (8, I ((g.1.length : Nat) : Int)), (9, I ((0 : Nat) : Int))] ⟨rfl, rfl, rfl, rfl, rfl, trivial⟩ ?_; refine VC.loop (I := fun kk ff ss => ∃ (i : Nat), kk = g.1.length - i ∧ ff = [(0, .raw yv), (1, .p y92 g), (2, .p (.int .i64) s), (8, I ((g.1.length : Nat) : Int)), (9, I ((i : Nat) : Int))] ∧ (i ≤ g.1.length) ∧ II (moreD g s i) ss) ?_ _ _ _ ⟨0, rfl, rfl, Nat.zero_le _, (by rw [← moreD_0]; exact hI)⟩; rintro kk ff ss ⟨i, hk0, rfl, hi, hI⟩; refine VC.seq (VC.text ?_); refine VO.c (.lss) ?_; refine VO.go (VC.seq ?_); refine VC.condD rfl (fun c1 => ?_) (fun c1 => ?_)
  · have hlt : i < g.1.length := by omega
    have hbit := hasI_bit (s := s) (i := i) hs.lo (Nat.lt_trans hs.big (by decide)); have hp9 := pow9 (n := i) (by omega); refine VC.skip (VC.seq (VC.block (VC.seq (VC.text ?_)))); refine VO.c (.move rfl) (VO.c (.assign rfl) ?_); refine VO.go (VC.seq (VC.drawn ?_)); refine VD.r [] (.ld vt3) (.inl rfl) ?_; refine VD.c (.move rfl) (VD.c (.shl rfl rfl (by omega) (by omega)) (VD.c ((.orI rfl rfl)) ?_)); rw [orI_nxt hs (show i ≤ 9 by omega)]; refine VD.c (.assign rfl) ?_; refine VD.go (VC.seq (VC.text ?_)); refine VO.r (.ld vt3) ?_; refine VO.c (.move rfl) ?_; refine VO.call rfl rfl (VF.call (cHas_ok (by first | assumption | omega | simp))) ?_; refine VO.c (.not) (VO.c (.move rfl) ?_); refine VO.splitB (x := 20) rfl (fun g4_4 => ?_) (fun g4_4 => ?_)
    · try simp only [Bool.and_eq_true, Bool.or_eq_true, Bool.and_eq_false_iff, Bool.or_eq_false_iff, Bool.not_eq_true', Bool.not_eq_false', decide_eq_true_eq, decide_eq_false_iff_not] at g4_4
      refine VO.r (.ld vt92) ?_; refine VO.c (.move rfl) ?_; refine VO.call rfl rfl (VF.call (cPerm_ok (by first | assumption | omega | simp))) ?_; refine VO.c (.pickT rfl rfl) (VO.c (.move rfl) ?_); refine VO.splitB (x := 25) rfl (fun g4_9 => ?_) (fun g4_9 => ?_)
      · have hmt : mayB g s i = true := by unfold mayB; rw [← hbit, g4_4, g4_9] <;> rfl
        refine VO.c (.move rfl) (VO.c (.move rfl) (VO.c (.move rfl) ?_)); refine VO.callY0 rfl rfl (hy (((i : Nat) : Int), nxtI s i) (moreD g s (i + 1)) _ (by rw [moreD_t hlt hmt] at hI; exact hI)) ?_; rintro _ ss (⟨rfl, hI⟩ | ⟨rfl, hE⟩)
        · refine VO.c (.not) (VO.c (.pickT rfl rfl) (VO.go ?_)); refine VC.condF rfl ?_; refine VC.skip (VC.text ?_); refine VO.c (.add rfl rfl (by omega)) (VO.c (.move rfl) ?_); refine VO.nil ?_; refine ⟨_, [(0, .raw yv), (1, .p y92 g), (2, .p (.int .i64) s), (8, I ((g.1.length : Nat) : Int)), (9, I (((i + 1) : Nat) : Int))], ?_, ⟨rfl, rfl, rfl, rfl, rfl, trivial⟩, (i + 1), rfl, rfl, (by omega), (by first | exact hI | (rw [moreD_f hlt hmf] at hI; exact hI))⟩; omega
        refine VO.c (.not) (VO.c (.pickT rfl rfl) (VO.go ?_)); refine VC.condT rfl ?_; refine VC.ret ?_; exact ⟨rfl, .inr hE⟩
      have hmf : mayB g s i = false := by unfold mayB; rw [g4_9, Bool.and_false]
      refine VO.skip (VO.skip (VO.skip (VO.skip ?_))); refine VO.skip (VO.c (.pickF rfl rfl) (VO.go ?_)); refine VC.condF rfl ?_; refine VC.skip (VC.text ?_); refine VO.c (.add rfl rfl (by omega)) (VO.c (.move rfl) ?_); refine VO.nil ?_; refine ⟨_, [(0, .raw yv), (1, .p y92 g), (2, .p (.int .i64) s), (8, I ((g.1.length : Nat) : Int)), (9, I (((i + 1) : Nat) : Int))], ?_, ⟨rfl, rfl, rfl, rfl, rfl, trivial⟩, (i + 1), rfl, rfl, (by omega), (by first | exact hI | (rw [moreD_f hlt hmf] at hI; exact hI))⟩; omega
    try simp only [Bool.and_eq_true, Bool.or_eq_true, Bool.and_eq_false_iff, Bool.or_eq_false_iff, Bool.not_eq_true', Bool.not_eq_false', decide_eq_true_eq, decide_eq_false_iff_not] at g4_4
    have hmf : mayB g s i = false := by unfold mayB; rw [← hbit, g4_4] <;> rfl
    refine VO.skip (VO.skip (VO.skip (VO.c (.pickF rfl rfl) ?_))); refine VO.c (.move rfl) (VO.skip (VO.skip (VO.skip ?_))); refine VO.skip (VO.skip (VO.c (.pickF rfl rfl) (VO.go ?_))); refine VC.condF rfl ?_; refine VC.skip (VC.text ?_); refine VO.c (.add rfl rfl (by omega)) (VO.c (.move rfl) ?_); refine VO.nil ?_; refine ⟨_, [(0, .raw yv), (1, .p y92 g), (2, .p (.int .i64) s), (8, I ((g.1.length : Nat) : Int)), (9, I (((i + 1) : Nat) : Int))], ?_, ⟨rfl, rfl, rfl, rfl, rfl, trivial⟩, (i + 1), rfl, rfl, (by omega), (by first | exact hI | (rw [moreD_f hlt hmf] at hI; exact hI))⟩; omega
  refine VC.exit ?_; exact ⟨rfl, .inl (by rw [moreD_end (by omega)] at hI; exact hI)⟩
theorem cMore_ok {g : (List Int) × (List Int) × (List (List Int))} {s : Int} : VF Tryz.prog OA 137 [.v y92 g, I s] (.clo 156 [] [.p y92 g, .p (.int .i64) s]) := by
  refine VF.enter Tryz.func137 rfl (fun _ _ => rfl) rfl ?_; show VC _ _ _ _ _ [(0, .v y92 g), (1, I s)] [] _; refine VC.seq (VC.text ?_); refine VO.new (.box) ?_; refine VO.new (.box) ?_; refine VO.c (.assign rfl) ?_; refine VO.go (VC.seq (VC.text ?_)); refine VO.c (.func) (VO.c (.assign rfl) (VO.go ?_)); refine VC.ret ?_; exact VEnd.one rfl evT rfl
theorem goM_dead {R : Int → Dead → Option (List Int) × Dead} {x : Int × Int} {r : List (Int × Int)} {m : Dead} (h : (mget m x.2).getD false = true) : goM R (x :: r) m = goM R r m := if_pos h
theorem goM_some {R : Int → Dead → Option (List Int) × Dead} {x : Int × Int} {r : List (Int × Int)} {m : Dead} (h : (mget m x.2).getD false = false) (h2 : (R x.2 m).1.isSome = true) : goM R (x :: r) m = (some (x.1 :: (R x.2 m).1.getD []), (R x.2 m).2) := by
  unfold goM; rw [if_neg (by unfold deadB; rw [h]; decide)]
  cases ho : (R x.2 m).1 with
  | none => rw [ho] at h2; cases h2
  | some o => rfl
theorem goM_none {R : Int → Dead → Option (List Int) × Dead} {x : Int × Int} {r : List (Int × Int)} {m : Dead} (h : (mget m x.2).getD false = false) (h2 : (R x.2 m).1.isSome = false) : goM R (x :: r) m = goM R r (R x.2 m).2 := by
  show (if _ then _ else _) = _; rw [if_neg (by unfold deadB; rw [h]; decide)]
  cases ho : (R x.2 m).1 with
  | none => rfl
  | some o => rw [ho] at h2; cases h2
def nxM (R : Int → Dead → Option (List Int) × Dead) (m : Dead) (x : Int × Int) : Dead := if deadB m x.2 = true then m else (R x.2 m).2
theorem goM_len {R : Int → Dead → Option (List Int) × Dead} {f : Nat} (hR : ∀ s m, ((R s m).1.getD []).length ≤ f) : ∀ (r : List (Int × Int)) (m : Dead), ((goM R r m).1.getD []).length ≤ f + 1
  | [], m => Nat.zero_le _
  | x :: r, m => by
    unfold goM; split
    · exact goM_len hR r m
    have h1 := hR x.2 m
    cases ho : (R x.2 m).1 with
    | some o => rw [ho] at h1; exact Nat.succ_le_succ h1
    | none => exact goM_len hR r _
theorem ordM_len {g : Gat} : ∀ (f : Nat) (s : Int) (m : Dead), ((ordM g f s m).1.getD []).length ≤ f
  | 0, s, m => Nat.le_refl _
  | f + 1, s, m => goM_len (fun s m => ordM_len f s m) _ _
theorem mis_le {n : Nat} {s : Int} : misN n s ≤ n := by
  unfold misN; exact Nat.le_trans (List.length_filter_le _ _) (by simp)
theorem cOrdS_ok {f : Nat} {g : (List Int) × (List Int) × (List (List Int))} {s : Int} {w_dead : Value} {dead : List (Int × Bool)} (hg : gatesE g = 0) (hs : SetOk g.1.length s) (hf : misN g.1.length s = f) (ih : ∀ {s' : Int} {m' : Dead} {w' : Value} {f' : Nat}, f' < f → SetOk g.1.length s' → misN g.1.length s' = f' → VFG Tryz.prog OA 135 [.v y92 g, I s', .raw w'] [(w', .mp (.int .i64) .bool m')] (fun r g' => r = .tup [.v y25 ((ordM g f' s' m').1.getD []), B ((ordM g f' s' m').1.isSome)] ∧ g' = [(w', .mp (.int .i64) .bool (ordM g f' s' m').2)])) : VFG Tryz.prog OA 135 [.v y92 g, I s, .raw w_dead] [(w_dead, .mp (.int .i64) .bool dead)] (fun rr gg => rr = .tup [.v y25 ((ordM g f s dead).1.getD []), B ((ordM g f s dead).1.isSome)] ∧ gg = [(w_dead, .mp (.int .i64) .bool ((ordM g f s dead).2))]) := by
  refine VFG.enter Tryz.func135 rfl (fun _ _ => rfl) rfl ?_; show VC _ _ _ _ _ [(0, .v y92 g), (1, I s), (2, .raw w_dead)] [(w_dead, .mp (.int .i64) .bool dead)] _; refine VC.seq (VC.text ?_); have hd := head_ok (gates_ok hg).1; have hp9 := pow9 (n := g.1.length) (by omega); refine VO.new (.box) ?_; refine VO.oneM m0 fun ho1 => ?_; refine VO.cell (.box (τ := y109) (.raw rfl (agg_one ho1) ho1)) ?_; intro ww2; refine VO.c (.assign rfl) (VO.c (.assign rfl) (VO.go ?_)); refine VC.scope ?_; refine VC.seq (VC.seq (VC.text ?_)); refine VO.c (.move rfl) (VO.c (.fa (.l .o)) ?_); refine VO.r (.ld vt25) ?_; refine VO.r (.len el25) ?_; refine VO.c (.shl rfl rfl (by omega) (by omega)) (VO.c (.sub rfl rfl (by omega)) (VO.c (.eql) (VO.go ?_))); refine VC.condD rfl (fun c1 => ?_) (fun c1 => ?_)
  · have h0 : f = 0 := by rw [← hf]; exact (mis_full hs).2 (c1.trans ful_eq)
    refine VC.seq (VC.text ?_); refine VO.c (.assign rfl) (VO.c (.assign rfl) (VO.go ?_)); refine VC.shutL [(ww2, .var [.raw w_dead])] [] rfl .nil ?_; refine VC.ret ?_; exact VEndG.two (P := Tryz.prog) (fn := Tryz.f135) (γ := [(w_dead, .mp (.int .i64) .bool dead)]) (Q := fun rr gg => rr = .tup [.v y25 ((ordM g f s dead).1.getD []), B ((ordM g f s dead).1.isSome)] ∧ gg = [(w_dead, .mp (.int .i64) .bool ((ordM g f s dead).2))]) rfl (evC .nil) evT (mp_end (by rw [h0]; rfl) (by rw [h0]; rfl) (by rw [h0] <;> rfl)) rfl rfl
  obtain ⟨f0, hf0⟩ : ∃ f0, f = f0 + 1 := ⟨f - 1, by have : f ≠ 0 := fun e => c1 (((mis_full hs).1 (hf.trans e)).trans ful_eq.symm); omega⟩
  have hoM : ordM g f s dead = ((goM (ordM g f0) (moreL g s) dead).1, if (goM (ordM g f0) (moreL g s) dead).1.isSome = true then (goM (ordM g f0) (moreL g s) dead).2 else mset (goM (ordM g f0) (moreL g s) dead).2 s true) := by rw [hf0] <;> rfl
  refine VC.skip (VC.seq (VC.text ?_)); refine VO.cell (.alloc zt25CH) ?_; intro ww3; refine VO.go (VC.seq (VC.text ?_)); refine VO.cell (.alloc zt4) ?_; intro ww4; refine VO.setV (cs' := [B false]) vt4CH .v ?_; refine VO.go (VC.seq ?_); refine VC.label ?_; refine VC.seq (VC.seq (VC.text ?_)); refine VO.r (.ld vt92) ?_; refine VO.c (.move rfl) ?_; refine VO.call rfl rfl (VF.call (cMore_ok )) ?_; refine VO.go (VC.block ?_); refine VC.keep [(1, I s), (3, .p y92 g), (5, .raw ww2), (8, .raw ww3), (9, .raw ww4), (23, .clo 156 [] [.p y92 g, .p (.int .i64) s])] ⟨rfl, rfl, rfl, rfl, rfl, rfl, trivial⟩ ?_; refine VC.rangeFunc rfl (cMore1_ok hg hs) (fun _ => rfl) rfl rfl (fun rest ss => ∃ (ma : Dead), ss = [(ww4, .var [B false]), (ww3, .var [.v y25 []]), (ww2, .var [.raw w_dead]), (w_dead, .mp (.int .i64) .bool ma)] ∧ (goM (ordM g f0) (moreL g s) dead = goM (ordM g f0) rest ma) ∧ (∀ y ∈ rest, y ∈ moreL g s)) (fun ee ss => (ee = .exit 0 ∧ ∃ (o : List Int), ∃ (mz : Dead), ss = [(ww4, .var [B true]), (ww3, .var [.v y25 o]), (ww2, .var [.raw w_dead]), (w_dead, .mp (.int .i64) .bool mz)] ∧ (goM (ordM g f0) (moreL g s) dead = (some o, mz)))) ⟨dead, rfl, (by rfl), (by exact fun y hy => hy)⟩ ?_ ?_ ?_
  · rintro jj x rest _ ⟨ma, rfl, hq, hsub⟩; show VC _ _ _ _ _ [(25, I x.2), (24, I x.1), (1, I s), (3, .p y92 g), (5, .raw ww2), (8, .raw ww3), (9, .raw ww4), (23, .clo 156 [] [.p y92 g, .p (.int .i64) s])] [(ww4, .var [B false]), (ww3, .var [.v y25 []]), (ww2, .var [.raw w_dead]), (w_dead, .mp (.int .i64) .bool ma)] _; refine VC.seq (VC.text ?_); have hxo := more_ok hs (hsub x List.mem_cons_self); refine VO.c (.assign rfl) ?_; refine VO.go (VC.text ?_); refine VO.c (.assign rfl) ?_; refine VO.nil ?_; refine ⟨rfl, ?_⟩; refine VC.block (VC.seq (VC.seq (VC.text ?_))); refine VO.r (.ldV m2 vt109) ?_; refine VO.c (.move rfl) ?_; refine VO.r (.lookO mt109CH m3) ?_; refine VO.go ?_; refine VC.condB rfl (fun c8 => ?_) (fun c8 => ?_)
    · have c8 : (mget ma x.2).getD false = true := c8; have hnm : nxM (ordM g f0) ma x = ma := if_pos c8
      have hnx : goM (ordM g f0) (x :: rest) ma = goM (ordM g f0) rest (nxM (ordM g f0) ma x) := by rw [hnm]; exact goM_dead c8
      refine VC.exit ?_; exact .inl ⟨rfl, nxM (ordM g f0) ma x, (by rw [hnm]), (by rw [hq, hnx]), (by exact fun y hy => hsub y (List.mem_cons_of_mem _ hy))⟩
    have c8 : (mget ma x.2).getD false = false := c8; have hol := ordM_len (g := g) f0 x.2 ma; have hmn := mis_le (n := g.1.length) (s := s); refine VC.skip (VC.seq (VC.text ?_)); refine VO.r (.ld vt92) ?_; refine VO.c (.move rfl) ?_; refine VO.r (.ldV m2 vt109) ?_; refine VO.perm swap3 ?_; refine VO.callG [(w_dead, .mp (.int .i64) .bool ma)] rfl rfl rfl (VFG.call (ih (s' := x.2) (m' := ma) (f' := f0) (by omega) hxo.1 (by omega))) ?_; rintro _ _ ⟨rfl, rfl⟩; show VO _ _ _ _ _ _ [(w_dead, .mp (.int .i64) .bool ((ordM g f0 x.2 ma).2)), (ww4, .var [B false]), (ww3, .var [.v y25 []]), (ww2, .var [.raw w_dead])] _; refine VO.c (.move rfl) (VO.c (.extract) (VO.c (.extract) (VO.c (.assign rfl) ?_))); refine VO.c (.assign rfl) ?_; refine VO.go (VC.seq (VC.text ?_)); refine VO.c (.move rfl) (VO.go ?_); refine VC.condB rfl (fun c10 => ?_) (fun c10 => ?_)
    · refine VC.seq ?_; refine VC.keep [(8, .raw ww3), (9, .raw ww4), (10, I x.1), (12, .v y25 ((ordM g f0 x.2 ma).1.getD []))] ⟨rfl, rfl, rfl, rfl, trivial⟩ ?_; refine VC.text ?_; refine VO.c (.move rfl) ?_; refine VO.cell (.lit [x.1] el25) ?_; intro ww5; refine VO.c (.move rfl) ?_; refine VO.app rfl rfl el25 el25 (by simp; omega) ?_; intro ww6; refine VO.perm swap3 ?_; refine VO.perm swap1 ?_; refine VO.shut [(40, .v y25 ([x.1] ++ (ordM g f0 x.2 ma).1.getD []))] (.cons rfl (.row m0) .nil) ?_; refine VO.setV (cs' := [.v y25 ([x.1] ++ (ordM g f0 x.2 ma).1.getD [])]) vt25 .v ?_; refine VO.perm swap2 ?_; refine VO.setV (cs' := [B true]) vt4CH .v ?_; refine VO.go ?_; refine VC.perm swap2 ?_; refine VC.perm swap3 ?_; refine VC.perm swap3 ?_; refine VC.perm swap3 ?_; refine VC.exit ?_; exact .inr ⟨(by intro h; cases h), ⟨rfl, x.1 :: (ordM g f0 x.2 ma).1.getD [], (ordM g f0 x.2 ma).2, rfl, (by rw [hq, goM_some c8 c10])⟩⟩
    have hnm : nxM (ordM g f0) ma x = (ordM g f0 x.2 ma).2 := if_neg (by unfold deadB; rw [c8]; decide)
    have hnx : goM (ordM g f0) (x :: rest) ma = goM (ordM g f0) rest (nxM (ordM g f0) ma x) := by rw [hnm]; exact goM_none c8 c10
    refine VC.perm swap3 ?_; refine VC.perm swap3 ?_; refine VC.perm swap3 ?_; refine VC.skip ?_; exact .inl ⟨rfl, nxM (ordM g f0) ma x, (by rw [hnm]), (by rw [hq, hnx]), (by exact fun y hy => hsub y (List.mem_cons_of_mem _ hy))⟩
  · rintro _ ⟨ma, rfl, hq, hsub⟩; refine VC.seq (VC.seq (VC.text ?_)); refine VO.r (.ldV m0 vt4CH) ?_; refine VO.c (.not) (VO.go ?_); refine VC.condT rfl ?_; refine VC.text ?_; refine VO.r (.ldV m2 vt109) ?_; refine VO.c (.move rfl) ?_; refine VO.perm swap3 ?_; refine VO.mput mt109CH ?_; refine VO.go (VC.seq (VC.drawn ?_)); refine VD.r [(w_dead, .mp (.int .i64) .bool (mset ma s true)), (ww4, .var [B false]), (ww3, .var [.v y25 []]), (ww2, .var [.raw w_dead])] (.ldV m2 vt25) (.inr ⟨rfl, rfl⟩) ?_; refine VD.r [(w_dead, .mp (.int .i64) .bool (mset ma s true)), (ww4, .var [B false]), (ww3, .var [.v y25 []]), (ww2, .var [.raw w_dead])] (.ldV m1 vt4CH) (.inr ⟨rfl, rfl⟩) ?_; refine VD.c (.assign rfl) (VD.c (.assign rfl) (VD.go ?_)); refine VC.perm swap3 ?_; refine VC.perm swap3 ?_; refine VC.perm swap3 ?_; refine VC.shutL [(ww4, .var [B false]), (ww3, .var [.v y25 []]), (ww2, .var [.raw w_dead])] [] rfl .nil ?_; refine VC.ret ?_; exact VEndG.two (P := Tryz.prog) (fn := Tryz.f135) (γ := [(w_dead, .mp (.int .i64) .bool dead)]) (Q := fun rr gg => rr = .tup [.v y25 ((ordM g f s dead).1.getD []), B ((ordM g f s dead).1.isSome)] ∧ gg = [(w_dead, .mp (.int .i64) .bool ((ordM g f s dead).2))]) rfl evT evT (mp_end (by rw [hoM, hq]; rfl) (by rw [hoM, hq]; rfl) (by rw [hoM, hq] <;> rfl)) rfl rfl
  rintro _ _ _ (⟨rfl, o, mz, rfl, he⟩)
  · show VC _ _ _ _ _ _ _ _; refine VC.seq (VC.seq (VC.text ?_)); refine VO.r (.ldV m0 vt4CH) ?_; refine VO.c (.not) (VO.go ?_); refine VC.condB rfl (fun c12 => ?_) (fun c12 => ?_)
    · try simp only [Bool.and_eq_true, Bool.or_eq_true, Bool.and_eq_false_iff, Bool.or_eq_false_iff, Bool.not_eq_true', Bool.not_eq_false', decide_eq_true_eq, decide_eq_false_iff_not] at c12
      cases c12
    try simp only [Bool.and_eq_true, Bool.or_eq_true, Bool.and_eq_false_iff, Bool.or_eq_false_iff, Bool.not_eq_true', Bool.not_eq_false', decide_eq_true_eq, decide_eq_false_iff_not] at c12
    refine VC.skip (VC.seq (VC.drawn ?_)); refine VD.r [(ww4, .var [B true]), (ww3, .var [.v y25 o]), (ww2, .var [.raw w_dead]), (w_dead, .mp (.int .i64) .bool mz)] (.ldV m1 vt25) (.inr ⟨rfl, rfl⟩) ?_; refine VD.r [(ww4, .var [B true]), (ww3, .var [.v y25 o]), (ww2, .var [.raw w_dead]), (w_dead, .mp (.int .i64) .bool mz)] (.ldV m0 vt4CH) (.inr ⟨rfl, rfl⟩) ?_; refine VD.c (.assign rfl) (VD.c (.assign rfl) (VD.go ?_)); refine VC.shutL [(ww4, .var [B true]), (ww3, .var [.v y25 o]), (ww2, .var [.raw w_dead])] [] rfl .nil ?_; refine VC.ret ?_; exact VEndG.two (P := Tryz.prog) (fn := Tryz.f135) (γ := [(w_dead, .mp (.int .i64) .bool dead)]) (Q := fun rr gg => rr = .tup [.v y25 ((ordM g f s dead).1.getD []), B ((ordM g f s dead).1.isSome)] ∧ gg = [(w_dead, .mp (.int .i64) .bool ((ordM g f s dead).2))]) rfl evT evT (mp_end (by rw [hoM, he]; rfl) (by rw [hoM, he]; rfl) (by rw [hoM, he] <;> rfl)) rfl rfl
theorem cOrdN {g : Gat} (hg : gatesE g = 0) : ∀ (n f : Nat), f < n → ∀ {s : Int} {dead : Dead} {w : Value}, SetOk g.1.length s → misN g.1.length s = f → VFG Tryz.prog OA 135 [.v y92 g, I s, .raw w] [(w, .mp (.int .i64) .bool dead)] (fun r g' => r = .tup [.v y25 ((ordM g f s dead).1.getD []), B ((ordM g f s dead).1.isSome)] ∧ g' = [(w, .mp (.int .i64) .bool (ordM g f s dead).2)])
  | 0, f, h, _, _, _, _, _ => by omega
  | n + 1, f, h, s, dead, w, hs, hf => cOrdS_ok hg hs hf fun {s' m' w' f'} hlt h1 h2 => cOrdN hg n f' (by omega) h1 h2
theorem cOrd_ok {g : Gat} (hg : gatesE g = 0) {s : Int} {dead : Dead} {w : Value} (hs : SetOk g.1.length s) : VFG Tryz.prog OA 135 [.v y92 g, I s, .raw w] [(w, .mp (.int .i64) .bool dead)] (fun r g' => r = .tup [.v y25 ((ordM g (misN g.1.length s) s dead).1.getD []), B ((ordM g (misN g.1.length s) s dead).1.isSome)] ∧ g' = [(w, .mp (.int .i64) .bool (ordM g (misN g.1.length s) s dead).2)]) := cOrdN hg _ _ (Nat.lt_succ_self _) hs rfl
def ordR (g : Gat) : List Int := if gatesE g = 0 then (ordN g 0).getD [] else []
def ordE (g : Gat) : Int := if gatesE g = 0 then whenE (!(ordN g 0).isSome) 24 else gatesE g
theorem ordM_0 {g : Gat} (hg : gatesE g = 0) : (ordM g (misN g.1.length 0) 0 []).1 = ordN g 0 := by
  have hd := head_ok (gates_ok hg).1; exact (ordM_ok _ 0 [] (zero_ok (by omega)) rfl dead_nil).1
theorem cOrder_ok {g : (List Int) × (List Int) × (List (List Int))} (hl : g.1.length < 1000) (hr : ∀ row ∈ g.2.2, row.length < 1000) : VF Tryz.prog OA 68 [.v y92 g] (.tup [.v y25 (ordR g), I (ordE g)]) := by
  refine VF.enter Tryz.func68 rfl (fun _ _ => rfl) rfl ?_; show VC _ _ _ _ _ [(0, .v y92 g)] [] _; refine VC.seq (VC.text ?_); refine VO.new (.box) ?_; refine VO.c (.assign rfl) (VO.c (.assign rfl) ?_); refine VO.go (VC.seq (VC.seq (VC.text ?_))); refine VO.r (.ld vt92) ?_; refine VO.call rfl rfl (VF.call (cGates_ok hl hr)) ?_; refine VO.c (.assign rfl) ?_; refine VO.go (VC.seq (VC.text ?_)); refine VO.c (.move rfl) (VO.c (.neq) (VO.go ?_)); refine VC.condD rfl (fun c2 => ?_) (fun c2 => ?_)
  · refine VC.seq (VC.text ?_); refine VO.c (.move rfl) (VO.c (.assign rfl) (VO.c (.assign rfl) (VO.go ?_))); refine VC.ret ?_; exact VEnd.two rfl (evC .nil) evT (pvE (by rw [ordR, if_neg c2])) (pvI (by rw [ordE, if_neg c2]))
  have hz : gatesE g = 0 := Classical.not_not.1 c2; have hd := head_ok (gates_ok hz).1; have hm := ordM_0 hz; refine VC.skip (VC.seq (VC.text ?_)); refine VO.r (.ld vt92) ?_; refine VO.cell (.mkMap (.int .i64) .bool) ?_; intro ww7; refine VO.callG [(ww7, .mp (.int .i64) .bool [])] rfl rfl rfl (VFG.call (cOrd_ok hz (zero_ok (by omega)))) ?_; rintro _ _ ⟨rfl, rfl⟩; show VO _ _ _ _ _ _ [(ww7, .mp (.int .i64) .bool ((ordM g (misN g.1.length 0) 0 []).2))] _; refine VO.c (.move rfl) (VO.c (.extract) (VO.c (.extract) (VO.c (.assign rfl) ?_))); refine VO.c (.assign rfl) ?_; refine VO.go (VC.seq (VC.text ?_)); refine VO.c (.move rfl) (VO.c (.move rfl) (VO.c (.not) ?_)); refine VO.call rfl rfl (VF.call (cWhen_ok )) ?_; refine VO.c (.assign rfl) (VO.c (.assign rfl) (VO.go ?_)); refine VC.ret ?_; exact VEnd.two rfl evT evT (pvE (by rw [ordR, if_pos hz, hm])) (pvI (by rw [ordE, if_pos hz, hm]))
end Go.Proofs
namespace Go.Proofs
open Go.Fs
set_option maxHeartbeats 1000000
def maxL (l : List Int) : Int := l.foldl max 0
def durE (l : List Pha) : Int × Int := (maxL (endL (dE false) l l.length), maxL (endL (dE true) l l.length))
def durR (l : List Pha) : Int × Int := if planE l = 0 then durE l else (0, 0)
end Go.Proofs
namespace Go.Proofs
open Go.Fs
set_option maxHeartbeats 1000000
theorem zt25 : ZerT Tryz.prog 25 y25 := zerT_of (z := .slice none 0 0) (by kernel_rfl) rfl rfl
def behF (l : List Pha) (n k : Nat) : List Int := ((List.range n).filter fun q => (phA l q).2.2.2.contains ((k : Nat) : Int)).map fun q => ((q : Nat) : Int)
end Go.Proofs
namespace Go.Proofs
open Go.Fs
set_option maxHeartbeats 1000000
def aftG (d : Pha → Int) (l : List Pha) : Nat → Nat → Int
  | 0, _ => 0
  | f + 1, p => maxL ((behF l l.length p).map fun x => d (phA l x.toNat) + aftG d l f x.toNat)
def aftF (d : Pha → Int) (l : List Pha) (p : Nat) : Int := aftG d l (l.length - p) p
def chnF (d : Pha → Int) (l : List Pha) (p : Nat) : Int := d (phA l p) + aftF d l p
def chnL (d : Pha → Int) (l : List Pha) : List Int := (List.range l.length).map (chnF d l)
end Go.Proofs
namespace Go.Proofs
open Go.Fs
set_option maxHeartbeats 1000000
def stF (g : Gat) (f : Nat) (x : Int × Int) : Option (List Int) := (ordF g f x.2).map fun o => x.1 :: o
theorem ordF_s {g : Gat} {f : Nat} {s : Int} : ordF g (f + 1) s = (moreL g s).findSome? (stF g f) := rfl
end Go.Proofs
namespace Go.Proofs
open Go.Fs
set_option maxHeartbeats 1000000
def idxG {α : Type} (F : α → Bool) : List α → Int → Int
  | [], _ => -1
  | x :: l, k => if F x = true then k else idxG F l (k + 1)
theorem idxG_drop {α : Type} {F : α → Bool} {l : List α} {j : Nat} (hj : j < l.length) : idxG F (l.drop j) (j : Nat) = if F l[j] = true then ((j : Nat) : Int) else idxG F (l.drop (j + 1)) ((j + 1 : Nat) : Int) := by
  rw [List.drop_eq_getElem_cons hj] <;> rfl
theorem idxG_end {α : Type} {F : α → Bool} {l : List α} {j : Nat} {k : Int} (hj : l.length ≤ j) : idxG F (l.drop j) k = -1 := by rw [List.drop_eq_nil_of_le hj] <;> rfl
def critK (d : Pha → Int) (l : List Pha) (fr : List Int) (left : Int) : Int := idxG (fun x => decide ((chnL d l).getD x.toNat 0 = left)) fr 0
def critG (d : Pha → Int) (l : List Pha) : Nat → List Int → Int → List Int
  | 0, _, _ => []
  | f + 1, fr, left => if 0 < left then fr.getD (critK d l fr left).toNat 0 :: critG d l f (behF l l.length (fr.getD (critK d l fr left).toNat 0).toNat) (left - d (phA l (fr.getD (critK d l fr left).toNat 0).toNat)) else []
def allI (n : Nat) : List Int := (List.range n).map fun q => ((q : Nat) : Int)
def critE (l : List Pha) : List Int := critG (dE true) l l.length (allI l.length) (maxL (chnL (dE true) l))
structure CritI (d : Pha → Int) (l : List Pha) (f : Nat) (fr : List Int) (left : Int) : Prop where
  mx : left = maxL (fr.map fun x => chnF d l x.toNat)
  rng : ∀ x ∈ fr, 0 ≤ x ∧ x < ((l.length : Nat) : Int) ∧ ((l.length : Nat) : Int) - x ≤ ((f : Nat) : Int)
  len : fr.length ≤ l.length
def criR (l : List Pha) : List Int := if planE l = 0 then critE l else []
end Go.Proofs
namespace Go.Proofs
open Go.Fs
set_option maxHeartbeats 1000000
theorem rHasInt_ok {l : List Int} {x : Int} (hl : l.length < 1000000) : VF Tryz.prog OA 53 [.v y25 l, I x] (B (l.contains x)) := by
  refine VF.enter Tryz.func53 rfl (fun _ _ => rfl) rfl ?_; show VC _ _ _ _ _ [(0, .v y25 l), (1, I x)] [] _; refine VC.seq (VC.text ?_); refine VO.c (.assign rfl) ?_; refine VO.go (VC.seq (VC.seq (VC.text ?_))); refine VO.c (.assign rfl) ?_; refine VO.go (VC.block ?_); refine VC.keep [(0, .v y25 l), (1, I x), (5, I ((0 : Nat) : Int))] ⟨rfl, rfl, rfl, trivial⟩ ?_; refine VC.loop (I := fun kk ff ss => ∃ (i : Nat), kk = l.length - i ∧ ff = [(0, .v y25 l), (1, I x), (5, I ((i : Nat) : Int))] ∧ ss = [] ∧ (i ≤ l.length) ∧ (∀ j (hj : j < l.length), j < i → l[j] ≠ x)) ?_ _ _ _ ⟨0, rfl, rfl, rfl, Nat.zero_le _, (by intro j hj h; omega)⟩; rintro kk ff ss ⟨i, hk0, rfl, rfl, hi, hq⟩; refine VC.seq (VC.seq (VC.text ?_)); refine VO.c (.move rfl) (VO.c (.move rfl) ?_); refine VO.r (.len el25) ?_; refine VO.c (.lss) (VO.go ?_); refine VC.condD rfl (fun c2 => ?_) (fun c2 => ?_)
  · refine VC.skip (VC.seq (VC.block (VC.seq (VC.text ?_)))); refine VO.c (.move rfl) (VO.c (.move rfl) (VO.c (.ix (j := i) rfl rfl el25 (by omega)) ?_)); refine VO.r (.ld vt3) ?_; refine VO.c (.move rfl) (VO.c (.eql) (VO.go ?_)); refine VC.condD rfl (fun c4 => ?_) (fun c4 => ?_)
    · refine VC.seq (VC.text ?_); refine VO.c (.assign rfl) (VO.go ?_); refine VC.ret ?_; exact VEnd.one rfl evT (pvE (by exact (List.contains_iff_mem.2 (c4 ▸ List.getElem_mem _)).symm))
    refine VC.skip (VC.text ?_); refine VO.c (.move rfl) (VO.c (.add rfl rfl (by omega)) (VO.c (.assign rfl) ?_)); refine VO.nil ?_; refine ⟨_, [(0, .v y25 l), (1, I x), (5, I (((i + 1) : Nat) : Int))], ?_, ⟨rfl, rfl, rfl, trivial⟩, (i + 1), rfl, rfl, rfl, (by omega), (by intro j hj h; rcases Nat.lt_succ_iff_lt_or_eq.1 h with h | h; exact hq j hj h; subst h; exact c4)⟩; omega
  refine VC.exit (VC.seq (VC.text ?_)); refine VO.c (.assign rfl) (VO.go ?_); refine VC.ret ?_; exact VEnd.one rfl evT (pvE (by refine (Bool.eq_false_iff.2 fun h => ?_).symm; obtain ⟨j, hj, he⟩ := List.mem_iff_getElem.1 (List.contains_iff_mem.1 h); exact hq j hj (by omega) he))
end Go.Proofs
namespace Go.Proofs
open Go.Fs
set_option maxHeartbeats 1000000
def setQ (l : List Int) : Nat → Int
  | 0 => 0
  | k + 1 => nxtI (setQ l k) (l.getD k 0).toNat
def ocE (n : Nat) (l : List Int) (k : Nat) : Int := if l.getD k 0 < 0 ∨ ((n : Nat) : Int) ≤ l.getD k 0 then 10 else if (setQ l k).toNat.testBit (l.getD k 0).toNat = true then 9 else 0
def opE (g : Gat) (l : List Int) (k : Nat) : Int := if permE g (setQ l (k + 1)) g.1.length = true then 0 else 31
def ordC (g : Gat) (l : List Int) : Int := if ((l.length : Nat) : Int) ≠ ((g.1.length : Nat) : Int) then 2 else if firstR (ocE g.1.length l) 0 l.length ≠ 0 then firstR (ocE g.1.length l) 0 l.length else firstR (opE g l) 0 l.length
def ckoE (g : Gat) (l : List Int) : Int := if gatesE g = 0 then ordC g l else gatesE g
theorem setQ_ok {n : Nat} {l : List Int} (hn : n ≤ 9) : ∀ {k : Nat}, (∀ j, j < k → 0 ≤ l.getD j 0 ∧ l.getD j 0 < ((n : Nat) : Int)) → SetOk n (setQ l k)
  | 0, _ => zero_ok hn
  | k + 1, h => nxt_ok (setQ_ok hn fun j hj => h j (by omega)) (by have := h k (by omega); omega)
theorem orI_set {n : Nat} {s x : Int} (h : SetOk n s) (h0 : 0 ≤ x ∧ x ≤ 9) : Fs.orI s ((1 : Int) * 2 ^ (x).toNat) = nxtI s x.toNat := by
  have := orI_nxt h (i := x.toNat) (by omega); rw [Int.toNat_natCast] at this; exact this
theorem pow9i {x : Int} (h : x ≤ 9) : (1 : Int) ≤ 2 ^ (x).toNat ∧ (2 : Int) ^ (x).toNat ≤ 512 := by
  have := pow9 (n := x.toNat) (by omega); rw [Int.toNat_natCast] at this; exact this
theorem oc_t {n : Nat} {l : List Int} {k : Nat} (h : firstR (ocE n l) 0 l.length = firstR (ocE n l) k l.length) (hk : k < l.length) (hz : ocE n l k ≠ 0) : firstR (ocE n l) 0 l.length = ocE n l k := by rw [h, firstR_step hk, if_neg hz]
theorem oc_10 {n : Nat} {l : List Int} {k : Nat} (hk : k < l.length) (h : l[k] < 0 ∨ ((n : Nat) : Int) ≤ l[k]) : ocE n l k = 10 := by rw [ocE, getDg hk, if_pos h]
theorem oc_9 {n : Nat} {l : List Int} {k : Nat} (hk : k < l.length) (h : ¬ (l[k] < 0 ∨ ((n : Nat) : Int) ≤ l[k])) (h2 : (setQ l k).toNat.testBit (l[k]).toNat = true) : ocE n l k = 9 := by rw [ocE, getDg hk, if_neg h, if_pos h2]
theorem oc_0 {n : Nat} {l : List Int} {k : Nat} (hk : k < l.length) (h : ¬ (l[k] < 0 ∨ ((n : Nat) : Int) ≤ l[k])) (h2 : (setQ l k).toNat.testBit (l[k]).toNat = false) : ocE n l k = 0 := by rw [ocE, getDg hk, if_neg h, if_neg (by rw [h2]; decide)]
theorem oc_ok {n : Nat} {l : List Int} {k : Nat} (h : ocE n l k = 0) : 0 ≤ l.getD k 0 ∧ l.getD k 0 < ((n : Nat) : Int) := by
  unfold ocE at h; by_cases h1 : l.getD k 0 < 0 ∨ ((n : Nat) : Int) ≤ l.getD k 0
  · rw [if_pos h1] at h; cases h
  omega
theorem ord_1 {g : Gat} {l : List Int} (hlen : ((l.length : Nat) : Int) = ((g.1.length : Nat) : Int)) {e : Int} (h : firstR (ocE g.1.length l) 0 l.length = e) (he : e ≠ 0) : ordC g l = e := by rw [ordC, if_neg (fun h => h hlen), h, if_pos he]
theorem ord_2 {g : Gat} {l : List Int} (hlen : ((l.length : Nat) : Int) = ((g.1.length : Nat) : Int)) (h : firstR (ocE g.1.length l) 0 l.length = 0) : ordC g l = firstR (opE g l) 0 l.length := by rw [ordC, if_neg (fun h => h hlen), if_neg (fun e => e h)]
theorem cChkO_ok {g : (List Int) × (List Int) × (List (List Int))} {l : List Int} (hl : g.1.length < 1000) (hr : ∀ row ∈ g.2.2, row.length < 1000) : VF Tryz.prog OA 69 [.v y92 g, .v y25 l] (I (ckoE g l)) := by
  refine VF.enter Tryz.func69 rfl (fun _ _ => rfl) rfl ?_; show VC _ _ _ _ _ [(0, .v y92 g), (1, .v y25 l)] [] _; refine VC.seq (VC.text ?_); refine VO.new (.box) ?_; refine VO.c (.assign rfl) ?_; refine VO.go (VC.seq (VC.seq (VC.drawn ?_))); refine VD.r [] (.ld vt92) (.inl rfl) ?_; refine VD.call rfl rfl (VF.call (cGates_ok hl hr)) ?_; refine VD.c (.move rfl) ?_; refine VD.r [] (.len el25) (.inl rfl) ?_; refine VD.c (.fa (.l .o)) ?_; refine VD.r [] (.ld vt25) (.inl rfl) ?_; refine VD.nw [] ?_; refine VD.r [] (.len el25) (.inl rfl) ?_; refine VD.c (.neq) ?_; refine VD.call rfl rfl (VF.call (cWhen_ok )) ?_; refine VD.new (.lit [gatesE g, whenE (decide (((l.length : Nat) : Int) ≠ ((g.1.length : Nat) : Int))) (2 : Int)] el154) ?_; refine VD.callO rfl rfl (VF.call (cFirst_ok (by simp))) ?_; refine VD.c (.assign rfl) ?_; refine VD.go (VC.seq (VC.text ?_)); refine VO.c (.move rfl) (VO.c (.neq) (VO.go ?_)); refine VC.condD rfl (fun c2 => ?_) (fun c2 => ?_)
  · have hce : firstE [gatesE g, whenE (decide (((l.length : Nat) : Int) ≠ ((g.1.length : Nat) : Int))) 2] = ckoE g l := by
      unfold ckoE; by_cases h : gatesE g = 0
      · rw [if_pos h, h]; by_cases h2 : ((l.length : Nat) : Int) ≠ ((g.1.length : Nat) : Int)
        · rw [decide_eq_true h2, ordC, if_pos h2] <;> rfl
        rw [h, decide_eq_false h2] at c2; exact absurd rfl c2
      rw [if_neg h]; exact if_neg h
    refine VC.seq (VC.text ?_); refine VO.c (.move rfl) (VO.c (.assign rfl) (VO.go ?_)); refine VC.ret ?_; exact VEnd.one rfl evT (pvI (by exact hce))
  have c2 := firstE_zero.1 (Classical.not_not.1 c2); have hz : gatesE g = 0 := c2 _ List.mem_cons_self; have hd := head_ok (gates_ok hz).1
  have hlen : ((l.length : Nat) : Int) = ((g.1.length : Nat) : Int) := by
    have := of_decide_eq_false ((whenE_zero (by decide)).1 (c2 _ (List.mem_cons_of_mem _ List.mem_cons_self))); omega
  have hck : ckoE g l = ordC g l := if_pos hz; refine VC.skip (VC.seq (VC.text ?_)); refine VO.c (.assign rfl) ?_; refine VO.go (VC.seq (VC.seq (VC.text ?_))); refine VO.c (.move rfl) ?_; refine VO.r (.len el25) ?_; refine VO.c (.move rfl) ?_; refine VO.go (VC.block ?_); refine VC.keep [(1, .v y25 l), (2, .p y92 g), (6, I (setQ l 0)), (25, .v y25 l), (26, I ((l.length : Nat) : Int)), (27, I ((0 : Nat) : Int))] ⟨rfl, rfl, rfl, rfl, rfl, rfl, trivial⟩ ?_; refine VC.loop (I := fun kk ff ss => ∃ (i : Nat), kk = l.length - i ∧ ff = [(1, .v y25 l), (2, .p y92 g), (6, I (setQ l i)), (25, .v y25 l), (26, I ((l.length : Nat) : Int)), (27, I ((i : Nat) : Int))] ∧ ss = [] ∧ (i ≤ l.length) ∧ (firstR (ocE g.1.length l) 0 l.length = firstR (ocE g.1.length l) i l.length) ∧ (∀ j, j < i → 0 ≤ l.getD j 0 ∧ l.getD j 0 < ((g.1.length : Nat) : Int))) ?_ _ _ _ ⟨0, rfl, rfl, rfl, Nat.zero_le _, (by rfl), (by intro j hj; omega)⟩; rintro kk ff ss ⟨i, hk0, rfl, rfl, hi, hq, hok⟩; refine VC.seq (VC.text ?_); refine VO.c (.lss) ?_; refine VO.go (VC.seq ?_); refine VC.condD rfl (fun c6 => ?_) (fun c6 => ?_)
  · have hlt : i < l.length := by omega
    have hset := setQ_ok (n := g.1.length) (by omega) hok; refine VC.skip (VC.seq (VC.block (VC.seq (VC.text ?_)))); refine VO.c (.ix (j := i) rfl rfl el25 (by omega)) ?_; refine VO.r (.ld vt3) ?_; refine VO.c (.assign rfl) ?_; refine VO.go (VC.seq (VC.seq (VC.text ?_))); refine VO.c (.move rfl) (VO.c (.lss) (VO.c (.move rfl) ?_)); refine VO.cg (r := decide (l[i] < (0 : Int))) (w := false) [] trivial (fun _ => (.move rfl)) ?_; refine VO.cg (r := decide (l[i] < (0 : Int))) (w := false) [] trivial (fun _ => (.fa (.l .o))) ?_; refine VO.rg (r := decide (l[i] < (0 : Int))) (w := false) [(35, .p y25 g.1)] ⟨rfl, trivial⟩ (fun _ => (.ld vt25)) ?_; refine VO.rg (r := decide (l[i] < (0 : Int))) (w := false) [(36, .v y25 g.1)] ⟨rfl, trivial⟩ (fun _ => (.len el25)) ?_; refine VO.cg (r := decide (l[i] < (0 : Int))) (w := false) [(34, I (l[i])), (37, I ((g.1.length : Nat) : Int))] ⟨rfl, rfl, trivial⟩ (fun _ => (.geq)) ?_; refine VO.c (.or) (VO.go ?_); refine VC.condB rfl (fun c8 => ?_) (fun c8 => ?_)
    · try simp only [Bool.and_eq_true, Bool.or_eq_true, Bool.and_eq_false_iff, Bool.or_eq_false_iff, Bool.not_eq_true', Bool.not_eq_false', decide_eq_true_eq, decide_eq_false_iff_not] at c8
      refine VC.seq (VC.text ?_); refine VO.c (.assign rfl) (VO.go ?_); refine VC.ret ?_; exact VEnd.one rfl evT (pvI (by rw [hck, ord_1 hlen (oc_t hq hlt (by rw [oc_10 hlt c8]; decide)) (by rw [oc_10 hlt c8]; decide), oc_10 hlt c8]))
    try simp only [Bool.and_eq_true, Bool.or_eq_true, Bool.and_eq_false_iff, Bool.or_eq_false_iff, Bool.not_eq_true', Bool.not_eq_false', decide_eq_true_eq, decide_eq_false_iff_not] at c8
    have c8 : ¬ (l[i] < 0 ∨ ((g.1.length : Nat) : Int) ≤ l[i]) := by omega
    have hp9 := pow9i (x := l[i]) (by omega); have horI := orI_set hset (x := l[i]) (by omega)
    have hbit : hasI (setQ l i) l[i] = (setQ l i).toNat.testBit (l[i]).toNat := by
      have := hasI_bit (s := setQ l i) (i := (l[i]).toNat) hset.lo (Nat.lt_trans hset.big (by decide)); rw [Int.toNat_of_nonneg (by omega)] at this; exact this
    refine VC.skip (VC.seq (VC.seq (VC.text ?_))); refine VO.c (.move rfl) (VO.c (.move rfl) ?_); refine VO.call rfl rfl (VF.call (cHas_ok (by first | assumption | omega | simp))) ?_; refine VO.go ?_; refine VC.condB rfl (fun c10 => ?_) (fun c10 => ?_)
    · have h9 := oc_9 hlt c8 (hbit.symm.trans c10); refine VC.seq (VC.text ?_); refine VO.c (.assign rfl) (VO.go ?_); refine VC.ret ?_; exact VEnd.one rfl evT (pvI (by rw [hck, ord_1 hlen (oc_t hq hlt (by rw [h9]; decide)) (by rw [h9]; decide), h9]))
    have hoc := oc_0 hlt c8 (hbit.symm.trans c10)
    have hsn : nxtI (setQ l i) (l[i]).toNat = setQ l (i + 1) := by show _ = nxtI _ _; rw [getDg hlt]
    refine VC.skip (VC.text ?_); refine VO.c (.move rfl) (VO.c (.move rfl) (VO.c (.shl rfl rfl (by omega) (by omega)) (VO.c ((.orI rfl rfl)) ?_))); rw [horI, hsn]; refine VO.c (.assign rfl) ?_; refine VO.nil (VC.text ?_); refine VO.c (.add rfl rfl (by omega)) (VO.c (.move rfl) ?_); refine VO.nil ?_; refine ⟨_, [(1, .v y25 l), (2, .p y92 g), (6, I (setQ l (i + 1))), (25, .v y25 l), (26, I ((l.length : Nat) : Int)), (27, I (((i + 1) : Nat) : Int))], ?_, ⟨rfl, rfl, slI rfl (by first | rfl | simp | omega), rfl, rfl, rfl, trivial⟩, (i + 1), rfl, rfl, rfl, (by omega), (by rw [hq, firstR_step hlt, if_pos hoc]), (by intro j hj; rcases Nat.lt_succ_iff_lt_or_eq.1 hj with h | h; exact hok j h; subst h; exact oc_ok hoc)⟩; omega
  have ho2 : ordC g l = firstR (opE g l) 0 l.length := ord_2 hlen (by rw [hq, firstR_end (by omega)])
  have hil : i = l.length := by omega
  refine VC.exit (VC.seq (VC.text ?_)); refine VO.c (.assign rfl) ?_; refine VO.go (VC.seq (VC.seq (VC.text ?_))); refine VO.c (.move rfl) ?_; refine VO.r (.len el25) ?_; refine VO.c (.move rfl) ?_; refine VO.go (VC.block ?_); refine VC.keep [(2, .p y92 g), (6, I (setQ l 0)), (48, .v y25 l), (49, I ((l.length : Nat) : Int)), (50, I ((0 : Nat) : Int))] ⟨rfl, rfl, rfl, rfl, rfl, trivial⟩ ?_; refine VC.loop (I := fun kk ff ss => ∃ (k : Nat), kk = l.length - k ∧ ff = [(2, .p y92 g), (6, I (setQ l k)), (48, .v y25 l), (49, I ((l.length : Nat) : Int)), (50, I ((k : Nat) : Int))] ∧ ss = [] ∧ (k ≤ l.length) ∧ (firstR (opE g l) 0 l.length = firstR (opE g l) k l.length)) ?_ _ _ _ ⟨0, rfl, rfl, rfl, Nat.zero_le _, (by rfl)⟩; rintro kk ff ss ⟨k, hk2, rfl, rfl, hk, hq2⟩; refine VC.seq (VC.text ?_); refine VO.c (.lss) ?_; refine VO.go (VC.seq ?_); refine VC.condD rfl (fun c16 => ?_) (fun c16 => ?_)
  · have hkt : k < l.length := by omega
    have hok2 : ∀ j, j < k + 1 → 0 ≤ l.getD j 0 ∧ l.getD j 0 < ((g.1.length : Nat) : Int) := fun j hj => hok j (by omega); have hset := setQ_ok (n := g.1.length) (k := k) (by omega) fun j hj => hok2 j (by omega); have hx := hok2 k (by omega); rw [getDg hkt] at hx; have hp9 := pow9i (x := l[k]) (by omega); have horI := orI_set hset (x := l[k]) (by omega)
    have hsn : nxtI (setQ l k) (l[k]).toNat = setQ l (k + 1) := by show _ = nxtI _ _; rw [getDg hkt]
    refine VC.skip (VC.seq (VC.block (VC.seq (VC.text ?_)))); refine VO.c (.ix (j := k) rfl rfl el25 (by omega)) ?_; refine VO.r (.ld vt3) ?_; refine VO.c (.assign rfl) ?_; refine VO.go (VC.seq (VC.text ?_)); refine VO.c (.move rfl) (VO.c (.move rfl) (VO.c (.shl rfl rfl (by omega) (by omega)) (VO.c ((.orI rfl rfl)) ?_))); rw [horI, hsn]; refine VO.c (.assign rfl) ?_; refine VO.go (VC.seq (VC.text ?_)); refine VO.r (.ld vt92) ?_; refine VO.c (.move rfl) ?_; refine VO.call rfl rfl (VF.call (cPerm_ok (by first | assumption | omega | simp))) ?_; refine VO.c (.not) (VO.go ?_); refine VC.condB rfl (fun c19 => ?_) (fun c19 => ?_)
    · try simp only [Bool.and_eq_true, Bool.or_eq_true, Bool.and_eq_false_iff, Bool.or_eq_false_iff, Bool.not_eq_true', Bool.not_eq_false', decide_eq_true_eq, decide_eq_false_iff_not] at c19
      have hop : opE g l k = 31 := if_neg (by simpa using c19); refine VC.seq (VC.text ?_); refine VO.c (.assign rfl) (VO.go ?_); refine VC.ret ?_; exact VEnd.one rfl evT (pvI (by rw [hck, ho2, hq2, firstR_step hkt, hop, if_neg (by decide)]))
    try simp only [Bool.and_eq_true, Bool.or_eq_true, Bool.and_eq_false_iff, Bool.or_eq_false_iff, Bool.not_eq_true', Bool.not_eq_false', decide_eq_true_eq, decide_eq_false_iff_not] at c19
    have hop : opE g l k = 0 := if_pos (by simpa using c19); refine VC.skip (VC.text ?_); refine VO.c (.add rfl rfl (by omega)) (VO.c (.move rfl) ?_); refine VO.nil ?_; refine ⟨_, [(2, .p y92 g), (6, I (setQ l (k + 1))), (48, .v y25 l), (49, I ((l.length : Nat) : Int)), (50, I (((k + 1) : Nat) : Int))], ?_, ⟨rfl, slI rfl (by first | rfl | simp | omega), rfl, rfl, rfl, trivial⟩, (k + 1), rfl, rfl, rfl, (by omega), (by rw [hq2, firstR_step hkt, if_pos hop])⟩; omega
  refine VC.exit (VC.seq (VC.text ?_)); refine VO.c (.assign rfl) (VO.go ?_); refine VC.ret ?_; exact VEnd.one rfl evT (pvI (by rw [hck, ho2, hq2, firstR_end (by omega)]))
end Go.Proofs
namespace Go.Proofs
open Go.Fs
set_option maxHeartbeats 1000000
end Go.Proofs
namespace Go.Proofs
open Go.Fs
set_option maxHeartbeats 1000000
end Go.Proofs
namespace Go.Proofs
open Go.Fs
set_option maxHeartbeats 1000000
def badE (l : List Pha) (dl : Int) : Int := firstE [planE l, rangeE dl 0 100000]
def latE (l : List Pha) (dl : Int) : Int := if badE l dl = 0 then whenE (decide (dl < (durE l).2)) 24 else badE l dl
def latL (l : List Pha) (dl : Int) : List Int := (chnL (dE true) l).map fun n => dl - n
def latR (l : List Pha) (dl : Int) : List Int := if latE l dl = 0 then latL l dl else []
def slaF (l : List Pha) (dl : Int) (i : Nat) : Int := dl - chnF (dE true) l i - begF (dE true) l i
def slaL (l : List Pha) (dl : Int) : List Int := (List.range l.length).map (slaF l dl)
def slaR (l : List Pha) (dl : Int) : List Int := if latE l dl = 0 then slaL l dl else []
end Go.Proofs
namespace Go.Proofs
open Go.Fs
set_option maxHeartbeats 1000000
theorem idxG_any {α : Type} {F : α → Bool} : ∀ {l : List α} {k : Int}, 0 ≤ k → ((0 ≤ idxG F l k) ↔ l.any F = true)
  | [], k, _ => by simp [idxG]
  | x :: l, k, h => by
    unfold idxG; rw [List.any_cons]; by_cases hx : F x = true
    · rw [if_pos hx, hx]; simp [h]
    rw [if_neg hx, idxG_any (l := l) (by omega)]; simp [hx]
end Go.Proofs
namespace Go.Proofs
open Go.Fs
set_option maxHeartbeats 1000000
theorem zt26 : ZerT Tryz.prog 26 (.int .i64) := zerT_of (z := .int .i64 0) (by kernel_rfl) rfl rfl
theorem zIndexI_ok {l : List Int} {v : Int} (hl : l.length < 1000000) : VF Tryz.prog OA 157 [.v y25 l, I v] (I (idxG (fun x => decide (v = x)) l 0)) := by
  refine VF.enter Tryz.func157 rfl (fun _ _ => rfl) rfl ?_; show VC _ _ _ _ _ [(0, .v y25 l), (1, I v)] [] _; refine VC.seq (VC.text ?_); refine VO.c (.assign rfl) ?_; refine VO.go (VC.seq (VC.seq (VC.text ?_))); refine VO.c (.move rfl) ?_; refine VO.r (.len el25) ?_; refine VO.c (.move rfl) ?_; refine VO.go (VC.block ?_); refine VC.keep [(0, .v y25 l), (1, I v), (7, I ((l.length : Nat) : Int)), (8, I ((0 : Nat) : Int))] ⟨rfl, rfl, rfl, rfl, trivial⟩ ?_; refine VC.loop (I := fun kk ff ss => ∃ (j : Nat), kk = l.length - j ∧ ff = [(0, .v y25 l), (1, I v), (7, I ((l.length : Nat) : Int)), (8, I ((j : Nat) : Int))] ∧ ss = [] ∧ (j ≤ l.length) ∧ (idxG (fun x => decide (v = x)) l 0 = idxG (fun x => decide (v = x)) (l.drop j) (j : Nat))) ?_ _ _ _ ⟨0, rfl, rfl, rfl, Nat.zero_le _, (by rfl)⟩; rintro kk ff ss ⟨j, hk0, rfl, rfl, hj, hi⟩; refine VC.seq (VC.text ?_); refine VO.c (.lss) ?_; refine VO.go (VC.seq ?_); refine VC.condD rfl (fun c2 => ?_) (fun c2 => ?_)
  · refine VC.skip (VC.seq (VC.block (VC.seq (VC.text ?_)))); refine VO.c (.move rfl) (VO.c (.assign rfl) ?_); refine VO.go (VC.seq (VC.text ?_)); refine VO.c (.move rfl) (VO.c (.move rfl) (VO.c (.move rfl) (VO.c (.ix (j := j) rfl rfl el25 (by omega)) ?_))); refine VO.r (.ld vt3) ?_; refine VO.c (.eql) (VO.go ?_); refine VC.condD rfl (fun c4 => ?_) (fun c4 => ?_)
    · refine VC.seq (VC.text ?_); refine VO.c (.move rfl) (VO.c (.assign rfl) (VO.go ?_)); refine VC.ret ?_; exact VEnd.one rfl evT (pvI (by rw [hi, idxG_drop (by omega), if_pos (by simpa using c4)]))
    refine VC.skip (VC.text ?_); refine VO.c (.add rfl rfl (by omega)) (VO.c (.move rfl) ?_); refine VO.nil ?_; refine ⟨_, [(0, .v y25 l), (1, I v), (7, I ((l.length : Nat) : Int)), (8, I (((j + 1) : Nat) : Int))], ?_, ⟨rfl, rfl, rfl, rfl, trivial⟩, (j + 1), rfl, rfl, rfl, (by omega), (by rw [hi, idxG_drop (by omega), if_neg (by simpa using c4)])⟩; omega
  refine VC.exit (VC.seq (VC.text ?_)); refine VO.c (.assign rfl) (VO.go ?_); refine VC.ret ?_; exact VEnd.one rfl evT (pvI (by rw [hi, idxG_end (by omega)]))
theorem idx_has {l : List Int} {v : Int} : decide ((0 : Int) ≤ idxG (fun x => decide (v = x)) l 0) = l.contains v := by
  rw [Bool.eq_iff_iff, decide_eq_true_eq, idxG_any (F := fun x => decide (v = x)) (l := l) (k := 0) (by omega), List.any_eq_true, List.contains_iff_mem]; constructor
  · rintro ⟨x, hx, he⟩; have := of_decide_eq_true he; subst this; exact hx
  intro h; exact ⟨v, h, decide_eq_true rfl⟩
theorem zContI_ok {l : List Int} {v : Int} (hl : l.length < 1000000) : VF Tryz.prog OA 138 [.v y25 l, I v] (B (l.contains v)) := by
  refine VF.enter Tryz.func138 rfl (fun _ _ => rfl) rfl ?_; show VC _ _ _ _ _ [(0, .v y25 l), (1, I v)] [] _; refine VC.seq (VC.text ?_); refine VO.c (.assign rfl) ?_; refine VO.go (VC.seq (VC.text ?_)); refine VO.c (.move rfl) (VO.c (.move rfl) ?_); refine VO.call rfl rfl (VF.call (zIndexI_ok (by first | assumption | omega | simp))) ?_; refine VO.c (.geq) (VO.c (.assign rfl) (VO.go ?_)); refine VC.ret ?_; exact VEnd.one rfl evT (pvE (by exact idx_has))
def skE (g : Gat) (l : List Int) (k : Nat) : Int := firstE [setE g (l.getD k 0), whenE (decide (l.getD k 0 ≤ lastB l k)) 11]
def closB (g : Gat) (l : List Int) : Bool := decide (∀ k, k < l.length → ∀ y ∈ moreL g (l.getD k 0), l.contains y.2 = true)
def stkC (g : Gat) (l : List Int) : Int := if firstR (skE g l) 0 l.length ≠ 0 then firstR (skE g l) 0 l.length else if l.contains 0 = true ∧ l.contains (fulI g.1.length) = false ∧ closB g l = true then 0 else 22
def stkE (g : Gat) (l : List Int) : Int := if gatesE g = 0 then stkC g l else gatesE g
theorem sk_ok {g : Gat} {l : List Int} {k : Nat} (h9 : g.1.length ≤ 9) (h : skE g l k = 0) : SetOk g.1.length (l.getD k 0) ∧ lastB l k < l.getD k 0 := by
  have h := firstE_zero.1 h; have h1 := (whenE_zero (by decide)).1 (h _ List.mem_cons_self); have h2 := of_decide_eq_false ((whenE_zero (by decide)).1 (h _ (List.mem_cons_of_mem _ List.mem_cons_self))); obtain ⟨h3, h4⟩ := Bool.or_eq_false_iff.1 h1; have h3 := of_decide_eq_false h3; have h4 := of_decide_eq_false h4; exact ⟨set_of h9 (by omega) (by omega), by omega⟩
theorem stk_1 {g : Gat} {l : List Int} {k : Nat} (h : firstR (skE g l) 0 l.length = firstR (skE g l) k l.length) (hk : k < l.length) (hz : skE g l k ≠ 0) : stkC g l = skE g l k := by
  rw [stkC, h, firstR_step hk, if_neg hz, if_pos hz]
theorem asc_all {l : List Int} (h : ∀ k, k < l.length → lastB l k < l.getD k 0) : ∀ k, k < l.length → ∀ j, j < k → l.getD j 0 < l.getD k 0
  | 0, _, j, hj => by omega
  | k + 1, hk, j, hj => by
    have h1 : l.getD k 0 < l.getD (k + 1) 0 := h (k + 1) hk; by_cases e : j = k
    · subst e; exact h1
    have := asc_all h k (by omega) j (by omega); omega
theorem has_get {l : List Int} {v : Int} : l.contains v = true ↔ ∃ k, k < l.length ∧ l.getD k 0 = v := by
  rw [List.contains_iff_mem, List.mem_iff_getElem]; constructor
  · rintro ⟨k, hk, rfl⟩; exact ⟨k, hk, getDg hk⟩
  rintro ⟨k, hk, rfl⟩; exact ⟨k, hk, (getDg hk).symm⟩
structure AscS (g : Gat) (l : List Int) : Prop where
  n9 : g.1.length ≤ 9
  ok : ∀ k, k < l.length → SetOk g.1.length (l.getD k 0)
  asc : ∀ k, k < l.length → lastB l k < l.getD k 0
theorem AscS.first {g : Gat} {l : List Int} (h : AscS g l) : l.contains 0 = decide (¬ (l.length = 0 ∨ l.getD 0 0 ≠ 0)) := by
  rw [Bool.eq_iff_iff, has_get, decide_eq_true_eq]; constructor
  · rintro ⟨k, hk, he⟩ hh; rcases hh with hh | hh
    · omega
    cases k with
    | zero => exact hh he
    | succ k =>
      have h1 := asc_all h.asc (k + 1) hk 0 (by omega); have h2 := (h.ok 0 (by omega)).lo; omega
  intro hh; exact ⟨0, by omega, by omega⟩
theorem ful_max {n : Nat} {s : Int} (h : SetOk n s) : s ≤ fulI n := by
  have := h.hi; have := h.lo; unfold fulI; omega
theorem AscS.last {g : Gat} {l : List Int} (h : AscS g l) (h0 : 0 < g.1.length) : l.contains (fulI g.1.length) = decide (lastB l l.length = fulI g.1.length) := by
  rw [Bool.eq_iff_iff, has_get, decide_eq_true_eq]
  have hf : fulI g.1.length ≠ -1 := by have := (ful_ok h.n9).lo; omega
  constructor
  · rintro ⟨k, hk, he⟩; obtain ⟨m, hm⟩ : ∃ m, l.length = m + 1 := ⟨l.length - 1, by omega⟩; rw [hm]; show l.getD m 0 = _; by_cases e : k = m
    · subst e; exact he
    have h1 := asc_all h.asc m (by omega) k (by omega); have h2 := ful_max (h.ok m (by omega)); omega
  intro he
  cases hl : l.length with
  | zero => rw [hl] at he; exact absurd he.symm hf
  | succ m => rw [hl] at he; exact ⟨m, by omega, he⟩
theorem AscS.res {g : Gat} {l : List Int} (h : AscS g l) (hz : firstR (skE g l) 0 l.length = 0) (h0 : 0 < g.1.length) : stkC g l = if (l.length = 0 ∨ l.getD 0 0 ≠ 0) ∨ lastB l l.length = fulI g.1.length then 22 else if closB g l = true then 0 else 22 := by
  unfold stkC; rw [if_neg (fun e => e hz), h.first, h.last h0]; by_cases h1 : l.length = 0 ∨ l.getD 0 0 ≠ 0
  · rw [if_neg (by rintro ⟨a, _⟩; exact absurd h1 (of_decide_eq_true a)), if_pos (.inl h1)]
  by_cases h2 : lastB l l.length = fulI g.1.length
  · rw [if_neg (by rintro ⟨_, a, _⟩; exact absurd h2 (of_decide_eq_false a)), if_pos (.inr h2)]
  rw [if_neg (c := _ ∨ _) (fun h => h.elim h1 h2)]; by_cases h3 : closB g l = true
  · rw [if_pos h3, if_pos ⟨decide_eq_true h1, decide_eq_false h2, h3⟩]
  rw [if_neg h3, if_neg (fun h => h3 h.2.2)]
theorem clos_t {g : Gat} {l : List Int} (h : ∀ k, k < l.length → ∀ y ∈ moreL g (l.getD k 0), l.contains y.2 = true) : closB g l = true := decide_eq_true h
theorem clos_f {g : Gat} {l : List Int} {k : Nat} (hk : k < l.length) {y : Int × Int} (hy : y ∈ moreL g (l.getD k 0)) (h : l.contains y.2 = false) : closB g l = false := decide_eq_false fun hh => by rw [hh k hk y hy] at h; cases h
theorem cChkS_ok {g : (List Int) × (List Int) × (List (List Int))} {l : List Int} (hl : g.1.length < 1000) (hr : ∀ row ∈ g.2.2, row.length < 1000) (hll : l.length < 1000000) : VF Tryz.prog OA 71 [.v y92 g, .v y25 l] (I (stkE g l)) := by
  refine VF.enter Tryz.func71 rfl (fun _ _ => rfl) rfl ?_; show VC _ _ _ _ _ [(0, .v y92 g), (1, .v y25 l)] [] _; refine VC.seq (VC.text ?_); refine VO.new (.box) ?_; refine VO.new (.box) ?_; refine VO.cell (.alloc zt26) ?_; intro ww1; refine VO.go (VC.seq (VC.seq (VC.text ?_))); refine VO.r (.ld vt92) ?_; refine VO.call rfl rfl (VF.call (cGates_ok hl hr)) ?_; refine VO.c (.assign rfl) ?_; refine VO.go (VC.seq (VC.text ?_)); refine VO.c (.move rfl) (VO.c (.neq) (VO.go ?_)); refine VC.condD rfl (fun c2 => ?_) (fun c2 => ?_)
  · refine VC.seq (VC.text ?_); refine VO.c (.move rfl) ?_; refine VO.setV (cs' := [I (gatesE g)]) vt26 .v ?_; refine VO.go ?_; refine VC.ret ?_; exact VEnd.one rfl (.cell (x := gatesE g) rfl m0 vt26 .refl) (pvI (by rw [stkE, if_neg c2]))
  have hz : gatesE g = 0 := Classical.not_not.1 c2; have hd := head_ok (gates_ok hz).1; have hst : stkE g l = stkC g l := if_pos hz; have hp9 := pow9 (n := g.1.length) (by omega); have hfe := ful_eq (n := g.1.length); refine VC.skip (VC.seq (VC.text ?_)); refine VO.c (.assign rfl) ?_; refine VO.go (VC.seq (VC.seq (VC.text ?_))); refine VO.r (.ld vt25) ?_; refine VO.r (.len el25) ?_; refine VO.c (.move rfl) ?_; refine VO.go (VC.block ?_); refine VC.keep [(2, .p y92 g), (3, .p y25 l), (4, .raw ww1), (6, I (lastB l 0)), (19, .v y25 l), (20, I ((l.length : Nat) : Int)), (21, I ((0 : Nat) : Int))] ⟨rfl, rfl, rfl, rfl, rfl, rfl, rfl, trivial⟩ ?_; refine VC.loop (I := fun kk ff ss => ∃ (i : Nat), kk = l.length - i ∧ ff = [(2, .p y92 g), (3, .p y25 l), (4, .raw ww1), (6, I (lastB l i)), (19, .v y25 l), (20, I ((l.length : Nat) : Int)), (21, I ((i : Nat) : Int))] ∧ ss = [(ww1, .var [I (0 : Int)])] ∧ (i ≤ l.length) ∧ (firstR (skE g l) 0 l.length = firstR (skE g l) i l.length) ∧ (∀ j, j < i → skE g l j = 0)) ?_ _ _ _ ⟨0, rfl, rfl, rfl, Nat.zero_le _, (by rfl), (by intro j hj; omega)⟩; rintro kk ff ss ⟨i, hk0, rfl, rfl, hi, hq, hok⟩; refine VC.seq (VC.text ?_); refine VO.c (.lss) ?_; refine VO.go (VC.seq ?_); refine VC.condD rfl (fun c6 => ?_) (fun c6 => ?_)
  · have hlt : i < l.length := by omega
    have hsk : firstE [setE g (l[i]), whenE (decide (l[i] ≤ lastB l i)) 11] = skE g l i := by rw [skE, getDg hlt]
    refine VC.skip (VC.seq (VC.block (VC.seq (VC.text ?_)))); refine VO.c (.ix (j := i) rfl rfl el25 (by omega)) ?_; refine VO.r (.ld vt3) ?_; refine VO.c (.assign rfl) ?_; refine VO.go (VC.seq (VC.seq (VC.text ?_))); refine VO.r (.ld vt92) ?_; refine VO.c (.move rfl) ?_; refine VO.call rfl rfl (VF.call (cCheckSet_ok (by omega))) ?_; refine VO.c (.move rfl) (VO.c (.move rfl) (VO.c (.leq) ?_)); refine VO.call rfl rfl (VF.call (cWhen_ok )) ?_; refine VO.new (.lit [setE g (l[i]), whenE (decide (l[i] ≤ (lastB l i))) (11 : Int)] el154) ?_; refine VO.call rfl rfl (VF.call (cFirst_ok (by simp))) ?_; refine VO.c (.assign rfl) ?_; refine VO.go (VC.seq (VC.text ?_)); refine VO.c (.move rfl) (VO.c (.neq) (VO.go ?_)); refine VC.condD rfl (fun c9 => ?_) (fun c9 => ?_)
    · have hsn : skE g l i ≠ 0 := by rw [← hsk]; exact c9
      refine VC.seq (VC.text ?_); refine VO.c (.move rfl) ?_; refine VO.setV (cs' := [I (firstE [setE g (l[i]), whenE (decide (l[i] ≤ (lastB l i))) (11 : Int)])]) vt26 .v ?_; refine VO.go ?_; refine VC.ret ?_; exact VEnd.one rfl (.cell (x := firstE [setE g (l[i]), whenE (decide (l[i] ≤ (lastB l i))) (11 : Int)]) rfl m0 vt26 .refl) (pvI (by rw [hst, stk_1 hq hlt hsn, ← hsk]))
    have hsz : skE g l i = 0 := by rw [← hsk]; exact Classical.not_not.1 c9
    refine VC.skip (VC.text ?_); refine VO.c (.move rfl) (VO.c (.assign rfl) ?_); refine VO.nil (VC.text ?_); refine VO.c (.add rfl rfl (by omega)) (VO.c (.move rfl) ?_); refine VO.nil ?_; refine ⟨_, [(2, .p y92 g), (3, .p y25 l), (4, .raw ww1), (6, I (lastB l (i + 1))), (19, .v y25 l), (20, I ((l.length : Nat) : Int)), (21, I (((i + 1) : Nat) : Int))], ?_, ⟨rfl, rfl, rfl, slI rfl (by exact (getDg hlt).symm), rfl, rfl, rfl, trivial⟩, (i + 1), rfl, rfl, rfl, (by omega), (by rw [hq, firstR_step hlt, if_pos hsz]), (by intro j hj; rcases Nat.lt_succ_iff_lt_or_eq.1 hj with h | h; exact hok j h; subst h; exact hsz)⟩; omega
  have hil : i = l.length := by omega
  have hfz : firstR (skE g l) 0 l.length = 0 := by rw [hq, firstR_end (by omega)]
  have hA : AscS g l := ⟨by omega, fun k hk => (sk_ok (by omega) (hok k (by omega))).1, fun k hk => (sk_ok (by omega) (hok k (by omega))).2⟩; have hres := hA.res hfz (by omega); refine VC.exit (VC.seq (VC.seq (VC.text ?_))); refine VO.r (.ld vt25) ?_; refine VO.r (.len el25) ?_; refine VO.c (.eql) (VO.c (.move rfl) ?_); refine VO.rg (r := decide (((l.length : Nat) : Int) = (0 : Int))) (w := false) [] trivial (fun _ => (.ld vt25)) ?_; refine VO.cg (r := decide (((l.length : Nat) : Int) = (0 : Int))) (w := false) [(43, .v y25 l)] ⟨rfl, trivial⟩ (fun hgd => have g13_3 : ¬ (((l.length : Nat) : Int) = (0 : Int)) := (by simpa using hgd); (.ixD (j := 0) rfl rfl 0 el25 (by omega))) ?_; refine VO.rg (r := decide (((l.length : Nat) : Int) = (0 : Int))) (w := false) [(44, .p (.int .i64) (l.getD 0 0))] ⟨rfl, trivial⟩ (fun _ => (.ld vt3)) ?_; refine VO.cg (r := decide (((l.length : Nat) : Int) = (0 : Int))) (w := false) [(45, I (l.getD 0 0))] ⟨rfl, trivial⟩ (fun _ => (.neq)) ?_; refine VO.c (.or) (VO.c (.move rfl) ?_); refine VO.cg (r := ((decide (((l.length : Nat) : Int) = (0 : Int))) || (decide ((l.getD 0 0) ≠ (0 : Int))))) (w := false) [] trivial (fun _ => (.move rfl)) ?_; refine VO.cg (r := ((decide (((l.length : Nat) : Int) = (0 : Int))) || (decide ((l.getD 0 0) ≠ (0 : Int))))) (w := false) [] trivial (fun _ => (.fa (.l .o))) ?_; refine VO.rg (r := ((decide (((l.length : Nat) : Int) = (0 : Int))) || (decide ((l.getD 0 0) ≠ (0 : Int))))) (w := false) [(50, .p y25 g.1)] ⟨rfl, trivial⟩ (fun _ => (.ld vt25)) ?_; refine VO.rg (r := ((decide (((l.length : Nat) : Int) = (0 : Int))) || (decide ((l.getD 0 0) ≠ (0 : Int))))) (w := false) [(51, .v y25 g.1)] ⟨rfl, trivial⟩ (fun _ => (.len el25)) ?_; refine VO.cg (r := ((decide (((l.length : Nat) : Int) = (0 : Int))) || (decide ((l.getD 0 0) ≠ (0 : Int))))) (w := false) [(52, I ((g.1.length : Nat) : Int))] ⟨rfl, trivial⟩ (fun hgd => have g13_9 : ((decide (((l.length : Nat) : Int) = (0 : Int))) || (decide ((l.getD 0 0) ≠ (0 : Int)))) = false := (by simpa using hgd); (.shl rfl rfl (by omega) (by omega))) ?_; refine VO.cg (r := ((decide (((l.length : Nat) : Int) = (0 : Int))) || (decide ((l.getD 0 0) ≠ (0 : Int))))) (w := false) [(53, I ((1 : Int) * 2 ^ (((g.1.length : Nat) : Int)).toNat))] ⟨rfl, trivial⟩ (fun hgd => have g13_9 : ((decide (((l.length : Nat) : Int) = (0 : Int))) || (decide ((l.getD 0 0) ≠ (0 : Int)))) = false := (by simpa using hgd); (.sub rfl rfl (by omega))) ?_; refine VO.cg (r := ((decide (((l.length : Nat) : Int) = (0 : Int))) || (decide ((l.getD 0 0) ≠ (0 : Int))))) (w := false) [(49, I (lastB l i)), (54, I (((1 : Int) * 2 ^ (((g.1.length : Nat) : Int)).toNat) - (1 : Int)))] ⟨rfl, rfl, trivial⟩ (fun _ => (.eql)) ?_; refine VO.c (.or) (VO.go ?_); refine VC.condB rfl (fun c13 => ?_) (fun c13 => ?_)
  · try simp only [Bool.and_eq_true, Bool.or_eq_true, Bool.and_eq_false_iff, Bool.or_eq_false_iff, Bool.not_eq_true', Bool.not_eq_false', decide_eq_true_eq, decide_eq_false_iff_not] at c13
    rw [hfe, hil] at c13
    have hr0 : stkC g l = 22 := by rw [hres, if_pos (by omega)]
    refine VC.seq (VC.text ?_); refine VO.setV (cs' := [I (22 : Int)]) vt26 .v ?_; refine VO.go ?_; refine VC.ret ?_; exact VEnd.one rfl (.cell (x := (22 : Int)) rfl m0 vt26 .refl) (pvI (by rw [hst, hr0]))
  try simp only [Bool.and_eq_true, Bool.or_eq_true, Bool.and_eq_false_iff, Bool.or_eq_false_iff, Bool.not_eq_true', Bool.not_eq_false', decide_eq_true_eq, decide_eq_false_iff_not] at c13
  rw [hfe, hil] at c13
  have hr1 : stkC g l = if closB g l = true then 0 else 22 := by rw [hres, if_neg (by omega)]
  refine VC.skip (VC.seq (VC.seq (VC.text ?_))); refine VO.r (.ld vt25) ?_; refine VO.r (.len el25) ?_; refine VO.c (.move rfl) ?_; refine VO.go (VC.block ?_); refine VC.keep [(2, .p y92 g), (3, .p y25 l), (4, .raw ww1), (57, .v y25 l), (58, I ((l.length : Nat) : Int)), (59, I ((0 : Nat) : Int))] ⟨rfl, rfl, rfl, rfl, rfl, rfl, trivial⟩ ?_; refine VC.loop (I := fun kk ff ss => ∃ (k : Nat), kk = l.length - k ∧ ff = [(2, .p y92 g), (3, .p y25 l), (4, .raw ww1), (57, .v y25 l), (58, I ((l.length : Nat) : Int)), (59, I ((k : Nat) : Int))] ∧ ss = [(ww1, .var [I (0 : Int)])] ∧ (k ≤ l.length) ∧ (∀ j, j < k → ∀ y ∈ moreL g (l.getD j 0), l.contains y.2 = true)) ?_ _ _ _ ⟨0, rfl, rfl, rfl, Nat.zero_le _, (by intro j hj; omega)⟩; rintro kk ff ss ⟨k, hk2, rfl, rfl, hk, hcl⟩; refine VC.seq (VC.text ?_); refine VO.c (.lss) ?_; refine VO.go (VC.seq ?_); refine VC.condD rfl (fun c16 => ?_) (fun c16 => ?_)
  · have hkt : k < l.length := by omega
    have hsok := hA.ok k hkt; rw [getDg hkt] at hsok; refine VC.skip (VC.seq (VC.block (VC.seq (VC.text ?_)))); refine VO.c (.ix (j := k) rfl rfl el25 (by omega)) ?_; refine VO.r (.ld vt3) ?_; refine VO.c (.assign rfl) ?_; refine VO.go (VC.seq (VC.text ?_)); refine VO.r (.ld vt92) ?_; refine VO.c (.move rfl) ?_; refine VO.call rfl rfl (VF.call (cMore_ok )) ?_; refine VO.go (VC.block ?_); refine VC.keep [(2, .p y92 g), (3, .p y25 l), (4, .raw ww1), (57, .v y25 l), (58, I ((l.length : Nat) : Int)), (59, I ((k : Nat) : Int)), (65, .clo 156 [] [.p y92 g, .p (.int .i64) (l[k])])] ⟨rfl, rfl, rfl, rfl, rfl, rfl, rfl, trivial⟩ ?_; refine VC.rangeFunc rfl (cMore1_ok hz hsok) (fun _ => rfl) rfl rfl (fun rest ss => ss = [(ww1, .var [I (0 : Int)])] ∧ (∀ y ∈ moreL g (l[k]), y ∈ rest ∨ l.contains y.2 = true) ∧ (∀ y ∈ rest, y ∈ moreL g (l[k]))) (fun ee ss => (ee = .ret ∧ ss = [(ww1, .var [I (22 : Int)])] ∧ (closB g l = false))) ⟨rfl, (by exact fun y hy => .inl hy), (by exact fun y hy => hy)⟩ ?_ ?_ ?_
    · rintro jj x rest _ ⟨rfl, hcr, hsu⟩; show VC _ _ _ _ _ [(67, I x.2), (66, I x.1), (2, .p y92 g), (3, .p y25 l), (4, .raw ww1), (57, .v y25 l), (58, I ((l.length : Nat) : Int)), (59, I ((k : Nat) : Int)), (65, .clo 156 [] [.p y92 g, .p (.int .i64) (l[k])])] [(ww1, .var [I (0 : Int)])] _; refine VC.text ?_; refine VO.c (.assign rfl) ?_; refine VO.nil ?_; refine ⟨rfl, ?_⟩; refine VC.block (VC.seq (VC.text ?_)); refine VO.r (.ld vt25) ?_; refine VO.c (.move rfl) ?_; refine VO.call rfl rfl (VF.call (zContI_ok (by first | assumption | omega | simp))) ?_; refine VO.c (.not) (VO.go ?_); refine VC.condB rfl (fun c20 => ?_) (fun c20 => ?_)
      · try simp only [Bool.and_eq_true, Bool.or_eq_true, Bool.and_eq_false_iff, Bool.or_eq_false_iff, Bool.not_eq_true', Bool.not_eq_false', decide_eq_true_eq, decide_eq_false_iff_not] at c20
        refine VC.seq (VC.text ?_); refine VO.setV (cs' := [I (22 : Int)]) vt26 .v ?_; refine VO.go ?_; refine VC.ret ?_; exact .inr ⟨(by intro h; cases h), ⟨rfl, rfl, (by exact clos_f hkt (by rw [getDg hkt]; exact hsu x List.mem_cons_self) (by simpa using c20))⟩⟩
      try simp only [Bool.and_eq_true, Bool.or_eq_true, Bool.and_eq_false_iff, Bool.or_eq_false_iff, Bool.not_eq_true', Bool.not_eq_false', decide_eq_true_eq, decide_eq_false_iff_not] at c20
      refine VC.skip ?_; exact .inl ⟨rfl, rfl, (by exact fun y hy => (hcr y hy).elim (fun h => (List.mem_cons.1 h).elim (fun e => .inr (by rw [e]; simpa using c20)) .inl) .inr), (by exact fun y hy => hsu y (List.mem_cons_of_mem _ hy))⟩
    · rintro _ ⟨rfl, hcr, hsu⟩; refine VC.text ?_; refine VO.c (.add rfl rfl (by omega)) (VO.c (.move rfl) ?_); refine VO.nil ?_; refine ⟨_, [(2, .p y92 g), (3, .p y25 l), (4, .raw ww1), (57, .v y25 l), (58, I ((l.length : Nat) : Int)), (59, I (((k + 1) : Nat) : Int))], ?_, ⟨rfl, rfl, rfl, rfl, rfl, rfl, trivial⟩, (k + 1), rfl, rfl, rfl, (by omega), (by intro j hj; rcases Nat.lt_succ_iff_lt_or_eq.1 hj with h | h; exact hcl j h; subst h; exact fun y hy => (hcr y (by rw [← getDg hkt]; exact hy)).elim (fun h => by cases h) id)⟩; omega
    rintro _ _ _ (⟨rfl, rfl, he⟩)
    · exact VEnd.one rfl (.cell (x := (22 : Int)) rfl m0 vt26 .refl) (pvI (by rw [hst, hr1, he] <;> rfl))
  have hct := clos_t (g := g) (l := l) fun j hj => hcl j (by omega); refine VC.exit (VC.seq (VC.text ?_)); refine VO.setV (cs' := [I (0 : Int)]) vt26 .v ?_; refine VO.go ?_; refine VC.ret ?_; exact VEnd.one rfl (.cell (x := (0 : Int)) rfl m0 vt26 .refl) (pvI (by rw [hst, hr1, hct] <;> rfl))
end Go.Proofs
namespace Go.Proofs
open Go.Fs
set_option maxHeartbeats 1000000
theorem sk_0 {g : Gat} {l : List Int} {k : Nat} (h : setE g (l.getD k 0) = 0) (h2 : ¬ l.getD k 0 ≤ lastB l k) : skE g l k = 0 := by
  rw [skE, h, decide_eq_false h2] <;> rfl
theorem AscS.res2 {g : Gat} {l : List Int} (hz : firstR (skE g l) 0 l.length = 0) : stkC g l = if l.contains 0 = true ∧ l.contains (fulI g.1.length) = false ∧ closB g l = true then 0 else 22 := by
  unfold stkC; rw [if_neg (fun e => e hz)]
end Go.Proofs
namespace Go.Fs
variable {P : Program} {O : FuncId → List Value → Heap → Option (Value × Heap)} {h : Heap} {S : List Nat}
theorem elems_int {rs : List Value} {xs : List Int} (he : Elems h S (.int .i64) rs xs) : rs = xs.map (.int .i64) := by
  have := elems_L (τ := .int .i64) rfl he; rw [this]; show xs.flatMap (fun x => [Value.int .i64 x]) = _; clear this he
  induction xs with
  | nil => rfl
  | cons x r ih => simp [ih]
theorem int_elems {xs : List Int} : Elems h S (.int .i64) (xs.map (.int .i64)) xs := ⟨by simp [Ty.size], fun i hi => by
  show (((xs.map (Value.int .i64)).drop (i * 1)).take 1) = [.int .i64 xs[i]]; rw [Nat.mul_one, List.drop_eq_getElem_cons (by simpa using hi)]
  simp⟩
theorem VFG.sortI {O2 : FuncId → List Value → Heap → Option (Value × Heap)} {fs : FuncId} {e : TypeId} {w : Value} {xs : List Int} (hn : xs.length ≤ 1000000) (hE : ∀ us h, O2 fs us h = orcJ fs O fs us h) :
    VFG P O2 fs [.raw w] [(w, .row e (.int .i64) xs)] fun r γ' => r = .tup [] ∧ γ' = [(w, .row e (.int .i64) (Fs.sortI xs))] := fun h S us hok hS hcells hnd hsep ha => by
  obtain ⟨u, r, rfl, h1, h2⟩ := ha; obtain rfl : r = [] := h2; obtain rfl : u = w := h1; rcases hcells _ List.mem_cons_self with ⟨hw, hx⟩ | ⟨b, rs, m, hw, h3, h4, h5⟩
  · have hw : u = .slice none 0 0 := hw; have hx : xs = [] := hx; subst hw hx; refine EvF.oracle (v := .tuple #[]) (h' := h) (by rw [hE]; simp only [orcJ, Nat.beq_refl, cond_true]) ?_; refine ⟨_, _, ⟨rfl, rfl⟩, ⟨Aft.refl _ _, fun b hb => (by cases hb), List.nodup_nil, fun c hc => ?_⟩, ⟨[], rfl, rfl⟩⟩
    obtain rfl : c = _ := by simpa using hc
    exact .inl ⟨rfl, by simp [Fs.sortI]⟩
  have hw : u = .slice (some ⟨b, 0, none⟩) xs.length 0 := hw; have hrs := elems_int h5; subst hw hrs
  have ho : orcJ fs O fs [.slice (some ⟨b, 0, none⟩) xs.length 0] h = some (.tuple #[], h.set b (.row e ((Fs.sortI xs).map (.int .i64)) true m)) := by
    have e1 : Nat.ble xs.length (xs.map (Value.int .i64)).length = true := by rw [Nat.ble_eq]; simp
    have e2 : Nat.ble xs.length 1000000 = true := by rw [Nat.ble_eq]; exact hn
    have e3 : (xs.map (Value.int .i64)).take xs.length = xs.map (.int .i64) := List.take_of_length_le (by simp)
    have e4 : splice (xs.map (Value.int .i64)) 0 ((Fs.sortI xs).map (.int .i64)) = (Fs.sortI xs).map (.int .i64) := by
      unfold splice; rw [List.take_zero, List.nil_append, List.drop_of_length_le (by simp [sortI_length]), List.append_nil]
    simp only [orcJ, Nat.beq_refl, cond_true, h4, e1, e2, Bool.and_self, e3, ints_map, e4]
  refine EvF.oracle ((hE _ _).trans ho) ⟨_, _, ⟨rfl, rfl⟩, ⟨Aft.set h4 (by simp [own, blk]), fun b' hb' => .inl (by simpa [own, blk] using hb'), by simp [own, blk], fun c hc => ?_⟩, ⟨[], rfl, rfl⟩⟩
  obtain rfl : c = _ := by simpa using hc
  refine .inr ⟨b, _, m, by rw [sortI_length], by simp [own, blk], by rw [Heap.get_set h4, if_pos rfl], int_elems⟩
end Go.Fs
namespace Go.Proofs
open Go.Fs
set_option maxHeartbeats 1000000
inductive Reach (g : Gat) : Int → Prop where
  | zero : Reach g 0
  | step {s : Int} {y : Int × Int} (h : Reach g s) (hy : y ∈ moreL g s) : Reach g y.2
theorem Reach.ok {g : Gat} (h9 : g.1.length ≤ 9) {s : Int} (h : Reach g s) : SetOk g.1.length s := by
  induction h with
  | zero => exact zero_ok h9
  | step _ hy ih => exact (more_ok ih hy).1
theorem ord_back {g : Gat} (h9 : g.1.length ≤ 9) {s : Int} (h : Reach g s) : (ordN g s).isSome = true → (ordN g 0).isSome = true := by
  induction h with
  | zero => exact id
  | @step s y hs hy ih =>
    intro h2; refine ih ?_; have h3 := more_ok (hs.ok h9) hy; unfold ordN at h2 ⊢; rw [← h3.2.1, ordF_s, List.findSome?_isSome_iff]; refine ⟨y, hy, ?_⟩; unfold stF; rw [Option.isSome_map]; exact h2
theorem ord_fwd {g : Gat} (h9 : g.1.length ≤ 9) : ∀ (f : Nat) {s : Int}, Reach g s → misN g.1.length s = f → (ordF g f s).isSome = true → Reach g (fulI g.1.length)
  | 0, s, h, hf, _ => by rw [← (mis_full (h.ok h9)).1 hf]; exact h
  | f + 1, s, h, hf, ho => by
    rw [ordF_s, List.findSome?_isSome_iff] at ho; obtain ⟨y, hy, hs⟩ := ho; unfold stF at hs; rw [Option.isSome_map] at hs; have h3 := more_ok (h.ok h9) hy; exact ord_fwd h9 f (h.step hy) (by omega) hs
theorem ord_reach {g : Gat} (h9 : g.1.length ≤ 9) : (ordN g 0).isSome = true ↔ Reach g (fulI g.1.length) := by
  constructor
  · exact fun h => ord_fwd h9 _ .zero rfl h
  intro h; refine ord_back h9 h ?_; unfold ordN; rw [(mis_full (ful_ok h9)).2 rfl] <;> rfl
open Classical in
noncomputable def reaL (g : Gat) : List Int := ((List.range (2 ^ g.1.length)).filter fun a => decide (Reach g ((a : Nat) : Int))).map fun a => ((a : Nat) : Int)
theorem reaL_mem {g : Gat} (h9 : g.1.length ≤ 9) {s : Int} : s ∈ reaL g ↔ Reach g s := by
  unfold reaL; simp only [List.mem_map, List.mem_filter, List.mem_range, decide_eq_true_eq]; constructor
  · rintro ⟨a, ⟨_, h⟩, rfl⟩; exact h
  intro h; have h1 := h.ok h9; refine ⟨s.toNat, ⟨h1.hi, ?_⟩, ?_⟩
  · rw [Int.toNat_of_nonneg h1.lo]; exact h
  exact Int.toNat_of_nonneg h1.lo
theorem reaL_asc {g : Gat} : (reaL g).Pairwise (· < ·) := by
  unfold reaL; rw [List.pairwise_map]
  exact (List.pairwise_lt_range.filter _).imp fun h => by omega
def addM (L : List Int) (ys : List (Int × Int)) : List Int := ys.foldl (fun L y => if L.contains y.2 = true then L else L ++ [y.2]) L
theorem addM_cons {L : List Int} {y : Int × Int} {ys : List (Int × Int)} : addM L (y :: ys) = addM (addM L [y]) ys := rfl
theorem addM_t {L : List Int} {y : Int × Int} (h : L.contains y.2 = true) : addM L [y] = L := if_pos h
theorem addM_f {L : List Int} {y : Int × Int} (h : L.contains y.2 = false) : addM L [y] = L ++ [y.2] := if_neg (by rw [h]; decide)
def bfsL (g : Gat) : Nat → List Int
  | 0 => [0]
  | k + 1 => addM (bfsL g k) (moreL g ((bfsL g k).getD k 0))
structure Fnd (g : Gat) (L : List Int) : Prop where
  nd : L.Nodup
  z : (0 : Int) ∈ L
  r : ∀ s ∈ L, Reach g s
theorem Fnd.one {g : Gat} {L : List Int} (h : Fnd g L) {y : Int × Int} (hy : Reach g y.2) : Fnd g (addM L [y]) ∧ (∀ s ∈ L, s ∈ addM L [y]) ∧ y.2 ∈ addM L [y] ∧ ∃ z, addM L [y] = L ++ z := by
  cases hc : L.contains y.2 with
  | true => rw [addM_t hc]; exact ⟨h, fun s hs => hs, List.contains_iff_mem.1 hc, [], by simp⟩
  | false =>
    rw [addM_f hc]
    have hn : y.2 ∉ L := fun hm => by rw [List.contains_iff_mem.2 hm] at hc; cases hc
    refine ⟨⟨?_, List.mem_append_left _ h.z, fun s hs => ?_⟩, fun s hs => List.mem_append_left _ hs, List.mem_append_right _ (List.mem_singleton.2 rfl), [y.2], rfl⟩
    · refine List.nodup_append.2 ⟨h.nd, List.nodup_cons.2 ⟨by simp, List.nodup_nil⟩, fun a ha b hb e => ?_⟩; rw [List.mem_singleton.1 hb] at e; exact hn (e ▸ ha)
    rcases List.mem_append.1 hs with hs | hs
    · exact h.r s hs
    rw [List.mem_singleton.1 hs]; exact hy
theorem Fnd.add {g : Gat} : ∀ {ys : List (Int × Int)} {L : List Int}, Fnd g L → (∀ y ∈ ys, Reach g y.2) → Fnd g (addM L ys) ∧ (∀ s ∈ L, s ∈ addM L ys) ∧ (∀ y ∈ ys, y.2 ∈ addM L ys) ∧ ∃ z, addM L ys = L ++ z
  | [], L, h, _ => ⟨h, fun s hs => hs, fun y hy => (by cases hy), [], by simp [addM]⟩
  | y :: ys, L, h, hy => by
    obtain ⟨h1, h2, h3, z1, h4⟩ := h.one (hy y List.mem_cons_self); obtain ⟨k1, k2, k3, z2, k4⟩ := h1.add fun w hw => hy w (List.mem_cons_of_mem _ hw); rw [addM_cons]; refine ⟨k1, fun s hs => k2 _ (h2 s hs), fun w hw => ?_, z1 ++ z2, by rw [k4, h4, List.append_assoc]⟩; rcases List.mem_cons.1 hw with rfl | hw
    · exact k2 _ h3
    exact k3 w hw
theorem Fnd.len {g : Gat} (h9 : g.1.length ≤ 9) {L : List Int} (h : Fnd g L) : L.length ≤ 2 ^ g.1.length := by
  have h1 : (L.map Int.toNat).Nodup := by
    rw [List.Nodup, List.pairwise_map]; refine h.nd.imp_of_mem fun {a b} ha hb hne e => hne ?_; have := ((h.r a ha).ok h9).lo; have := ((h.r b hb).ok h9).lo; omega
  have h2 : (L.map Int.toNat) ⊆ List.range (2 ^ g.1.length) := fun x hx => by
    obtain ⟨s, hs, rfl⟩ := List.mem_map.1 hx; exact List.mem_range.2 ((h.r s hs).ok h9).hi
  have hp : (L.map Int.toNat).Perm ((List.range (2 ^ g.1.length)).filter fun x => (L.map Int.toNat).contains x) := (List.perm_ext_iff_of_nodup h1 (List.nodup_range.filter _)).2 fun x => by
    rw [List.mem_filter, List.contains_iff_mem]; exact ⟨fun hx => ⟨h2 hx, hx⟩, fun hx => hx.2⟩
  have h3 := hp.length_eq; rw [List.length_map] at h3; have h4 := List.length_filter_le (fun x => (L.map Int.toNat).contains x) (List.range (2 ^ g.1.length)); rw [List.length_range] at h4; omega
theorem Fnd.all {g : Gat} {L : List Int} (h : Fnd g L) (hc : ∀ k, k < L.length → ∀ y ∈ moreL g (L.getD k 0), y.2 ∈ L) {s : Int} (hs : Reach g s) : s ∈ L := by
  induction hs with
  | zero => exact h.z
  | step _ hy ih =>
    obtain ⟨k, hk, rfl⟩ := List.mem_iff_getElem.1 ih; exact hc k hk _ (by rw [getDg hk]; exact hy)
theorem sort_same {L M : List Int} (h1 : L.Pairwise (· < ·)) (h2 : M.Pairwise (· < ·)) (h : ∀ s, s ∈ L ↔ s ∈ M) : L = M := by
  have hp : L.Perm M := (List.perm_ext_iff_of_nodup (h1.imp fun h => by omega) (h2.imp fun h => by omega)).2 h; exact hp.eq_of_pairwise (fun a b _ _ hab hba => absurd hab (by omega)) h1 h2
theorem sortI_mem {L : List Int} {s : Int} : s ∈ Fs.sortI L ↔ s ∈ L := by
  unfold Fs.sortI; exact (List.mergeSort_perm L _).mem_iff
theorem sortI_asc {L : List Int} (h : L.Nodup) : (Fs.sortI L).Pairwise (· < ·) := by
  have h1 : (Fs.sortI L).Pairwise fun a b => decide (a ≤ b) = true := List.pairwise_mergeSort (fun a b c h1 h2 => by simp at *; omega) (fun a b => by simp; omega) L; have h2 : (Fs.sortI L).Nodup := (List.mergeSort_perm L _).nodup_iff.2 h
  exact (h1.and h2).imp fun h => by
    have := of_decide_eq_true h.1; have := h.2; omega
theorem Fnd.sorted {g : Gat} (h9 : g.1.length ≤ 9) {L : List Int} (h : Fnd g L) (hc : ∀ k, k < L.length → ∀ y ∈ moreL g (L.getD k 0), y.2 ∈ L) : Fs.sortI L = reaL g :=
  sort_same (sortI_asc h.nd) reaL_asc fun s => by
    rw [sortI_mem, reaL_mem h9]; exact ⟨h.r s, h.all hc⟩
structure Bfs (g : Gat) (k : Nat) : Prop where
  f : Fnd g (bfsL g k)
  le : k ≤ (bfsL g k).length
  cl : ∀ j, j < k → ∀ y ∈ moreL g ((bfsL g k).getD j 0), y.2 ∈ bfsL g k
theorem bfs_0 {g : Gat} : Bfs g 0 := ⟨⟨List.nodup_cons.2 ⟨by simp, List.nodup_nil⟩, List.mem_singleton.2 rfl, fun s hs => by rw [List.mem_singleton.1 hs]; exact .zero⟩, Nat.zero_le _, fun j hj => by omega⟩
theorem bfs_s {g : Gat} {k : Nat} (h : Bfs g k) (hk : k < (bfsL g k).length) : Bfs g (k + 1) := by
  have hr : Reach g ((bfsL g k).getD k 0) := by rw [getDg hk]; exact h.f.r _ (List.getElem_mem hk)
  obtain ⟨h1, h2, h3, z, h4⟩ := h.f.add (ys := moreL g ((bfsL g k).getD k 0)) fun y hy => hr.step hy; have e : bfsL g (k + 1) = bfsL g k ++ z := h4
  have hg : ∀ j, j < k + 1 → (bfsL g (k + 1)).getD j 0 = (bfsL g k).getD j 0 := fun j hj => by
    rw [e, List.getD_eq_getElem?_getD, List.getElem?_append_left (by omega), ← List.getD_eq_getElem?_getD]
  refine ⟨h1, by rw [e, List.length_append]; omega, fun j hj y hy => ?_⟩; rw [hg j hj] at hy; by_cases ej : j = k
  · subst ej; exact h3 y hy
  exact h2 _ (h.cl j (by omega) y hy)
theorem pow_le9 {n : Nat} (h : n ≤ 9) : 2 ^ n ≤ 512 := Nat.pow_le_pow_right (by decide) (show n ≤ 9 from h)
theorem last_full {g : Gat} (h9 : g.1.length ≤ 9) (h : (reaL g).length - 1 < (reaL g).length) : (reaL g)[(reaL g).length - 1] = fulI g.1.length ↔ Reach g (fulI g.1.length) := by
  constructor
  · intro e; rw [← e]; exact (reaL_mem h9).1 (List.getElem_mem h)
  intro hr; obtain ⟨k, hk, he⟩ := List.mem_iff_getElem.1 ((reaL_mem h9).2 hr); have h1 := ful_max (((reaL_mem h9).1 (List.getElem_mem h)).ok h9); by_cases e : k = (reaL g).length - 1
  · subst e; exact he
  have := List.pairwise_iff_getElem.1 reaL_asc k ((reaL g).length - 1) hk h (by omega); rw [he] at this; omega
theorem zSortI_ok {w_l : Value} {l : List Int} (hl : l.length ≤ 1000000) : VFG Tryz.prog OA 139 [.raw w_l] [(w_l, .row 3 (.int .i64) l)] (fun r g => r = .tup [] ∧ g = [(w_l, .row 3 (.int .i64) (Fs.sortI l))]) := VFG.sortI (O := Fs.orcA 160 160 14) hl fun _ _ => rfl
open Classical in
noncomputable def stuR (g : Gat) : List Int := if gatesE g = 0 ∧ ¬ Reach g (fulI g.1.length) then reaL g else []
open Classical in
noncomputable def stuE (g : Gat) : Int := if gatesE g = 0 then (if Reach g (fulI g.1.length) then 7 else 0) else gatesE g
theorem cStuck_ok {g : (List Int) × (List Int) × (List (List Int))} (hl : g.1.length < 1000) (hr : ∀ row ∈ g.2.2, row.length < 1000) : VF Tryz.prog OA 70 [.v y92 g] (.tup [.v y25 (stuR g), I (stuE g)]) := by
  refine VF.enter Tryz.func70 rfl (fun _ _ => rfl) rfl ?_; show VC _ _ _ _ _ [(0, .v y92 g)] [] _; refine VC.seq (VC.text ?_); refine VO.new (.box) ?_; refine VO.c (.assign rfl) (VO.c (.assign rfl) ?_); refine VO.go (VC.seq (VC.seq (VC.text ?_))); refine VO.r (.ld vt92) ?_; refine VO.call rfl rfl (VF.call (cGates_ok hl hr)) ?_; refine VO.c (.assign rfl) ?_; refine VO.go (VC.seq (VC.text ?_)); refine VO.c (.move rfl) (VO.c (.neq) (VO.go ?_)); refine VC.condD rfl (fun c2 => ?_) (fun c2 => ?_)
  · refine VC.seq (VC.text ?_); refine VO.c (.move rfl) (VO.c (.assign rfl) (VO.c (.assign rfl) (VO.go ?_))); refine VC.ret ?_; exact VEnd.two rfl (evC .nil) evT (pvE (by rw [stuR, if_neg (fun h => c2 h.1)])) (pvI (by rw [stuE, if_neg c2]))
  have hz : gatesE g = 0 := Classical.not_not.1 c2; have hd := head_ok (gates_ok hz).1
  have h9 : g.1.length ≤ 9 := by omega
  have hp9 := pow9 (n := g.1.length) h9; have hfe := ful_eq (n := g.1.length); have hpw := pow_le9 h9; refine VC.skip (VC.seq (VC.text ?_)); refine VO.cell (.lit [(0 : Int)] el25) ?_; intro ww1; refine VO.cell (.alloc zt25) ?_; intro ww2; refine VO.one m1 fun ho3 => ?_; refine VO.setV (cs' := [.raw ww1]) vt25 (.raw rfl (agg_one ho3) ho3) ?_; refine VO.go (VC.seq (VC.seq (VC.text ?_))); refine VO.c (.assign rfl) ?_; refine VO.go (VC.block ?_); refine VC.keep [(1, .p y92 g), (5, .raw ww2), (6, I ((0 : Nat) : Int))] ⟨rfl, rfl, rfl, trivial⟩ ?_; refine VC.loop (I := fun kk ff ss => ∃ (a : Nat) (wq : Value), kk = 2 ^ g.1.length - a ∧ ff = [(1, .p y92 g), (5, .raw ww2), (6, I ((a : Nat) : Int))] ∧ ss = [(ww2, .var [.raw wq]), (wq, .row 3 (.int .i64) (bfsL g a))] ∧ (Bfs g a)) ?_ _ _ _ ⟨0, ww1, rfl, rfl, rfl, (by exact bfs_0)⟩; rintro kk ff ss ⟨a, wq, hk0, rfl, rfl, hb⟩; have hfl := hb.f.len h9; have hale := hb.le; refine VC.seq (VC.seq (VC.text ?_)); refine VO.c (.move rfl) ?_; refine VO.r (.ldV m0 vt25) ?_; refine VO.r (.lenO m1 el25) ?_; refine VO.c (.lss) (VO.go ?_); refine VC.condD rfl (fun c6 => ?_) (fun c6 => ?_)
  · have hal : a < (bfsL g a).length := by omega
    have hso : SetOk g.1.length ((bfsL g a)[a]) := (hb.f.r _ (List.getElem_mem hal)).ok h9; have hrc : Reach g ((bfsL g a)[a]) := hb.f.r _ (List.getElem_mem hal); have hgd : (bfsL g a).getD a 0 = (bfsL g a)[a] := getDg hal; refine VC.skip (VC.seq (VC.block (VC.seq (VC.drawn ?_)))); refine VD.r [] (.ld vt92) (.inl rfl) ?_; refine VD.r [(ww2, .var [.raw wq]), (wq, .row 3 (.int .i64) (bfsL g a))] (.ldV m0 vt25) (.inr ⟨rfl, rfl⟩) ?_; refine VD.c (.move rfl) ?_; refine VD.co (.ixO (j := a) rfl rfl m1 el25 (by omega)) ?_; refine VD.r [(ww2, .var [.raw wq]), (wq, .row 3 (.int .i64) (bfsL g a))] (.ldO rfl m1 vt3 (by omega)) (.inr ⟨rfl, rfl⟩) ?_; refine VD.call rfl rfl (VF.call (cMore_ok )) ?_; refine VD.go (VC.block ?_); refine VC.keep [(1, .p y92 g), (5, .raw ww2), (6, I ((a : Nat) : Int)), (26, .clo 156 [] [.p y92 g, .p (.int .i64) ((bfsL g a)[a])])] ⟨rfl, rfl, rfl, rfl, trivial⟩ ?_; refine VC.rangeFunc rfl (cMore1_ok hz hso) (fun _ => rfl) rfl rfl (fun rest ss => ∃ (M : List Int), ∃ (wz : Value), ss = [(ww2, .var [.raw wz]), (wz, .row 3 (.int .i64) M)] ∧ (addM M rest = bfsL g (a + 1)) ∧ (Fnd g M) ∧ (∀ y ∈ rest, y ∈ moreL g (bfsL g a)[a])) (fun ee ss => False) ⟨bfsL g a, wq, rfl, (by show _ = addM _ _; rw [hgd]), (by exact hb.f), (by exact fun y hy => hy)⟩ ?_ ?_ ?_
    · rintro jj x rest _ ⟨M, wz, rfl, hM, hF, hsu⟩; show VC _ _ _ _ _ [(28, I x.2), (27, I x.1), (1, .p y92 g), (5, .raw ww2), (6, I ((a : Nat) : Int)), (26, .clo 156 [] [.p y92 g, .p (.int .i64) ((bfsL g a)[a])])] [(ww2, .var [.raw wz]), (wz, .row 3 (.int .i64) M)] _; refine VC.text ?_; have hml := hF.len h9; refine VO.c (.assign rfl) ?_; refine VO.nil ?_; refine ⟨rfl, ?_⟩; refine VC.block (VC.seq (VC.text ?_)); refine VO.r (.ldV m0 vt25) ?_; refine VO.c (.move rfl) ?_; refine VO.callC rfl rfl .same (.cons (.row m1) (.cons .same .nil)) rfl (VF.call (zContI_ok (by omega))) ?_; refine VO.c (.not) (VO.go ?_); refine VC.condB rfl (fun c10 => ?_) (fun c10 => ?_)
      · try simp only [Bool.and_eq_true, Bool.or_eq_true, Bool.and_eq_false_iff, Bool.or_eq_false_iff, Bool.not_eq_true', Bool.not_eq_false', decide_eq_true_eq, decide_eq_false_iff_not] at c10
        have hax : addM M [x] = M ++ [x.2] := addM_f (by simpa using c10); refine VC.text ?_; refine VO.r (.ldV m0 vt25) ?_; refine VO.c (.move rfl) ?_; refine VO.new (.lit [x.2] el25) ?_; refine VO.perm swap1 ?_; refine VO.app rfl rfl el25 el25 (by simp; omega) ?_; intro ww4; refine VO.perm swap1 ?_; refine VO.one m1 fun ho5 => ?_; refine VO.setV (cs' := [.raw ww4]) vt25 (.raw rfl (agg_one ho5) ho5) ?_; refine VO.nil ?_; exact .inl ⟨rfl, addM M [x], ww4, (by rw [hax]), (by rw [← hM] <;> rfl), (by exact (hF.one (hrc.step (hsu x List.mem_cons_self))).1), (by exact fun y hy => hsu y (List.mem_cons_of_mem _ hy))⟩
      try simp only [Bool.and_eq_true, Bool.or_eq_true, Bool.and_eq_false_iff, Bool.or_eq_false_iff, Bool.not_eq_true', Bool.not_eq_false', decide_eq_true_eq, decide_eq_false_iff_not] at c10
      have hax : addM M [x] = M := addM_t (by simpa using c10); refine VC.skip ?_; exact .inl ⟨rfl, addM M [x], wz, (by rw [hax]), (by rw [← hM] <;> rfl), (by exact (hF.one (hrc.step (hsu x List.mem_cons_self))).1), (by exact fun y hy => hsu y (List.mem_cons_of_mem _ hy))⟩
    · rintro _ ⟨M, wz, rfl, hM, hF, hsu⟩; refine VC.text ?_; refine VO.c (.move rfl) (VO.c (.add rfl rfl (by omega)) (VO.c (.assign rfl) ?_)); refine VO.nil ?_; refine ⟨_, [(1, .p y92 g), (5, .raw ww2), (6, I (((a + 1) : Nat) : Int))], ?_, ⟨rfl, rfl, rfl, trivial⟩, (a + 1), wz, rfl, rfl, (by rw [show M = bfsL g (a + 1) from hM]), (by exact bfs_s hb hal)⟩; omega
    rintro _ _ _ ⟨⟩
  have hae : a = (bfsL g a).length := by omega
  have hsr : Fs.sortI (bfsL g a) = reaL g := hb.f.sorted h9 fun k hk => hb.cl k (by omega); have hre : 0 < (reaL g).length := List.length_pos_of_mem ((reaL_mem h9).2 .zero)
  have hrl : (reaL g).length ≤ 512 := by rw [← hsr, sortI_length]; omega
  refine VC.exit (VC.seq (VC.text ?_)); refine VO.r (.ldV m0 vt25) ?_; refine VO.perm swap1 ?_; refine VO.callG [(wq, .row 3 (.int .i64) (bfsL g a))] rfl rfl rfl (VFG.call (zSortI_ok (by first | assumption | omega | simp))) ?_; rintro _ _ ⟨rfl, rfl⟩; show VO _ _ _ _ _ _ [(wq, .row 3 (.int .i64) (Fs.sortI (bfsL g a))), (ww2, .var [.raw wq])] _; rw [hsr]; refine VO.go (VC.seq (VC.seq (VC.drawn ?_))); refine VD.r [(wq, .row 3 (.int .i64) (reaL g)), (ww2, .var [.raw wq])] (.ldV m1 vt25) (.inr ⟨rfl, rfl⟩) ?_; refine VD.r [(wq, .row 3 (.int .i64) (reaL g)), (ww2, .var [.raw wq])] (.ldV m1 vt25) (.inr ⟨rfl, rfl⟩) ?_; refine VD.r [(wq, .row 3 (.int .i64) (reaL g)), (ww2, .var [.raw wq])] (.lenO m0 el25) (.inr ⟨rfl, rfl⟩) ?_; refine VD.c (.sub rfl rfl (by omega)) ?_; refine VD.co (.ixO (j := (reaL g).length - 1) rfl (congrArg (fun z : Int => some (PV.v (.int .i64) z)) (show ((((reaL g).length : Nat) : Int) - (1 : Int)) = (((reaL g).length - 1 : Nat) : Int) by omega)) m0 el25 (by omega)) ?_; refine VD.r [(wq, .row 3 (.int .i64) (reaL g)), (ww2, .var [.raw wq])] (.ldO rfl m0 vt3 (by omega)) (.inr ⟨rfl, rfl⟩) ?_; refine VD.nw [] (VD.c (.fa (.l .o)) ?_); refine VD.r [] (.ld vt25) (.inl rfl) ?_; refine VD.r [] (.len el25) (.inl rfl) ?_; refine VD.c (.shl rfl rfl (by omega) (by omega)) (VD.c (.sub rfl rfl (by omega)) (VD.c (.eql) (VD.go ?_))); refine VC.condD rfl (fun c13 => ?_) (fun c13 => ?_)
  · have hR : Reach g (fulI g.1.length) := (last_full h9 (by omega)).1 (c13.trans hfe); refine VC.seq (VC.text ?_); refine VO.c (.assign rfl) (VO.c (.assign rfl) (VO.go ?_)); refine VC.ret ?_; exact VEnd.two rfl (evC .nil) evT (pvE (by rw [stuR, if_neg (fun h => h.2 hR)])) (pvI (by rw [stuE, if_pos hz, if_pos hR]))
  have hR : ¬ Reach g (fulI g.1.length) := fun h => c13 (((last_full h9 (by omega)).2 h).trans hfe.symm); refine VC.skip (VC.seq (VC.text ?_)); refine VO.r (.ldV m1 vt25) ?_; refine VO.c (.assign rfl) (VO.c (.assign rfl) (VO.go ?_)); refine VC.ret ?_; exact VEnd.two rfl (evC (.row m0)) evT (pvE (by rw [stuR, if_pos ⟨hz, hR⟩])) (pvI (by rw [stuE, if_pos hz, if_neg hR]))
end Go.Proofs
namespace Go.Proofs
open Go.Fs
set_option maxHeartbeats 1000000
theorem nxt_reach {g : Gat} (h9 : g.1.length ≤ 9) {s : Int} (h : Reach g s) {j : Nat} (hj : j < g.1.length) (hp : permE g (nxtI s j) g.1.length = true) : Reach g (nxtI s j) := by
  cases hb : s.toNat.testBit j with
  | true => rw [nxt_self (h.ok h9) hj hb]; exact h
  | false =>
    have hm : (((j : Nat) : Int), nxtI s j) ∈ moreL g s := more_mem.2 ⟨j, hj, by unfold mayB; rw [hb, hp]; rfl, rfl⟩; exact h.step hm
end Go.Proofs
namespace Go.Proofs
open Go.Fs
set_option maxHeartbeats 1000000
theorem ordM_le {g : Gat} (hz : gatesE g = 0) : ((ordN g 0).getD []).length ≤ g.1.length := by
  have hd := head_ok (gates_ok hz).1; rw [← ordM_0 hz]; have := ordM_len (g := g) (misN g.1.length 0) 0 []; rw [mis_zero] at this; rw [mis_zero]; exact this
theorem ordR_le {g : Gat} : (ordR g).length ≤ g.1.length := by
  unfold ordR; by_cases h : gatesE g = 0
  · rw [if_pos h]; exact ordM_le h
  rw [if_neg h]; exact Nat.zero_le _
theorem reaL_le {g : Gat} (h9 : g.1.length ≤ 9) : (reaL g).length ≤ 512 := by
  unfold reaL; rw [List.length_map]; have := pow_le9 h9; exact Nat.le_trans (List.length_filter_le _ _) (by simpa using this)
theorem stuR_le {g : Gat} : (stuR g).length ≤ 512 := by
  unfold stuR; split
  · rename_i h; have hd := head_ok (gates_ok h.1).1; exact reaL_le (by omega)
  exact Nat.zero_le _
end Go.Proofs
namespace Go.Fs
variable {P : Program} {orc : FuncId → List Value → Heap → Option (Value × Heap)} {rnd : Option Nat} {h h' h0 h1 h2 : Heap} {S S' S0 B G : List Nat} {σ σ' σr : Sto} {t t' : Tr} {ms : List Nat} {fl : VL} {ops : Array Oper} {n i mem : Nat} {l : List Oper} {K : VL → Sto → Prop} {Q : Ex → VL → Sto → Prop}
  {d : Tmp} {ty : TypeId} {pos : String} {after : Array Edge} {op : Op} {v pv : PV} {g : Option (Nat × Bool)} {x y z : Operand} {T T' e : TypeId} {τ τ' : Ty} {bs nw : List Nat} {segs : List (Nat × Nat × Nat)} {tail so : Bool} {w w' : Value} {c c' : Cell}
end Go.Fs
namespace Go.Fs
variable {P : Program} {orc : FuncId → List Value → Heap → Option (Value × Heap)} {rnd : Option Nat} {h h' h0 h1 h2 : Heap} {S S' S0 G : List Nat} {σ σ' σr γ γ' : Sto} {t t' : Tr} {ms : List Nat} {fl nw : VL} {ops : Array Oper} {n i mem : Nat} {l : List Oper} {K : VL → Sto → Prop} {Q : Ex → VL → Sto → Prop}
  {d : Tmp} {ty : TypeId} {pos : String} {after : Array Edge} {op : Op} {v pv : PV} {g : Option (Nat × Bool)} {bs nw0 : List Nat} {tail so : Bool} {x y z : Operand} {T T' e : TypeId} {τ τ' : Ty} {w w' : Value}
theorem old_list {hs : Heap} {fl : VL} (h5 : ∀ k pv, lkV fl k = some pv → nwHas nw0 k = false → RepPV hs S pv (t.get k)) : ∀ (l : List Operand) (asl : List PV), evVs fl l = some asl → l.all (oldX nw0) = true → RepL hs S asl (l.map (evalO t)) := by
  intro l
  induction l with
  | nil => intro asl hx _; obtain rfl := Option.some.inj hx; rfl
  | cons x r ih =>
    intro asl hx hl; rw [List.all_cons] at hl; obtain ⟨l1, l2⟩ := band hl; simp only [evVs] at hx; split at hx
    · rename_i v vs0 hv hvs; obtain rfl := Option.some.inj hx; exact ⟨_, _, rfl, old_sees h5 hv l1, ih vs0 hvs l2⟩
    cases hx
theorem VD.callGU {b : Nat} {f : Operand} {args : Array Operand} {ats : Array TypeId} {F : PV} {asl : List PV} {Qr : PV → Sto → Prop} (hf : evV fl f = some F) (ha : evVs fl args.toList = some asl) (hc : VCallG P orc F asl [] Qr) (hk : ∀ r γ', Qr r γ' → VD P orc ops n l (i + 1) ((d, r) :: fl) (nwSet false d nw0) (γ' ++ σ) false (bs ++ [b]) (mem ||| 2 ^ i) false K)
    (hb : beforeOf bs ⟨some d, .call { callee := .value f, args := args, argTypes := ats }, ty, pos, after, g⟩ = b := by rfl) (hold : (oldX nw0 f && args.toList.all (oldX nw0)) = true := by rfl) (hw : wantV ops fl g = some true := by rfl) (hn : (Nat.blt d n && Nat.ble n 4000) = true := by rfl) :
    VD P orc ops n (⟨some d, .call { callee := .value f, args := args, argTypes := ats }, ty, pos, after, g⟩ :: l) i fl nw0 σ so bs mem false K := fun h0 G S0 t h ms segs I ho => by
  obtain ⟨n1, n2⟩ := fits hn; obtain ⟨o1, o2⟩ := band hold; obtain ⟨M, m1, m2, m3, m4, m5, m6, m7⟩ := seen_ok (mem := mem) I hb ho; obtain ⟨hs, a1, a2, a3, a4, a5, a6, a7⟩ := m7 rfl; have hN : Goes hs (own σ ++ S0) M (own σ ++ S0) := a3.nx a1; obtain ⟨fid, a, c, rfl, hv⟩ := hc; obtain ⟨va, vc, h1, h2, h3⟩ := ((old_sees a6 hf o1).nx hN : RepPV M _ (.clo fid a c) (evalO t f)); have hargs := (h2.append ((old_list a6 _ _ ha o2).nx hN)).append h3; refine EvD.call (o := ⟨some d, .call { callee := .value f, args := args, argTypes := ats }, ty, pos, after, g⟩) (want_ok I.slots hw) rfl rfl h1 rfl ?_; rw [m1]; refine (hv M (own σ ++ S0) _ m2 ⟨fun b hb => by rw [m3]; exact Lc.lt I.lc b hb, I.slots.1.seen a2 a3 a5⟩ (fun c hc => by cases hc) List.nodup_nil (fun b hb => by cases hb) hargs).mono fun u h' hq => ?_; obtain ⟨r, γ', q1, q2, q3⟩ := hq; have hA : After M h' := q2.aft.after; have hl : h.next ≤ h'.low := hA.low h.next (by omega) (by omega)
  have hlow : Nat.ble h.next h'.low = true := by rw [Nat.ble_eq]; exact hl
  have hnx : h.next ≤ h'.next := by have := hA.next; omega
  refine ⟨blt_of_le hnx, by simp only [hlow, Bool.true_or], _, put_fits n1 t u, ?_⟩
  have hd : drewOn ⟨some d, .call { callee := .value f, args := args, argTypes := ats }, ty, pos, after, g⟩ i ⟨t, h, bs, segs, mem, false⟩ (t.set depth d u) h' =
      ⟨t.set depth d u, { next := h'.next, low := h.low, objs := newer h.next h'.next h'.objs ++ h.objs }, bs ++ [b], (i, h.next, h'.next) :: segs, mem ||| 2 ^ i, false⟩ := by
    unfold drewOn; simp only [hlow, cond_true, hb]
  rw [hd]; obtain ⟨e1, e2⟩ := newer_left (h' := h') I.ok m5 m3 hA m2
  have hm : Made (own σ ++ S0) h { next := h'.next, low := h.low, objs := newer h.next h'.next h'.objs ++ h.objs } [] γ' := {
    aft := ⟨e1.next, fun b hb _ => e1.get b hb, e1.ok, fun e h3 h4 _ => e1.low e h3 h4, fun b hb => .inl (e1.get b hb), Nat.le_refl _⟩
    new := fun b hb => by
      rcases q2.new b hb with h5 | h5
      · exact .inl h5
      exact .inr (by omega)
    apart := q2.apart
    cells := fun c hc => (q2.cells c hc).keep (fun b hb => by
      obtain ⟨o, hg, _⟩ := (q2.cells c hc).isObj b hb
      exact ((e2 []) b _ hg (by simp)).1.trans hg.symm) (e2 _) fun b hb => List.mem_append_left _ (List.mem_flatMap.2 ⟨c, hc, hb⟩) }
  have hm2 := Made.app (γ := []) I.lc hm
  have q3' : RepPV { next := h'.next, low := h.low, objs := newer h.next h'.next h'.objs ++ h.objs } (own (γ' ++ σ) ++ S0) r u := by
    rw [own_app, List.append_assoc]; exact q3.nx (e2 _)
  refine hk r γ' q1 h0 G S0 _ _ ms _ ((I.made hm2).set q3' n2) fun ht => ?_
  obtain ⟨hs', a1, a2, a3, a4, a5, a6⟩ := (ho rfl).set (v := r) (u := u) (old := false) n2 fun e => by cases e
  refine ⟨hs', a1, a2.trans e1, SegsOk.cons a2.next a3, a4, fun k pv hk hn => (a5 k pv hk hn).nx (h := hs') fun b ob hg hb => ⟨hg, ?_⟩, fun e => by cases e⟩; have h3 := a1 b ob hg; have h4 := a2.next; intro hmm; rcases List.mem_append.1 hmm with hmm | hmm
  · rcases hm2.new b hmm with h5 | h5
    · exact hb (List.mem_append_left _ h5)
    omega
  exact hb (List.mem_append_right _ hmm)
end Go.Fs
namespace Go.Fs
variable {P : Program} {orc : FuncId → List Value → Heap → Option (Value × Heap)} {rnd : Option Nat} {h h' h0 h1 h2 : Heap} {S S' S0 G : List Nat} {σ σ' σr γ γ' : Sto} {t t' : Tr} {ms : List Nat} {fl nw : VL} {ops : Array Oper} {n i mem : Nat} {l : List Oper} {K : VL → Sto → Prop} {Q : Ex → VL → Sto → Prop}
  {d : Tmp} {ty : TypeId} {pos : String} {after : Array Edge} {op : Op} {v pv : PV} {g : Option (Nat × Bool)} {bs nw0 : List Nat} {tail so : Bool} {x y z : Operand} {T T' e : TypeId} {τ τ' : Ty} {w w' : Value}
theorem ReadV.ldAll {cs : List PV} (hm : (w, Cell.var cs) ∈ σ) (hT : ValT P T τ) (hl : cs.length = τ.size := by rfl) (ha : τ.agg = true := by rfl) (hx : evV fl x = some (.raw w) := by rfl) : ReadV P fl σ (.load T x) (.agg cs) :=
  ⟨rfl, fun h S t hs hcc => by
    have h1 : evalO t x = w := hs x (by simp [Op.operands]) _ hx; obtain ⟨b, e, vs, h3, h4, h5, h6, _⟩ := hcc _ hm; refine ⟨.agg vs.toArray, ⟨vs, rfl, h6⟩, fun H hH _ _ _ _ _ => ?_⟩; have hB : BoxR H 0 w vs := ⟨b, e, h3, Nat.zero_le _, hH b _ h5⟩; show (fsLoad P T (evalO t x) H).map _ = _
    rw [h1, hB.ldA hT ha (by rw [h6.len, hl])]; rfl⟩
end Go.Fs
namespace Go.Fs
variable {P : Program} {orc : FuncId → List Value → Heap → Option (Value × Heap)} {rnd : Option Nat} {h h' h0 h1 h2 : Heap} {S S' S0 S1 S2 B G : List Nat} {σ σ' σr γ : Sto} {t t' : Tr} {ms : List Nat} {fl : VL} {ops : Array Oper} {n i mem : Nat} {l : List Oper} {K : VL → Sto → Prop} {Q : Ex → VL → Sto → Prop}
  {d : Tmp} {ty : TypeId} {pos : String} {after : Array Edge} {op : Op} {v pv : PV} {g : Option (Nat × Bool)} {x y z : Operand} {T T' e e' e2 : TypeId} {τ τ' : Ty} {w w' : Value} {c c' : Cell}
theorem raws_rep : ∀ {us : List Value}, RepL h S (us.map .raw) us
  | [] => rfl
  | u :: us => ⟨u, us, rfl, rfl, raws_rep⟩
theorem raws_eq : ∀ {us rs : List Value}, RepL h S (us.map .raw) rs → rs = us
  | [], rs, hr => hr
  | u :: us, rs, ⟨v, r, h1, h2, h3⟩ => by
    subst h1; rw [show v = u from h2, raws_eq h3]
theorem cel_grow (hT : ElT P T e (.sl τ)) (hT' : ElT P T' e (.sl τ)) {u : Value} {us vs : List Value} (hok : HOk h) (hg : CellR h S w (.cel e us.length (us.map .raw)))
    (hap : ∀ i z, i.size = 1 → z.cells.toList.all af0 = true → appended i z (isInt (.slice e)) u h = some (vs.length, vs)) (hone : vs.all oneCell = true) (hk0 : 0 < vs.length) (hsz : us.length + vs.length ≤ 1000000) :
    ∃ h', fsAppend P #[T, T'] w u h = some (.slice (some ⟨h.next, 0, none⟩) (us.length + vs.length) 0, h') ∧ Aft h h' (blk w) ∧ h'.get h.next = some (.row e (us ++ vs) true true) ∧ us.all oneCell = true := by
  obtain ⟨i, z, hi1, hi2, hi3, hi3', hi4, hi5, hi6⟩ := hT.sl.info; have hi2 : i.size = 1 := hi2; have hi5 : z.cells.size = 1 := hi5
  have hbytes : (us.length + vs.length) * i.bytes ≤ 274877906944 := by
    have := Nat.mul_le_mul hsz hi3'; omega
  unfold fsAppend; simp only [List.getElem?_toArray, List.getElem?_cons_zero, List.getElem?_cons_succ, hT.sl.sl, hT'.sl.sl, hi1, hi4, hap i z hi2 hi6, hi2]
  have hc : (Nat.blt 0 1 && Nat.blt 0 i.bytes && Nat.beq vs.length (vs.length * 1) && vs.all oneCell && Nat.beq z.cells.size 1) = true := by
    have e2 : Nat.blt 0 i.bytes = true := by show Nat.ble 1 i.bytes = true; rw [Nat.ble_eq]; exact hi3
    rw [e2, Nat.mul_one, Nat.beq_refl, hone, hi5]; rfl
  rw [hc]; simp only [cond_true]; have e0 : Nat.beq vs.length 0 = false := beq_no (by omega); rcases hg with ⟨rfl, hn0, hn1⟩ | ⟨b0, rs, m, rfl, hb0, hrow, hel, hal, hmm⟩
  · obtain rfl : us = [] := by simpa using hn1
    refine ⟨h.push (.row e vs true true), ?_, Aft.push h _ _, by rw [Heap.get_push, if_pos rfl, List.nil_append], rfl⟩; unfold fsGrow
    have e2 : Nat.ble (vs.length * i.bytes) 274877906944 = true := by rw [Nat.ble_eq]; simpa using hbytes
    simp only [e0, cond_false, e2, cond_true, grown, List.length_nil, Nat.zero_add]
  obtain rfl := raws_eq hel
  have e1 : (Nat.beq vs.length 0 && Nat.beq 0 1) = false := by rw [e0]; rfl
  have e2 : Nat.beq e e = true := Nat.beq_refl _
  have e3 : Nat.ble ((rs.length + vs.length) * i.bytes) 274877906944 = true := by rw [Nat.ble_eq]; exact hbytes
  have e4 : Nat.ble (0 + rs.length * i.size) rs.length = true := by rw [Nat.ble_eq, hi2]; omega
  have e5 : Nat.ble (0 + (rs.length + vs.length) * i.size) rs.length = false := by
    cases hx : Nat.ble (0 + (rs.length + vs.length) * i.size) rs.length with
    | false => rfl
    | true => have := nble hx; rw [hi2] at this; omega
  have e6 : Nat.beq (rs.length * i.size) rs.length = true := by rw [hi2, Nat.mul_one]; exact Nat.beq_refl _
  have e7 : Nat.beq 0 1 = false := rfl; have e8 : Nat.beq 0 0 = true := rfl; have hbk : blk (.slice (some ⟨b0, 0, none⟩) rs.length 0) = [b0] := rfl
  cases m with
  | true =>
    refine ⟨(h.drop b0).push (.row e (rs ++ vs) true true), ?_, (Aft.drop (B := blk _) (by rw [hbk]; simp)).trans (Aft.push (h.drop b0) _ []) (fun i hi => by cases hi), ?_, hal⟩
    · unfold fsGrow; simp only [hrow, e1, cond_false, e2, e3, e4, Bool.and_self, cond_true, e7, e8, e5, Bool.not_true, e6, grown, Bool.true_and, Bool.and_false]; rfl
    have : (h.drop b0).next = h.next := rfl
    rw [Heap.get_push, if_pos this.symm]
  | false =>
    refine ⟨h.push (.row e (rs ++ vs) true true), ?_, Aft.push h _ _, by rw [Heap.get_push, if_pos rfl], hal⟩; unfold fsGrow
    have e9 : (rs.drop 0).take (rs.length * i.size) = rs := by rw [List.drop_zero, hi2, Nat.mul_one, List.take_length]
    simp only [hrow, e1, cond_false, e2, e3, e4, Bool.and_self, cond_true, e7, e8, e5, Bool.not_false, grown, Bool.true_and, Bool.and_false, e9]
theorem MakeV.appM {us vs : List Value} {m : Nat} (hT : ElT P T e (.sl τ)) (hT' : ElT P T' e (.sl τ)) (hx : evV fl x = some (.raw w)) (hy : evV fl y = some (.raw w')) (hl : m = us.length) (hm : (w', Cell.cel e2 vs.length (vs.map .raw)) ∈ σ) (hk0 : 0 < vs.length) (hsz : us.length + vs.length ≤ 1000000) :
    MakeV P fl ((w, .cel e m (us.map .raw)) :: σ) (.call { callee := .builtin .append, args := #[x, y], argTypes := #[T, T'] }) fun v σ' => ∃ w', v = .raw w' ∧ σ' = (w', .cel e (m + vs.length) ((us ++ vs).map .raw)) :: σ := by
  subst hl
  exact ⟨rfl, fun S0 h t L => by
    have h1 : evalO t x = w := evV_ok L.slots hx; have h2 : evalO t y = w' := evV_ok L.slots hy; have hc := L.cells _ List.mem_cons_self
    have hst : ∀ u h', fsAppend P #[T, T'] w w' h = some (u, h') → ∀ (d : Option Tmp) (ty : TypeId) (pos : String) (after : Array Edge) (g : Option (Nat × Bool)), stepO P ⟨d, .call { callee := .builtin .append, args := #[x, y], argTypes := #[T, T'] }, ty, pos, after, g⟩ (evalO t) h = some (u, h') := fun u h' e _ _ _ _ _ => by
      show fsAppend P #[T, T'] (evalO t x) (evalO t y) h = _; rw [h1, h2, e]
    rcases L.cells _ (List.mem_cons_of_mem _ hm) with ⟨_, h3, _⟩ | ⟨b, rs, mm, h3, h4, h5, h6, h7, h8⟩
    · omega
    have h3 : w' = _ := h3; obtain rfl := raws_eq h6; obtain ⟨h', e1, e2, e3, e4⟩ := cel_grow hT hT' L.ok hc (u := w') (vs := rs) (fun i z h1 _ => by rw [h3]; exact appended_row h1 (by omega) h5 (Nat.le_refl _) (by omega) (by rw [List.drop_zero, Nat.mul_one, List.take_length]) rfl) h7 hk0 hsz; refine ⟨_, h', .raw (.slice (some ⟨h.next, 0, none⟩) (us.length + rs.length) 0), _, ⟨_, rfl, rfl⟩, Made.head L e2 (fun b hb => .inr (by simp [blk] at hb; omega)) (by simp [blk]) fun hN => ?_, rfl, hst _ _ e1⟩
    exact .inr ⟨h.next, us ++ rs, true, rfl, List.mem_append_left _ (by rw [own_cons]; simp [blk]), e3, raws_rep, by rw [List.all_append, e4, h7]; rfl, fun hz => by omega⟩⟩
theorem buildRaw (hT : ElT P T e (.sl τ)) {u : Value} (ho : oneCell u = true) (h2 : Heap) : fsBuildSlice P T 1 (numbered 0 [u]).toArray h2 = some (.slice (some ⟨h2.next, 0, none⟩) 1 0, h2.push (.row e [u] true false)) := by
  obtain ⟨i, z, h1, h2', _, _, h3, h4, h5⟩ := hT.sl.info; have h2' : i.size = 1 := h2'
  have hu : u.cells.toList = [u] := by rw [cells_one (agg_one ho)]
  have hb : Nat.beq 1 0 = false := rfl; unfold fsBuildSlice; simp only [hT.sl.sl, h1, hb, cond_false, h3, h2']
  have hcc : (Nat.ble (1 * 1) 16777216 && Nat.blt 0 1 && z.cells.toList.all af0 && (numbered 0 [u]).all fun p => p.2.cells.toList.all oneCell) = true := by
    have e3 : ((numbered 0 [u]).all fun p => p.2.cells.toList.all oneCell) = true := by
      show (u.cells.toList.all oneCell && true) = true; rw [hu]; simp [ho]
    rw [h5, e3]; rfl
  rw [hcc]; simp only [cond_true]; have hf := fill_all 1 [u] 0 [] ((Array.range (1 * 1)).map (z.cells[· % z.cells.size]!)).toList (fun v hv' => by rw [List.mem_singleton.1 hv', ← Array.length_toList, hu]; rfl) (by simp) (by simp); simp only [List.nil_append, Array.toArray_toList] at hf; rw [hf]; show some (_, h2.push (.row e (u.cells.toList ++ []) true false)) = _; rw [hu]; rfl
theorem FreshO.lit1 {u : Value} {ix : Nat} (hT : ElT P T e (.sl τ)) (hx : evV fl x = some (.raw u)) (ho : oneCell u = true) (hi : ix = 0 := by rfl) : FreshO P fl (.buildSlice T 1 #[(ix, x)]) (.cel e 1 [.raw u]) := by
  subst hi
  exact ⟨rfl, fun h S t hs hok hS => by
    have h1 : evalO t x = u := hs x (by simp [Op.operands]) _ hx; refine ⟨fun k => .slice (some ⟨k, 0, none⟩) 1 0, .row e [u] true false, fun _ => rfl, fun S' hN hm => ?_, fun H _ _ _ _ _ => ?_⟩
    · exact .inr ⟨h.next, [u], false, rfl, hm, by rw [Heap.get_push, if_pos rfl], raws_rep (us := [u]), by simp [ho], fun hz => by omega⟩
    show fsBuildSlice P T 1 ((#[(0, x)] : Array (Nat × Operand)).map fun p => (p.1, evalO t p.2)) H = _
    have hpm : ((#[(0, x)] : Array (Nat × Operand)).map fun p => (p.1, evalO t p.2)) = (numbered 0 [u]).toArray := by
      apply Array.toList_inj.1; simp [numbered, h1]
    rw [hpm]
    exact buildRaw hT ho H⟩
theorem cel_one {m : Nat} {cs : List PV} (hc : CellR h S w (.cel e m cs)) : oneCell w = true := by
  rcases hc with ⟨h1, _⟩ | ⟨b, rs, m, h1, _⟩
  · rw [show w = _ from h1]; rfl
  rw [show w = _ from h1]; rfl
theorem VO.oneC {m : Nat} {cs : List PV} (hm : (w, Cell.cel e m cs) ∈ σ) (hk : oneCell w = true → VO P orc ops n l fl σ K) : VO P orc ops n l fl σ K := fun h0 G S0 t h ms I => hk (cel_one (I.cells _ hm)) h0 G S0 t h ms I
theorem VD.oneC {m : Nat} {bs nw : List Nat} {so tail : Bool} {cs : List PV} (hm : (w, Cell.cel e m cs) ∈ σ) (hk : oneCell w = true → VD P orc ops n l i fl nw σ so bs mem tail K) : VD P orc ops n l i fl nw σ so bs mem tail K := fun h0 G S0 t h ms segs I => hk (cel_one (I.cells _ hm)) h0 G S0 t h ms segs I
theorem VC.celNil {c : Code} (e : TypeId) (hx : VC P orc rnd c n fl ((.slice none 0 0, .cel e 0 []) :: σ) Q) : VC P orc rnd c n fl σ Q := fun h0 G S0 t h ms I => hx h0 G S0 t h ms (by
  have J := I.cell0 e (.int .i64)
  have hcs : ∀ c ∈ ((Value.slice none 0 0, Cell.cel e 0 []) :: σ : Sto), CellR h (own ((Value.slice none 0 0, Cell.cel e 0 []) :: σ : Sto) ++ S0) c.1 c.2 := fun c hc => by
    rcases List.mem_cons.1 hc with rfl | hc
    · exact .inl ⟨rfl, rfl, rfl⟩
    exact J.cells c (List.mem_cons_of_mem _ hc)
  exact ⟨J.ok, J.s0, J.aft, hcs, J.new, J.apart, J.mark, J.marks, J.slots⟩)
theorem matS_snoc {u : Value} {xs : List τ.den} : ∀ {us : List Value} {xss : List (List τ.den)}, us.length = xss.length → matS e τ (us ++ [u]) (xss ++ [xs]) = matS e τ us xss ++ [(u, .row e τ xs)]
  | [], [], _ => rfl
  | u :: us, xs :: xss, h => by
    show matS e τ (u :: (us ++ _)) (xs :: (xss ++ _)) = _
    rw [matS_cons, matS_cons, matS_snoc (by simpa using h)]; rfl
  | [], _ :: _, h => by simp at h
  | _ :: _, [], h => by simp at h
def Cell.rc : Cell → Prop
  | .row _ _ _ => True
  | .cel _ _ _ => True
  | _ => False
theorem CellR.nxRC (hN : GoesR h1 S1 h2 S2) (hg : ∀ b o, h1.get b = some o → o ≠ .defd → h2.get b = some o) (hb : ∀ b ∈ blk w, b ∈ S2) : ∀ {c : Cell}, c.rc → CellR h1 S1 w c → CellR h2 S2 w c
  | .row e τ xs, _, hc => by
    rcases hc with hx | ⟨b, rs, m, h3, h4, h5, h6⟩
    · exact .inl hx
    exact .inr ⟨b, rs, m, h3, hb b (by rw [show w = _ from h3]; simp [blk]), hg b _ h5 (by simp), h6.1, fun i hi => (h6.2 i hi).nxR hN⟩
  | .cel e n cs, _, hc => by
    rcases hc with hx | ⟨b, rs, m, h3, h4, h5, h6, h7, h8⟩
    · exact .inl hx
    exact .inr ⟨b, rs, m, h3, hb b (by rw [show w = _ from h3]; simp [blk]), hg b _ h5 (by simp), h6.nxR hN, h7, h8⟩
  | .var _, hr, _ => hr.elim
  | .cap .., hr, _ => hr.elim
  | .mp .., hr, _ => hr.elim
  | .it .., hr, _ => hr.elim
  | .loop .., hr, _ => hr.elim
def VEndM (P : Program) (fn : Func) (Q : PV → Sto → Prop) : Ex → VL → Sto → Prop := fun e fl σ => e.goes = true ∧ ∃ (a : Nat) (ty : TypeId) (p : Value) (cs : List PV) (w : Value) (et : TypeId) (τ : Ty) (xs : List τ.den) (T : Ty) (γ : Sto), fn.results.toList = [.cell a ty] ∧ lkV fl a = some (.raw p) ∧ σ = (p, Cell.var cs) :: γ ∧ (∀ c ∈ γ, c.2.rc) ∧ (w, Cell.row et τ xs) ∈ γ ∧ xs ≠ [] ∧ PV.raw w ∈ cs ∧ ValT P ty T ∧ cs.length = T.size ∧ T.agg = true ∧ Q (.agg cs) γ
theorem VFG.enterM {f : FuncId} {args : List PV} {fn : Func} {c : Code} {Q : PV → Sto → Prop} (hfn : P.funcs[f]? = some fn) (hc : fn.body = some c) (ho : ∀ us h, orc f us h = none) (hn : (Nat.blt 4000 fn.ntmps || Nat.blt fn.ntmps args.length) = false)
    (hb : VC P orc none c fn.ntmps (argVL 0 args) [] (VEndM P fn Q)) : VFG P orc f args [] Q := fun h S us hok hS hcells hnd hsep ha => by
  have hl := ha.len
  have hn2 : Nat.blt 4000 fn.ntmps = false ∧ Nat.blt fn.ntmps args.length = false := by simpa using hn
  have n3 := nble_no hn2.1; have n4 := nble_no hn2.2; have ha' : RepL (entry h) (own [] ++ S) args us := RepL.nx (h := h) (h' := entry h) (fun _ _ a b => ⟨a, b⟩) ha
  have I0 : Iv (entry h) (own []) S (entry h) [] (fillTr .leaf 0 us) [] (argVL 0 args) := {
    ok := hok
    s0 := hS.1
    aft := Aft.refl _ _
    cells := fun c hc => (by cases hc)
    new := fun b hb => (by cases hb)
    apart := hnd
    mark := fun d hd => by cases hd
    marks := List.nodup_nil
    slots := slots_args (hS.2.ent hcells) ha' (by omega) }
  refine EvF.enter hfn hc (ho us h) (by rw [hl]; exact hn) ((hb (entry h) (own []) S _ (entry h) [] I0).mono fun e fr h1 hq => ?_); obtain ⟨_, fl', σ', Iv1, he, a, ty, p, cs, w, et, τ, xs, T, γ, hres, hla, hσ, hrc, hwm, hxs, hmem, hT, hlen, hagg, hQ⟩ := hq; subst hσ; obtain ⟨h2, d1, d2, d3⟩ := drops_ok Iv1.marks fun d hd => (Iv1.mark d hd).2
  have hgd : ∀ b o, h1.get b = some o → o ≠ .defd → h2.get b = some o := fun b o hg hne => by
    rw [d3 b (fun hm => hne (by have := (Iv1.mark b hm).2; rw [hg] at this; exact Option.some.inj this))]; exact hg
  have a2 : Aft (entry h) h2 (own []) := Iv1.aft.trans d2 fun i hi => .inr (Iv1.mark i hi).1; have L1 := Iv1.lc; obtain ⟨b0, e0, vs, g3, g4, g5, g6, g7⟩ := Iv1.cells _ List.mem_cons_self; have hp : fr.t.get a = p := L1.slots _ _ hla; have hbox : BoxR h2 0 p vs := ⟨b0, e0, g3, Nat.zero_le _, hgd b0 _ g5 (by simp)⟩
  have e1 : fsResults P fr.t h2 fn.results.toList = some [.agg vs.toArray] := by
    rw [hres]
    have : fsResult P fr.t h2 (.cell a ty) = some (.agg vs.toArray) := by
      show fsLoad P ty (fr.t.get a) h2 = _; rw [hp]; exact hbox.ldA hT hagg (g6.len.trans hlen)
    simp only [fsResults, this]
  have hsub : ∀ x ∈ own γ ++ S, x ∈ own ((p, Cell.var cs) :: γ) ++ S := fun x hx => by
    rcases List.mem_append.1 hx with hx | hx
    · exact List.mem_append_left _ (by rw [own_cons]; exact List.mem_append_right _ hx)
    exact List.mem_append_right _ hx
  have hN : GoesR h1 (own ((p, Cell.var cs) :: γ) ++ S) h2 (own γ ++ S) := fun b _ hg hne hbS => ⟨hgd b _ hg hne, fun hm => hbS (hsub _ hm)⟩; have hrep : RepPV h2 (own γ ++ S) (.agg cs) (.agg vs.toArray) := ⟨vs, rfl, g6.nxR hN⟩; have hcell2 : ∀ c ∈ γ, CellR h2 (own γ ++ S) c.1 c.2 := fun c hc => (Iv1.cells c (List.mem_cons_of_mem _ hc)).nxRC hN hgd (fun b hb => List.mem_append_left _ (List.mem_flatMap.2 ⟨c, hc, hb⟩)) (hrc c hc); have hap : (own γ).Nodup := (List.nodup_append.1 (show (blk p ++ own γ).Nodup from Iv1.apart)).2.1; have hnew2 : ∀ b ∈ own γ, b ∈ own [] ∨ h.next ≤ b := fun b hb => (Iv1.new b (by rw [own_cons]; exact List.mem_append_right _ hb)).1; have hmw : w ∈ vs := RepL.mem_raw g6 hmem; refine ⟨he, h2, [.agg vs.toArray], d1, e1, ?_⟩; unfold leftOf
  cases haf : (af (tupled [.agg vs.toArray]) && Nat.ble h.next h2.low) with
  | true =>
    obtain ⟨af1', hlow⟩ := band haf; have hw0 : af0 w = true := List.all_eq_true.1 (show vs.all af0 = true from by simpa [tupled, af, af1] using af1') w hmw; rcases hcell2 _ hwm with ⟨hn1, hn2⟩ | ⟨b, rs, m, h3, _⟩
    · exact absurd hn2 hxs
    exfalso; have h3' : w = .slice (some ⟨b, 0, none⟩) xs.length 0 := h3; rw [h3'] at hw0
    cases hx : xs.length <;> rw [hx] at hw0 <;> cases hw0
  | false =>
    refine ⟨_, _, hQ, ⟨⟨a2.next, a2.get, fun x => a2.ok x, fun e h3 h4 h5 => Nat.le_min.2 ⟨h3, a2.low e (Nat.le_trans h4 (Nat.le_refl _)) h4 h5⟩, fun b hb => ?_, Nat.min_le_left _ _⟩, hnew2, hap, fun c hc => ?_⟩, RepPV.nx (h := h2) (h' := { next := h2.next, low := min h.low h2.low, objs := h2.objs }) (fun _ _ a b => ⟨a, b⟩) hrep⟩
    · rcases a2.chg b hb with h3 | h3
      · exact .inl h3
      exact .inr (Nat.le_trans (Nat.min_le_right _ _) h3)
    exact (hcell2 c hc).keep (fun _ _ => rfl) (fun _ _ a b => ⟨a, b⟩) fun b hb => List.mem_append_left _ (List.mem_flatMap.2 ⟨c, hc, hb⟩)
end Go.Fs
namespace Go.Proofs
open Go.Fs
set_option maxHeartbeats 1000000
theorem lIntsO_ok {l : List Int} (hl : l.length < 1000000) : VFG Tryz.prog OA 36 [.v y25 l] [] (fun r g => ∃ w, r = .raw w ∧ g = [(w, .row 3 (.int .i64) l)]) := by
  refine VFG.enter Tryz.func36 rfl (fun _ _ => rfl) rfl ?_; show VC _ _ _ _ _ [(0, .v y25 l)] [] _; refine VC.seq (VC.text ?_); refine VO.c (.assign rfl) ?_; refine VO.go (VC.seq (VC.text ?_)); refine VO.cell (.lit0 el25) ?_; intro ww1; refine VO.c (.move rfl) ?_; refine VO.app rfl rfl el25 el25 (by simp; omega) ?_; intro ww2; refine VO.c (.assign rfl) (VO.go ?_); refine VC.ret ?_; exact VEndG.row rfl evT ⟨ww2, rfl, (by rfl)⟩
theorem perm_e {α : Type} {a b c d e : α} {M : List α} : (e :: a :: b :: c :: d :: M).Perm (a :: b :: c :: d :: (M ++ [e])) := (List.perm_append_singleton e (a :: b :: c :: d :: M)).symm
theorem lGatesM_ok {g : (List Int) × (List Int) × (List (List Int))} (h1 : g.1.length < 100000) (h2 : g.2.1.length < 100000) (h3 : g.2.2.length < 100000) (hr : ∀ row ∈ g.2.2, row.length < 1000) (h0 : g.1 ≠ []) : VFG Tryz.prog OA 56 [.v y88 g] [] (fun rr γ => ∃ (w wi : Value) (us : List Value), us.length = g.2.2.length ∧ rr = .agg [.raw w, .v y25 g.2.1, .raw wi] ∧ γ = (wi, .cel 25 g.2.2.length (us.map .raw)) :: (w, .row 3 (.int .i64) g.1) :: matS 3 (.int .i64) us g.2.2) := by
  refine VFG.enterM Tryz.func56 rfl (fun _ _ => rfl) rfl ?_; show VC _ _ _ _ _ [(0, .v y88 g)] [] _; refine VC.seq (VC.text ?_); refine VO.new (.box) ?_; refine VO.cell (.alloc zt92) ?_; intro ww3; refine VO.go (VC.seq (VC.drawn ?_)); refine VD.c (.fa (.l .o)) ?_; refine VD.r [] (.ld vt25) (.inl rfl) ?_; refine VD.nw [] ?_; refine VD.callGU rfl rfl (VFG.call (lIntsO_ok (by omega))) ?_; rintro _ _ ⟨ws, rfl, rfl⟩; show VD _ _ _ _ _ _ _ _ [(ws, .row 3 (.int .i64) g.1), (ww3, .var [.v y25 [], .v y25 [], .v y86 []])] _ _ _ _ _; refine VD.c (.fa (.r (.l .o))) ?_; refine VD.r [] (.ld vt25) (.inl rfl) ?_; refine VD.call rfl rfl (VF.call (lInts_ok (by omega))) ?_; refine VD.one m0 fun ho => ?_; refine VD.nw [11, 8] (VD.c (.buildR (cs := [.raw ws, .v y25 g.2.1, nilV]) bt92 rfl rfl (.cons (.w ho) rfl rfl (.cons (.v) rfl rfl (.nil rfl)))) ?_); refine VD.cell (.alloc zt92) ?_; intro ww4; refine VD.mk0 (MakeV.setF (k := 0) vt92 (.aggs rfl (allC (p := .raw ws) ho (allC rfl (allC rfl rfl)))) (Nat.le_of_ble_eq_true rfl) (.inr ⟨rfl, rfl⟩) rfl rfl) ?_; rintro _ _ tl5 ⟨rfl, rfl⟩; refine VD.go (VC.seq (VC.seq (VC.text ?_))); refine VO.c (.fa (.r (.r .o))) ?_; refine VO.r (.ld vt86) ?_; refine VO.r (.len el86) ?_; refine VO.c (.move rfl) ?_; refine VO.go (VC.block ?_); refine VC.celNil 25 ?_; refine VC.keep [(2, .raw ww3), (3, .raw ww4), (14, .v y86 g.2.2), (15, I ((g.2.2.length : Nat) : Int)), (16, I ((0 : Nat) : Int))] ⟨rfl, rfl, rfl, rfl, rfl, trivial⟩ ?_; refine VC.perm (σ' := [(.slice none 0 0, .cel 25 0 []), (ww4, .var [.raw ws, .v y25 g.2.1, .raw (.slice none 0 0)]), (ww3, .var [.v y25 [], .v y25 [], .v y86 []]), (ws, .row 3 (.int .i64) g.1)]) (.cons _ (.cons _ swap1)) ?_; refine VC.loop (I := fun kk ff ss => ∃ (i : Nat) (w : Value) (us : List Value), kk = g.2.2.length - i ∧ ff = [(2, .raw ww3), (3, .raw ww4), (14, .v y86 g.2.2), (15, I ((g.2.2.length : Nat) : Int)), (16, I ((i : Nat) : Int))] ∧ ss = (w, .cel 25 i (us.map .raw)) :: (ww4, .var [.raw ws, .v y25 g.2.1, .raw w]) :: (ww3, .var [.v y25 [], .v y25 [], .v y86 []]) :: (ws, .row 3 (.int .i64) g.1) :: matS 3 (.int .i64) us (g.2.2.take i) ∧ i ≤ g.2.2.length ∧ us.length = i) ?_ _ _ _ ⟨0, .slice none 0 0, [], rfl, rfl, rfl, Nat.zero_le _, rfl⟩; rintro kk ff ss ⟨i, w, us, hk0, rfl, rfl, hi, hus⟩; refine VC.seq (VC.text ?_); refine VO.c (.lss) ?_; refine VO.go (VC.seq ?_); refine VC.condD rfl (fun c3 => ?_) (fun c3 => ?_)
  · have hrr := hr _ (List.getElem_mem (show i < g.2.2.length by omega)); refine VC.skip (VC.seq (VC.block (VC.seq (VC.text ?_)))); refine VO.c (.ix (j := i) rfl rfl el86 (by omega)) ?_; refine VO.r (.ld vt25) ?_; refine VO.c (.assign rfl) ?_; refine VO.go (VC.drawn ?_); refine VD.co (.faO (k := 2) m1) ?_; refine VD.r ((w, .cel 25 i (us.map .raw)) :: (ww4, .var [.raw ws, .v y25 g.2.1, .raw w]) :: (ww3, .var [.v y25 [], .v y25 [], .v y86 []]) :: (ws, .row 3 (.int .i64) g.1) :: matS 3 (.int .i64) us (g.2.2.take i)) (.ldF (k := 2) m1 vt86) (.inr ⟨rfl, rfl⟩) ?_; refine VD.c (.move rfl) (VD.nw [] ?_); refine VD.callGU rfl rfl (VFG.call (lIntsO_ok (by omega))) ?_; rintro _ _ ⟨wx, rfl, rfl⟩; show VD _ _ _ _ _ _ _ _ ((wx, .row 3 (.int .i64) g.2.2[i]) :: (w, .cel 25 i (us.map .raw)) :: (ww4, .var [.raw ws, .v y25 g.2.1, .raw w]) :: (ww3, .var [.v y25 [], .v y25 [], .v y86 []]) :: (ws, .row 3 (.int .i64) g.1) :: matS 3 (.int .i64) us (g.2.2.take i)) _ _ _ _ _; refine VD.one m0 fun ho6 => ?_; refine VD.cell (.lit1 el86 rfl ho6) ?_; intro wb; refine VD.perm swap2 ?_; refine VD.mk (MakeV.appM (vs := [wx]) el86 el86 rfl rfl hus.symm m0 Nat.one_pos (by simp; omega)) ?_; rintro _ _ tl7 ⟨w2, rfl, rfl⟩; refine VD.nw [25, 24, 23] ?_; refine VD.co (.faO (k := 2) m3) ?_; refine VD.perm swap3 ?_; refine VD.oneC m1 fun ho7 => ?_; refine VD.mk0 (MakeV.setF (k := 2) vt86 (.raw rfl (agg_one ho7) ho7) (Nat.le_of_ble_eq_true rfl) (.inl rfl) rfl rfl) ?_; rintro _ _ tl8 ⟨rfl, rfl⟩; refine VD.nil ?_; refine VC.text ?_; refine VO.c (.add rfl rfl (by omega)) (VO.c (.move rfl) ?_); refine VO.perm swap2 ?_; refine VO.forget ?_
    refine VO.perm (σ' := (w2, .cel 25 (i + 1) ((us ++ [wx]).map .raw)) :: (ww4, .var [.raw ws, .v y25 g.2.1, .raw w2]) :: (ww3, .var [.v y25 [], .v y25 [], .v y86 []]) :: (ws, .row 3 (.int .i64) g.1) :: matS 3 (.int .i64) (us ++ [wx]) (g.2.2.take (i + 1))) (by
      rw [List.take_succ_eq_append_getElem (show i < g.2.2.length by omega), matS_snoc (by rw [List.length_take]; omega)]
      exact swap2.trans ((List.Perm.cons _ swap1).trans perm_e)) ?_
    refine VO.nil ?_; refine ⟨_, [(2, .raw ww3), (3, .raw ww4), (14, .v y86 g.2.2), (15, I ((g.2.2.length : Nat) : Int)), (16, I (((i + 1) : Nat) : Int))], ?_, ⟨rfl, rfl, rfl, rfl, rfl, trivial⟩, (i + 1), w2, us ++ [wx], rfl, rfl, rfl, (by omega), by simp [hus]⟩; omega
  refine VC.exit (VC.seq ?_)
  have hil : i = g.2.2.length := by omega
  subst hil; refine VC.text ?_; refine VO.r (.ldAll m1 vt92) ?_; refine VO.one m3 fun ho8 => ?_; refine VO.oneC m0 fun ho9 => ?_; refine VO.perm swap2 ?_; refine VO.setV (cs' := [.raw ws, .v y25 g.2.1, .raw w]) vt92 (.aggs rfl (allC (p := .raw ws) ho8 (allC rfl (allC (p := .raw w) ho9 rfl)))) ?_; refine VO.perm swap2 ?_; refine VO.forget ?_; refine VO.go ?_; refine VC.ret ?_; refine ⟨rfl, 2, _, ww3, [.raw ws, .v y25 g.2.1, .raw w], ws, 3, .int .i64, g.1, _, _, rfl, rfl, rfl, ?_, m1, h0, List.mem_cons_self, vt92, rfl, rfl, ws, w, us, hus, rfl, by rw [List.take_length]⟩; intro c hc; rcases List.mem_cons.1 hc with rfl | hc
  · trivial
  rcases List.mem_cons.1 hc with rfl | hc
  · trivial
  obtain ⟨p, _, rfl⟩ := List.mem_map.1 hc; trivial
end Go.Proofs
namespace Go.Proofs
open Go.Fs
set_option maxHeartbeats 1000000
theorem lForce_ok {g : (List Int) × (List Int) × (List (List Int))} {set : Int} {gate : Int} (hg : gatesE g = 0) (h0 : 0 ≤ gate) (h1 : gate < ((g.1.length : Nat) : Int)) : VF Tryz.prog OA 141 [.v y88 g, I set, I gate] (I (forceE g set gate.toNat)) := by
  refine VF.enter Tryz.func141 rfl (fun _ _ => rfl) rfl ?_; show VC _ _ _ _ _ [(0, .v y88 g), (1, I set), (2, I gate)] [] _; refine VC.seq (VC.text ?_); refine VO.new (.box) ?_; refine VO.c (.assign rfl) ?_; refine VO.go (VC.seq (VC.text ?_)); have hd := head_ok (gates_ok hg).1; have hv := gateE_ok ((gates_ok hg).2 gate.toNat (by omega)); rw [getDg (l := g.2.2) (i := gate.toNat) (by omega), getDg (l := g.2.1) (i := gate.toNat) (by omega)] at hv
  have hf : forceE g set gate.toNat = g.2.1[gate.toNat]'(by omega) + sumF set (g.2.2[gate.toNat]'(by omega)) ((g.2.2[gate.toNat]'(by omega)).length) := by
    unfold forceE; rw [getDg (l := g.2.2) (i := gate.toNat) (by omega), getDg (l := g.2.1) (i := gate.toNat) (by omega)]
  refine VO.c (.fa (.r (.l .o))) ?_; refine VO.r (.ld vt25) ?_; refine VO.c (.move rfl) (VO.c (.ixZ (k := gate) rfl rfl el25 (by omega) (by omega)) ?_); refine VO.r (.ld vt3) ?_; refine VO.c (.assign rfl) ?_; refine VO.go (VC.seq (VC.seq (VC.text ?_))); refine VO.c (.fa (.r (.r .o))) ?_; refine VO.r (.ld vt86) ?_; refine VO.c (.move rfl) (VO.c (.ixZ (k := gate) rfl rfl el86 (by omega) (by omega)) ?_); refine VO.r (.ld vt25) ?_; refine VO.r (.len el25) ?_; refine VO.c (.move rfl) ?_; refine VO.go (VC.block ?_); refine VC.keep [(1, I set), (7, I (g.2.1[gate.toNat] + sumF set (g.2.2[gate.toNat]) 0)), (19, .v y25 (g.2.2[Int.toNat gate])), (20, I (((g.2.2[Int.toNat gate]).length : Nat) : Int)), (21, I ((0 : Nat) : Int))] ⟨rfl, slI rfl (by simp [sumF]), rfl, rfl, rfl, trivial⟩ ?_; refine VC.loop (I := fun kk ff ss => ∃ (j : Nat), kk = (g.2.2[gate.toNat]).length - j ∧ ff = [(1, I set), (7, I (g.2.1[gate.toNat] + sumF set (g.2.2[gate.toNat]) j)), (19, .v y25 (g.2.2[Int.toNat gate])), (20, I (((g.2.2[Int.toNat gate]).length : Nat) : Int)), (21, I ((j : Nat) : Int))] ∧ ss = [] ∧ (j ≤ (g.2.2[gate.toNat]).length)) ?_ _ _ _ ⟨0, rfl, rfl, rfl, (by omega)⟩; rintro kk ff ss ⟨j, hk0, rfl, rfl, hj⟩; refine VC.seq (VC.text ?_); refine VO.c (.lss) ?_; refine VO.go (VC.seq ?_); refine VC.condD rfl (fun c3 => ?_) (fun c3 => ?_)
  · have hjr : j < (g.2.2[gate.toNat]'(by omega)).length := by omega
    have hb := sumF_b (set := set) hv.2.2.2.1 j (by omega); have hx := hv.2.2.2.1 _ (List.getElem_mem hjr); refine VC.skip (VC.seq (VC.block (VC.seq (VC.text ?_)))); refine VO.c (.move rfl) (VO.c (.ix (j := j) rfl rfl el25 (by omega)) ?_); refine VO.r (.ld vt3) ?_; refine VO.c (.assign rfl) (VO.c (.assign rfl) ?_); refine VO.go (VC.seq (VC.text ?_)); refine VO.c (.move rfl) (VO.c (.move rfl) (VO.c (.shr rfl rfl (by omega)) (VO.c ((.andI rfl rfl)) ?_))); refine VO.c (.eql) (VO.go ?_); refine VC.condD rfl (fun c5 => ?_) (fun c5 => ?_)
    · refine VC.text ?_; refine VO.c (.move rfl) (VO.c (.move rfl) (VO.c (.add rfl rfl (by omega)) (VO.c (.assign rfl) ?_))); refine VO.nil (VC.text ?_); refine VO.c (.add rfl rfl (by omega)) (VO.c (.move rfl) ?_); refine VO.nil ?_; refine ⟨_, [(1, I set), (7, I (g.2.1[gate.toNat] + sumF set (g.2.2[gate.toNat]) (j + 1))), (19, .v y25 (g.2.2[Int.toNat gate])), (20, I (((g.2.2[Int.toNat gate]).length : Nat) : Int)), (21, I (((j + 1) : Nat) : Int))], ?_, ⟨rfl, slI rfl (by first | (rw [sumF_t (show hasB set j = true from decide_eq_true c5), getDg hjr]; omega) | (rw [sumF_f (show hasB set j = false from decide_eq_false c5)])), rfl, rfl, rfl, trivial⟩, (j + 1), rfl, rfl, rfl, (by omega)⟩; omega
    refine VC.skip (VC.text ?_); refine VO.c (.add rfl rfl (by omega)) (VO.c (.move rfl) ?_); refine VO.nil ?_; refine ⟨_, [(1, I set), (7, I (g.2.1[gate.toNat] + sumF set (g.2.2[gate.toNat]) (j + 1))), (19, .v y25 (g.2.2[Int.toNat gate])), (20, I (((g.2.2[Int.toNat gate]).length : Nat) : Int)), (21, I (((j + 1) : Nat) : Int))], ?_, ⟨rfl, slI rfl (by first | (rw [sumF_t (show hasB set j = true from decide_eq_true c5), getDg hjr]; omega) | (rw [sumF_f (show hasB set j = false from decide_eq_false c5)])), rfl, rfl, rfl, trivial⟩, (j + 1), rfl, rfl, rfl, (by omega)⟩; omega
  refine VC.exit (VC.seq (VC.text ?_)); refine VO.c (.move rfl) (VO.c (.assign rfl) (VO.go ?_)); refine VC.ret ?_; exact VEnd.one rfl evT (pvI (by rw [hf, show j = (g.2.2[gate.toNat]'(by omega)).length by omega]))
theorem lHeld_ok {g : (List Int) × (List Int) × (List (List Int))} {set : Int} (hg : gatesE g = 0) : VF Tryz.prog OA 76 [.v y88 g, I set] (B (permE g set g.1.length)) := by
  refine VF.enter Tryz.func76 rfl (fun _ _ => rfl) rfl ?_; show VC _ _ _ _ _ [(0, .v y88 g), (1, I set)] [] _; refine VC.seq (VC.text ?_); have hd := head_ok (gates_ok hg).1; refine VO.new (.box) ?_; refine VO.c (.assign rfl) ?_; refine VO.go (VC.seq (VC.seq (VC.text ?_))); refine VO.c (.fa (.l .o)) ?_; refine VO.r (.ld vt25) ?_; refine VO.r (.len el25) ?_; refine VO.c (.move rfl) ?_; refine VO.go (VC.block ?_); refine VC.keep [(1, I set), (2, .p y88 g), (9, .v y25 g.1), (10, I ((g.1.length : Nat) : Int)), (11, I ((0 : Nat) : Int))] ⟨rfl, rfl, rfl, rfl, rfl, trivial⟩ ?_; refine VC.loop (I := fun kk ff ss => ∃ (j : Nat), kk = g.1.length - j ∧ ff = [(1, I set), (2, .p y88 g), (9, .v y25 g.1), (10, I ((g.1.length : Nat) : Int)), (11, I ((j : Nat) : Int))] ∧ ss = [] ∧ (j ≤ g.1.length) ∧ (permE g set j = true)) ?_ _ _ _ ⟨0, rfl, rfl, rfl, Nat.zero_le _, (by rfl)⟩; rintro kk ff ss ⟨j, hk0, rfl, rfl, hj, hp⟩; refine VC.seq (VC.text ?_); refine VO.c (.lss) ?_; refine VO.go (VC.seq ?_); refine VC.condD rfl (fun c2 => ?_) (fun c2 => ?_)
  · have hjl : j < g.1.length := by omega
    have hfb := force_b (set := set) hg hjl; have hv := gateE_ok ((gates_ok hg).2 j hjl); rw [getDg (l := g.1) hjl] at hv; refine VC.skip (VC.seq (VC.block (VC.seq (VC.text ?_)))); refine VO.c (.move rfl) (VO.c (.ix (j := j) rfl rfl el25 (by omega)) ?_); refine VO.r (.ld vt3) ?_; refine VO.c (.assign rfl) (VO.c (.assign rfl) ?_); refine VO.go (VC.seq (VC.text ?_)); refine VO.r (.ld vt88) ?_; refine VO.c (.move rfl) (VO.c (.move rfl) ?_); refine VO.call rfl rfl (VF.call (lForce_ok hg (by omega) (by omega))) ?_; refine VO.c (.assign rfl) ?_; refine VO.go (VC.seq (VC.text ?_)); refine VO.c (.move rfl) (VO.c (.move rfl) (VO.c (.shr rfl rfl (by omega)) (VO.c ((.andI rfl rfl)) ?_))); refine VO.c (.eql) (VO.c (.move rfl) ?_); refine VO.splitD (x := 25) rfl (fun g5_5 => ?_) (fun g5_5 => ?_)
    · refine VO.c (.move rfl) (VO.c (.move rfl) (VO.c (.gtr) (VO.c (.move rfl) ?_))); refine VO.cg (r := decide (g.1[j] < forceE g set j)) (w := false) [] trivial (fun _ => (.move rfl)) ?_; refine VO.cg (r := decide (g.1[j] < forceE g set j)) (w := false) [] trivial (fun _ => (.move rfl)) ?_; refine VO.cg (r := decide (g.1[j] < forceE g set j)) (w := false) [(31, I (g.1[j]))] ⟨rfl, trivial⟩ (fun hgd => have g5_9 : ¬ (g.1[j] < forceE g set j) := (by simpa using hgd); (.neg rfl (by omega))) ?_; refine VO.cg (r := decide (g.1[j] < forceE g set j)) (w := false) [(30, I (forceE g set j)), (32, I (-(g.1[j])))] ⟨rfl, rfl, trivial⟩ (fun _ => (.lss)) ?_; refine VO.c (.or) (VO.c (.pickT rfl rfl) (VO.go ?_)); refine VC.condB rfl (fun c5 => ?_) (fun c5 => ?_)
      · try simp only [Bool.and_eq_true, Bool.or_eq_true, Bool.and_eq_false_iff, Bool.or_eq_false_iff, Bool.not_eq_true', Bool.not_eq_false', decide_eq_true_eq, decide_eq_false_iff_not] at c5
        refine VC.seq (VC.text ?_); refine VO.c (.assign rfl) (VO.go ?_); refine VC.ret ?_; exact VEnd.one rfl evT (pvE (by rw [perm_no (k := j) (over_t (getDg hjl) ⟨decide_eq_true g5_5, by simp only [Int.toNat_natCast] at c5; omega⟩) hjl]))
      try simp only [Bool.and_eq_true, Bool.or_eq_true, Bool.and_eq_false_iff, Bool.or_eq_false_iff, Bool.not_eq_true', Bool.not_eq_false', decide_eq_true_eq, decide_eq_false_iff_not] at c5
      refine VC.skip (VC.text ?_); refine VO.c (.add rfl rfl (by omega)) (VO.c (.move rfl) ?_); refine VO.nil ?_; refine ⟨_, [(1, I set), (2, .p y88 g), (9, .v y25 g.1), (10, I ((g.1.length : Nat) : Int)), (11, I (((j + 1) : Nat) : Int))], ?_, ⟨rfl, rfl, rfl, rfl, rfl, trivial⟩, (j + 1), rfl, rfl, rfl, (by omega), (by rw [perm_step (over_f (getDg hjl) (by first | exact .inl (decide_eq_false g5_5) | (refine .inr ?_; simp only [Int.toNat_natCast] at c5; omega)))]; exact hp)⟩; omega
    refine VO.skip (VO.skip (VO.skip (VO.skip ?_))); refine VO.skip (VO.skip (VO.skip (VO.skip ?_))); refine VO.skip (VO.c (.pickF rfl rfl) (VO.go ?_)); refine VC.condF rfl ?_; refine VC.skip (VC.text ?_); refine VO.c (.add rfl rfl (by omega)) (VO.c (.move rfl) ?_); refine VO.nil ?_; refine ⟨_, [(1, I set), (2, .p y88 g), (9, .v y25 g.1), (10, I ((g.1.length : Nat) : Int)), (11, I (((j + 1) : Nat) : Int))], ?_, ⟨rfl, rfl, rfl, rfl, rfl, trivial⟩, (j + 1), rfl, rfl, rfl, (by omega), (by rw [perm_step (over_f (getDg hjl) (by first | exact .inl (decide_eq_false g5_5) | (refine .inr ?_; simp only [Int.toNat_natCast] at c5; omega)))]; exact hp)⟩; omega
  refine VC.exit (VC.seq (VC.text ?_)); refine VO.c (.assign rfl) (VO.go ?_); refine VC.ret ?_; exact VEnd.one rfl evT (pvE (by rw [show g.1.length = j by omega, hp]))
end Go.Proofs
namespace Go.Proofs
open Go.Fs
set_option maxHeartbeats 1000000
def PathF (g : Gat) : Int → List Int → Prop
  | s, [] => misN g.1.length s = 0
  | s, x :: o => ∃ i : Nat, x = ((i : Nat) : Int) ∧ i < g.1.length ∧ s.toNat.testBit i = false ∧ permE g (nxtI s i) g.1.length = true ∧ PathF g (nxtI s i) o
theorem path_ord {g : Gat} : ∀ (f : Nat) {s : Int} {o : List Int}, SetOk g.1.length s → misN g.1.length s = f → ordF g f s = some o → PathF g s o
  | 0, s, o, _, hf, ho => by
    obtain rfl : [] = o := Option.some.inj ho
    exact hf
  | f + 1, s, o, hs, hf, ho => by
    rw [ordF_s] at ho; obtain ⟨y, hy, he⟩ := List.exists_of_findSome?_eq_some ho; have h3 := more_ok hs hy; unfold stF at he; obtain ⟨o', h4, rfl⟩ := Option.map_eq_some_iff.1 he; obtain ⟨i, hi, hm, rfl⟩ := more_mem.1 hy; obtain ⟨h5, h6⟩ := may_2 hm; exact ⟨i, rfl, hi, h5, h6, path_ord f h3.1 (by have := mis_next hi h5; show misN g.1.length (nxtI s i) = f; omega) h4⟩
theorem path_len {g : Gat} : ∀ {o : List Int} {s : Int}, PathF g s o → o.length = misN g.1.length s
  | [], s, h => h.symm
  | x :: o, s, ⟨i, _, hi, hb, _, h⟩ => by
    have h1 := path_len h; have h2 := mis_next hi hb; rw [List.length_cons]; omega
def OrdK (g : Gat) (l : List Int) (k : Nat) : Prop := ∃ i : Nat, l.getD k 0 = ((i : Nat) : Int) ∧ i < g.1.length ∧ (setQ l k).toNat.testBit i = false ∧ permE g (setQ l (k + 1)) g.1.length = true
theorem path_idx {g : Gat} : ∀ {o p : List Int} {s : Int}, PathF g s o → setQ (p ++ o) p.length = s → ∀ k, p.length ≤ k → k < (p ++ o).length → OrdK g (p ++ o) k
  | [], p, s, _, _, k, h1, h2 => by rw [List.append_nil] at h2; omega
  | x :: o, p, s, ⟨i, hx, hi, hb, hp, h⟩, hs, k, h1, h2 => by
    have e : (p ++ x :: o).getD p.length 0 = ((i : Nat) : Int) := by
      rw [List.getD_eq_getElem?_getD, List.getElem?_append_right (Nat.le_refl _), Nat.sub_self, hx] <;> rfl
    have hn : setQ (p ++ x :: o) (p.length + 1) = nxtI s i := by
      show nxtI (setQ _ _) _ = _; rw [hs, e, Int.toNat_natCast]
    by_cases ek : k = p.length
    · subst ek; exact ⟨i, e, hi, by rw [hs]; exact hb, by rw [hn]; exact hp⟩
    have ea : p ++ x :: o = (p ++ [x]) ++ o := by simp
    rw [ea] at hn h2 ⊢
    have hl : (p ++ [x]).length = p.length + 1 := by simp
    exact path_idx h (by rw [hl]; exact hn) k (by omega) h2
structure IsOrd (g : Gat) (o : List Int) : Prop where
  len : o.length = g.1.length
  at_ : ∀ k, k < o.length → OrdK g o k
theorem isOrd {g : Gat} (h9 : g.1.length ≤ 9) {o : List Int} (h : ordN g 0 = some o) : IsOrd g o := by
  have hp := path_ord _ (zero_ok h9) rfl h; refine ⟨by rw [path_len hp, mis_zero], fun k hk => ?_⟩; have := path_idx (p := []) hp rfl k (Nat.zero_le _) hk; exact this
theorem IsOrd.rng {g : Gat} {o : List Int} (h : IsOrd g o) : ∀ j, j < o.length → 0 ≤ o.getD j 0 ∧ o.getD j 0 < ((g.1.length : Nat) : Int) := fun j hj => by
  obtain ⟨i, h1, h2, _⟩ := h.at_ j hj; omega
theorem IsOrd.ok {g : Gat} {o : List Int} (h : IsOrd g o) (h9 : g.1.length ≤ 9) {k : Nat} (hk : k ≤ o.length) : SetOk g.1.length (setQ o k) := setQ_ok h9 fun j hj => h.rng j (by omega)
theorem IsOrd.ordC {g : Gat} {o : List Int} (h : IsOrd g o) : ordC g o = 0 := by
  have h1 : firstR (ocE g.1.length o) 0 o.length = 0 := firstR_zero.2 fun k hk => by
    obtain ⟨i, h1, h2, h3, _⟩ := h.at_ k hk; unfold ocE; rw [if_neg (by omega), h1, Int.toNat_natCast, if_neg (by rw [h3]; decide)]
  have h2 : firstR (opE g o) 0 o.length = 0 := firstR_zero.2 fun k hk => by
    obtain ⟨i, _, _, _, h4⟩ := h.at_ k hk; exact if_pos h4
  rw [ord_2 (by rw [h.len]) h1, h2]
theorem stk_res {g : Gat} {l : List Int} (h : stkC g l = 0) : (∀ k, k < l.length → skE g l k = 0) ∧ l.contains 0 = true ∧ l.contains (fulI g.1.length) = false ∧ closB g l = true := by
  unfold stkC at h; by_cases h1 : firstR (skE g l) 0 l.length ≠ 0
  · rw [if_pos h1] at h; exact absurd h h1
  rw [if_neg h1] at h; refine ⟨firstR_zero.1 (Classical.not_not.1 h1), ?_⟩; by_cases h2 : l.contains 0 = true ∧ l.contains (fulI g.1.length) = false ∧ closB g l = true
  · exact h2
  rw [if_neg h2] at h; cases h
theorem stk_reach {g : Gat} {l : List Int} (h : stkC g l = 0) {s : Int} (hs : Reach g s) : l.contains s = true := by
  obtain ⟨_, h1, _, h2⟩ := stk_res h
  induction hs with
  | zero => exact h1
  | step _ hy ih =>
    obtain ⟨k, hk, he⟩ := has_get.1 ih; have h3 := of_decide_eq_true h2 k hk _ (by rw [he]; exact hy); exact h3
theorem stk_none {g : Gat} {l : List Int} (h : stkC g l = 0) : ¬ Reach g (fulI g.1.length) := fun hr => by
  have h1 := stk_reach h hr; rw [(stk_res h).2.2.1] at h1; cases h1
theorem rea_asc {g : Gat} {j k : Nat} (h : j < k) (hk : k < (reaL g).length) : (reaL g)[j] < (reaL g)[k] := List.pairwise_iff_getElem.1 reaL_asc j k (by omega) hk h
theorem rea_at {g : Gat} (h9 : g.1.length ≤ 9) {k : Nat} (hk : k < (reaL g).length) : Reach g (reaL g)[k] := (reaL_mem h9).1 (List.getElem_mem hk)
theorem setE_0 {g : Gat} {s : Int} (h : SetOk g.1.length s) : setE g s = 0 := by
  unfold setE; have h1 := h.lo; have h2 := h.hi
  have h3 : s < (1 : Int) * 2 ^ ((g.1.length : Nat) : Int).toNat := by
    have h4 : (1 : Int) * 2 ^ ((g.1.length : Nat) : Int).toNat = ((2 ^ g.1.length : Nat) : Int) := by rw [Int.toNat_natCast, Int.one_mul]; simp
    rw [h4]; omega
  rw [decide_eq_false (by omega), decide_eq_false (by omega)] <;> rfl
theorem rea_stk {g : Gat} (h9 : g.1.length ≤ 9) (hn : ¬ Reach g (fulI g.1.length)) : stkC g (reaL g) = 0 := by
  have h1 : firstR (skE g (reaL g)) 0 (reaL g).length = 0 := firstR_zero.2 fun k hk => by
    have hr := rea_at h9 hk; have ho := hr.ok h9; refine sk_0 (by rw [getDg hk]; exact setE_0 ho) ?_
    cases k with
    | zero => show ¬ (reaL g).getD 0 0 ≤ -1; rw [getDg hk]; have := ho.lo; omega
    | succ k =>
      show ¬ (reaL g).getD (k + 1) 0 ≤ (reaL g).getD k 0; rw [getDg hk, getDg (show k < (reaL g).length by omega)]; have : (reaL g)[k] < (reaL g)[k + 1] := rea_asc (g := g) (Nat.lt_succ_self k) hk; omega
  rw [AscS.res2 h1, if_pos]; refine ⟨List.contains_iff_mem.2 ((reaL_mem h9).2 .zero), ?_, ?_⟩
  · cases hc : (reaL g).contains (fulI g.1.length) with
    | false => rfl
    | true => exact absurd ((reaL_mem h9).1 (List.contains_iff_mem.1 hc)) hn
  exact clos_t fun k hk y hy => by
    rw [getDg hk] at hy; exact List.contains_iff_mem.2 ((reaL_mem h9).2 ((rea_at h9 hk).step hy))
theorem rea_first {g : Gat} (h9 : g.1.length ≤ 9) : 0 < (reaL g).length ∧ (reaL g).getD 0 0 = 0 := by
  obtain ⟨k, hk, he⟩ := List.mem_iff_getElem.1 ((reaL_mem h9).2 .zero); refine ⟨by omega, ?_⟩; rw [getDg (show 0 < (reaL g).length by omega)]
  cases k with
  | zero => exact he
  | succ k =>
    have h1 := rea_asc (g := g) (show 0 < k + 1 by omega) hk; have h2 := ((rea_at h9 (show 0 < (reaL g).length by omega)).ok h9).lo; omega
theorem rea_last {g : Gat} (h9 : g.1.length ≤ 9) (hn : ¬ Reach g (fulI g.1.length)) {k : Nat} (hk : k < (reaL g).length) : (reaL g)[k] < fulI g.1.length := by
  have h1 := rea_at h9 hk; have h2 := ful_max (h1.ok h9); have h3 : (reaL g)[k] ≠ fulI g.1.length := fun e => hn (e ▸ h1); omega
theorem rea_len {g : Gat} : (reaL g).length ≤ 2 ^ g.1.length := by
  unfold reaL; rw [List.length_map]; exact Nat.le_trans (List.length_filter_le _ _) (by simp)
theorem rea_next {g : Gat} (h9 : g.1.length ≤ 9) {k j : Nat} (hk : k < (reaL g).length) (hj : j < g.1.length) (hp : permE g (nxtI (reaL g)[k] j) g.1.length = true) : (reaL g).contains (nxtI (reaL g)[k] j) = true := List.contains_iff_mem.2 ((reaL_mem h9).2 (nxt_reach h9 (rea_at h9 hk) hj hp))
theorem gateE_of {g : Gat} {i : Nat} (h1 : 0 ≤ g.1.getD i 0 ∧ g.1.getD i 0 ≤ 10000) (h2 : -10000 ≤ g.2.1.getD i 0 ∧ g.2.1.getD i 0 ≤ 10000) (h3 : (g.2.2.getD i []).length = g.1.length) (h4 : ∀ x ∈ g.2.2.getD i [], -10000 ≤ x ∧ x ≤ 10000) (h5 : (g.2.2.getD i []).getD i 0 = 0) : gateE g i = 0 := by
  unfold gateE row4
  rw [rangeE_zero.2 h1, show frcE (g.2.1.getD i 0) = 0 from rangeE_zero.2 h2, decide_eq_false (by rw [h3]; exact fun h => h rfl), show firstE ((g.2.2.getD i []).map frcE) = 0 from firstE_zero.2 fun y hy => by
    obtain ⟨x, hx, rfl⟩ := List.mem_map.1 hy
    exact rangeE_zero.2 (h4 x hx), h5]
  rfl
theorem gatesE_of {g : Gat} (h1 : headG g = 0) (h2 : ∀ i, i < g.1.length → gateE g i = 0) : gatesE g = 0 := by
  unfold gatesE; rw [if_neg (fun h => h h1)]
  exact firstE_zero.2 fun y hy => by
    obtain ⟨i, hi, rfl⟩ := List.mem_map.1 hy; exact h2 i (List.mem_range.1 hi)
def strS (l : List Int) (i : Nat) : List Int := (l.take i).map (fun s => min 10000 (s + 1)) ++ l.drop i
theorem strS_len {l : List Int} {i : Nat} : (strS l i).length = l.length := by
  unfold strS; rw [List.length_append, List.length_map, List.length_take, List.length_drop]; omega
theorem strS_at {l : List Int} {i : Nat} (hi : i < l.length) (h : i < (strS l i).length) : (strS l i)[i] = l[i] := by
  have h1 : ((l.take i).map (fun s => min 10000 (s + 1))).length = i := by rw [List.length_map, List.length_take]; omega
  have h2 : (strS l i)[i]? = some l[i] := by
    unfold strS; rw [List.getElem?_append_right (by omega), h1, Nat.sub_self, List.getElem?_drop, Nat.add_zero, List.getElem?_eq_getElem hi]
  rw [List.getElem?_eq_getElem h] at h2; exact Option.some.inj h2
theorem strS_s {l : List Int} {i : Nat} (hi : i < l.length) : (strS l i).set i (min 10000 (l[i] + 1)) = strS l (i + 1) := by
  unfold strS; rw [List.set_append_right _ _ (by rw [List.length_map, List.length_take]; omega), List.length_map, List.length_take, Nat.min_eq_left (by omega), Nat.sub_self, List.drop_eq_getElem_cons hi, List.set_cons_zero, List.take_succ_eq_append_getElem hi, List.map_append, List.append_assoc]; rfl
theorem strS_all {l : List Int} : strS l l.length = l.map fun s => min 10000 (s + 1) := by
  unfold strS; rw [List.take_length, List.drop_length, List.append_nil]
def strG (g : Gat) : Gat := (strS g.1 g.1.length, g.2)
theorem strG_len {g : Gat} : (strG g).1.length = g.1.length := strS_len
theorem strG_at {g : Gat} {i : Nat} (hi : i < g.1.length) : (strG g).1.getD i 0 = min 10000 (g.1.getD i 0 + 1) := by
  show (strS g.1 g.1.length).getD i 0 = _; rw [strS_all, List.getD_eq_getElem?_getD, List.getElem?_map, List.getElem?_eq_getElem hi, getDg hi]; rfl
theorem strG_ok {g : Gat} (h : gatesE g = 0) : gatesE (strG g) = 0 := by
  obtain ⟨h1, h2⟩ := gates_ok h; refine gatesE_of ?_ fun i hi => ?_
  · unfold headG at h1 ⊢; rw [strG_len]; exact h1
  rw [strG_len] at hi; have hv := gateE_ok (h2 i hi); refine gateE_of ?_ hv.2.1 (by rw [strG_len]; exact hv.2.2.1) hv.2.2.2.1 hv.2.2.2.2; rw [strG_at hi]; omega
theorem strG_perm {g : Gat} (h : gatesE g = 0) {s : Int} : ∀ {k : Nat}, k ≤ g.1.length → permE g s k = true → permE (strG g) s k = true
  | 0, _, _ => rfl
  | k + 1, hk, hp => by
    obtain ⟨h1, h2⟩ := band (show (permE g s k && !overB g s k) = true from hp); have hv := gateE_ok ((gates_ok h).2 k (by omega)); show (permE (strG g) s k && !overB (strG g) s k) = true; rw [strG_perm h (by omega) h1]
    have h3 : overB g s k = false := by simpa using h2
    have h4 : overB (strG g) s k = false := by
      unfold overB at h3 ⊢; rw [strG_at (by omega)]; show (hasB s k && decide (min 10000 (g.1.getD k 0 + 1) < max (forceE g s k) (-forceE g s k))) = false
      cases hb : hasB s k with
      | false => rfl
      | true =>
        rw [hb] at h3; have h5 : ¬ g.1.getD k 0 < max (forceE g s k) (-forceE g s k) := of_decide_eq_false (by simpa using h3); rw [Bool.true_and]
        exact decide_eq_false fun h6 => by
          have hf := force_b (set := s) h (show k < g.1.length by omega); omega
    rw [h4] <;> rfl
theorem strG_ord {g : Gat} (h : gatesE g = 0) {o : List Int} (ho : IsOrd g o) : ckoE (strG g) o = 0 := by
  rw [ckoE, if_pos (strG_ok h)]; refine IsOrd.ordC ⟨by rw [strG_len]; exact ho.len, fun k hk => ?_⟩; obtain ⟨i, h1, h2, h3, h4⟩ := ho.at_ k hk; exact ⟨i, h1, by rw [strG_len]; exact h2, h3, by rw [strG_len]; exact strG_perm h (Nat.le_refl _) h4⟩
end Go.Proofs
namespace Go.Proofs
open Go.Fs
set_option maxHeartbeats 1000000
def zerR (r : List Int) (k : Nat) : List Int := List.replicate k 0 ++ r.drop k
theorem zerR_0 {r : List Int} : zerR r 0 = r := rfl
theorem zerR_len {r : List Int} {k : Nat} (h : k ≤ r.length) : (zerR r k).length = r.length := by
  unfold zerR; rw [List.length_append, List.length_replicate, List.length_drop]; omega
theorem zerR_s {r : List Int} {k : Nat} (h : k < r.length) : (zerR r k).set k 0 = zerR r (k + 1) := by
  unfold zerR; rw [List.set_append_right _ _ (by rw [List.length_replicate]; exact Nat.le_refl _), List.length_replicate, Nat.sub_self, List.drop_eq_getElem_cons h, List.set_cons_zero, List.replicate_succ', List.append_assoc]; rfl
theorem zerR_all {r : List Int} : zerR r r.length = List.replicate r.length 0 := by
  unfold zerR; rw [List.drop_length, List.append_nil]
def frM (m : List (List Int)) (i : Nat) : List (List Int) := (m.take i).map (fun r => List.replicate r.length 0) ++ m.drop i
def frX (m : List (List Int)) (i k : Nat) : List (List Int) := (m.take i).map (fun r => List.replicate r.length 0) ++ zerR (m.getD i []) k :: m.drop (i + 1)
theorem frX_0 {m : List (List Int)} {i : Nat} (h : i < m.length) : frX m i 0 = frM m i := by
  unfold frX frM; rw [zerR_0, getDg h, ← List.drop_eq_getElem_cons h]
theorem frX_end {m : List (List Int)} {i : Nat} (h : i < m.length) : frX m i (m.getD i []).length = frM m (i + 1) := by
  unfold frX frM; rw [zerR_all, List.take_succ_eq_append_getElem h, List.map_append, List.append_assoc, getDg h]; rfl
theorem frM_len {m : List (List Int)} {i : Nat} : (frM m i).length = m.length := by
  unfold frM; rw [List.length_append, List.length_map, List.length_take, List.length_drop]; omega
theorem frX_len {m : List (List Int)} {i k : Nat} (h : i < m.length) : (frX m i k).length = m.length := by
  unfold frX; rw [List.length_append, List.length_map, List.length_take, List.length_cons, List.length_drop]; omega
theorem frX_at {m : List (List Int)} {i k : Nat} (h : i < m.length) (h2 : i < (frX m i k).length) : (frX m i k)[i] = zerR (m.getD i []) k := by
  have h1 : ((m.take i).map (fun r => List.replicate r.length (0 : Int))).length = i := by rw [List.length_map, List.length_take]; omega
  have h3 : (frX m i k)[i]? = some (zerR (m.getD i []) k) := by
    unfold frX; rw [List.getElem?_append_right (by omega), h1, Nat.sub_self] <;> rfl
  rw [List.getElem?_eq_getElem h2] at h3; exact Option.some.inj h3
theorem frX_s {m : List (List Int)} {i k : Nat} (h : i < m.length) (hk : k < (m.getD i []).length) : (frX m i k).set i ((zerR (m.getD i []) k).set k 0) = frX m i (k + 1) := by
  have h1 : ((m.take i).map (fun r => List.replicate r.length (0 : Int))).length = i := by rw [List.length_map, List.length_take]; omega
  unfold frX; rw [List.set_append_right _ _ (by omega), h1, Nat.sub_self, List.set_cons_zero, zerR_s hk]
theorem frM_all {m : List (List Int)} : frM m m.length = m.map fun r => List.replicate r.length 0 := by
  unfold frM; rw [List.take_length, List.drop_length, List.append_nil]
def freG (g : Gat) : Gat := (g.1, g.2.1, frM g.2.2 g.2.2.length)
theorem freG_at {g : Gat} {i : Nat} (hi : i < g.2.2.length) : (freG g).2.2.getD i [] = List.replicate (g.2.2.getD i []).length 0 := by
  show (frM g.2.2 g.2.2.length).getD i [] = _; rw [frM_all, List.getD_eq_getElem?_getD, List.getElem?_map, List.getElem?_eq_getElem hi, getDg hi]; rfl
theorem freG_ok {g : Gat} (h : gatesE g = 0) : gatesE (freG g) = 0 := by
  obtain ⟨h1, h2⟩ := gates_ok h; have hd := head_ok h1; refine gatesE_of ?_ fun i hi => ?_
  · unfold headG at h1 ⊢; rw [show (freG g).2.2.length = g.2.2.length from frM_len]; exact h1
  have hi : i < g.1.length := hi; have hv := gateE_ok (h2 i hi); refine gateE_of hv.1 hv.2.1 ?_ ?_ ?_
  · rw [freG_at (by omega), List.length_replicate]; exact hv.2.2.1
  · intro x hx; rw [freG_at (by omega)] at hx; rw [List.eq_of_mem_replicate hx]; omega
  rw [freG_at (by omega), List.getD_eq_getElem?_getD, List.getElem?_replicate]; split <;> rfl
theorem sumF_0 {s : Int} {q : Nat} : ∀ k : Nat, sumF s (List.replicate q 0) k = 0
  | 0 => rfl
  | k + 1 => by
    have ih := sumF_0 (s := s) (q := q) k
    have hg : (List.replicate q (0 : Int)).getD k 0 = 0 := by
      rw [List.getD_eq_getElem?_getD, List.getElem?_replicate]; split <;> rfl
    cases hb : hasB s k with
    | true => rw [sumF_t hb, ih, hg] <;> rfl
    | false => rw [sumF_f hb, ih]
theorem freG_force {g : Gat} (h : gatesE g = 0) {s : Int} {i : Nat} (hi : i < g.1.length) : forceE (freG g) s i = g.2.1.getD i 0 := by
  have hd := head_ok (gates_ok h).1; unfold forceE; rw [freG_at (by omega), sumF_0]; show g.2.1.getD i 0 + 0 = _; omega
def beaR (g : Gat) : Nat → Bool
  | 0 => true
  | i + 1 => beaR g i && (decide (g.2.1.getD i 0 ≤ g.1.getD i 0) && decide (-(g.1.getD i 0) ≤ g.2.1.getD i 0))
theorem bea_all {g : Gat} : ∀ {n : Nat}, beaR g n = true ↔ ∀ i, i < n → g.2.1.getD i 0 ≤ g.1.getD i 0 ∧ -(g.1.getD i 0) ≤ g.2.1.getD i 0
  | 0 => ⟨fun _ i hi => by omega, fun _ => rfl⟩
  | n + 1 => by
    show (beaR g n && (decide (g.2.1.getD n 0 ≤ g.1.getD n 0) && decide (-(g.1.getD n 0) ≤ g.2.1.getD n 0))) = true ↔ _; rw [Bool.and_eq_true, Bool.and_eq_true, decide_eq_true_eq, decide_eq_true_eq, bea_all]; constructor
    · rintro ⟨h1, h2⟩ i hi; rcases Nat.lt_succ_iff_lt_or_eq.1 hi with h | h
      · exact h1 i h
      subst h; exact h2
    exact fun h => ⟨fun i hi => h i (by omega), h n (by omega)⟩
theorem free_over {g : Gat} (h : gatesE g = 0) {s : Int} {i : Nat} (hi : i < g.1.length) : overB (freG g) s i = (hasB s i && !(decide (g.2.1.getD i 0 ≤ g.1.getD i 0) && decide (-(g.1.getD i 0) ≤ g.2.1.getD i 0))) := by
  unfold overB; rw [freG_force h hi]; congr 1; show decide (g.1.getD i 0 < max (g.2.1.getD i 0) (-(g.2.1.getD i 0))) = _; rw [Bool.eq_iff_iff, decide_eq_true_eq, Bool.not_eq_true', Bool.and_eq_false_iff, decide_eq_false_iff_not, decide_eq_false_iff_not]; omega
theorem free_perm {g : Gat} (h : gatesE g = 0) (hb : beaR g g.1.length = true) {s : Int} : ∀ {k : Nat}, k ≤ g.1.length → permE (freG g) s k = true
  | 0, _ => rfl
  | k + 1, hk => by
    have h1 := bea_all.1 hb k (by omega); show (permE (freG g) s k && !overB (freG g) s k) = true; rw [free_perm h hb (by omega), free_over h (by omega), decide_eq_true h1.1, decide_eq_true h1.2]; simp
theorem free_reach {g : Gat} (h : gatesE g = 0) (hb : beaR g g.1.length = true) (h9 : g.1.length ≤ 9) : ∀ (f : Nat) {s : Int}, Reach (freG g) s → misN g.1.length s = f → Reach (freG g) (fulI g.1.length)
  | 0, s, hr, hf => by rw [← (mis_full (show SetOk g.1.length s from hr.ok (g := freG g) h9)).1 hf]; exact hr
  | f + 1, s, hr, hf => by
    have ho : SetOk g.1.length s := hr.ok (g := freG g) h9
    have hne : (List.range g.1.length).filter (fun i => !s.toNat.testBit i) ≠ [] := fun e => by
      have : misN g.1.length s = 0 := by unfold misN; rw [e] <;> rfl
      omega
    obtain ⟨i, hi⟩ := List.exists_mem_of_ne_nil _ hne; obtain ⟨h1, h2⟩ := List.mem_filter.1 hi; have h1 := List.mem_range.1 h1
    have h2 : s.toNat.testBit i = false := by simpa using h2
    have hn := nxt_reach (g := freG g) h9 hr (j := i) h1 (free_perm h hb (Nat.le_refl _)); exact free_reach h hb h9 f hn (by have := mis_next h1 h2; omega)
theorem perm_at {g : Gat} {s : Int} {n i : Nat} (h : permE g s n = true) (hi : i < n) : overB g s i = false := by
  cases hc : overB g s i with
  | false => rfl
  | true => rw [perm_no hc hi] at h; cases h
theorem free_law {g : Gat} (h : gatesE g = 0) : (ordE (freG g) = 0) ↔ beaR g g.1.length = true := by
  have hd := head_ok (gates_ok h).1
  have h9 : g.1.length ≤ 9 := by omega
  have hor := ord_reach (g := freG g) h9; have he : ordE (freG g) = whenE (!(ordN (freG g) 0).isSome) 24 := if_pos (freG_ok h); rw [he, whenE_zero (by decide), Bool.not_eq_false', hor]; constructor
  · intro hr
    have hful : fulI g.1.length ≠ 0 := by
      have := Nat.two_pow_pos g.1.length; have h2 : 2 ^ 1 ≤ 2 ^ g.1.length := Nat.pow_le_pow_right (by decide) (by omega); unfold fulI; omega
    have hp : permE (freG g) (fulI g.1.length) g.1.length = true := by
      generalize hx : fulI (freG g).1.length = x at hr; have hx : fulI g.1.length = x := hx; rw [hx] at hful ⊢
      cases hr with
      | zero => exact absurd rfl hful
      | step hs hy => exact (more_ok (hs.ok (g := freG g) h9) hy).2.2.2.2.2
    refine bea_all.2 fun i hi => ?_; have h1 := perm_at hp hi
    have h2 : hasB (fulI g.1.length) i = true := by
      show hasI _ _ = true; have hok := ful_ok h9; rw [hasI_bit hok.lo (Nat.lt_trans hok.big (by decide)), ful_bit hi]
    rw [free_over h hi, h2, Bool.true_and, Bool.not_eq_false', Bool.and_eq_true, decide_eq_true_eq, decide_eq_true_eq] at h1; exact h1
  exact fun hb => free_reach h hb h9 _ .zero rfl
def givL (l : List Int) (n j : Nat) : List Int := (l.take j).filter fun x => decide (x < ((2 ^ n : Nat) : Int))
theorem givL_t {l : List Int} {n j : Nat} (h : j < l.length) (hx : l[j] < ((2 ^ n : Nat) : Int)) : givL l n (j + 1) = givL l n j ++ [l[j]] := by
  unfold givL; rw [List.take_succ_eq_append_getElem h, List.filter_append, List.filter_cons, if_pos (decide_eq_true hx)]; rfl
theorem givL_f {l : List Int} {n j : Nat} (h : j < l.length) (hx : ¬ l[j] < ((2 ^ n : Nat) : Int)) : givL l n (j + 1) = givL l n j := by
  unfold givL; rw [List.take_succ_eq_append_getElem h, List.filter_append, List.filter_cons, if_neg (by simpa using hx)]; simp
theorem givL_len {l : List Int} {n j : Nat} : (givL l n j).length ≤ l.length := by
  unfold givL; refine Nat.le_trans (List.length_filter_le _ _) ?_; rw [List.length_take]; omega
theorem ord_is {g : Gat} (hz : gatesE g = 0) (h : ordE g = 0) : IsOrd g (ordR g) := by
  have hd := head_ok (gates_ok hz).1; have e1 : ordE g = whenE (!(ordN g 0).isSome) 24 := if_pos hz
  cases ho : ordN g 0 with
  | none => rw [e1, ho] at h; cases h
  | some o =>
    have e2 : ordR g = o := by rw [ordR, if_pos hz, ho] <;> rfl
    rw [e2]; exact isOrd (by omega) ho
theorem ord_no {g : Gat} (hz : gatesE g = 0) (h : ordE g = 24) : ¬ Reach g (fulI g.1.length) := fun hr => by
  have hd := head_ok (gates_ok hz).1; have e1 : ordE g = whenE (!(ordN g 0).isSome) 24 := if_pos hz; rw [e1, (ord_reach (by omega)).2 hr] at h; cases h
structure IsStk (g : Gat) (L : List Int) : Prop where
  pos : 0 < L.length
  first : L[0] = 0
  le : L.length ≤ 2 ^ g.1.length
  last : ∀ (k : Nat) (h : k < L.length), L[k] < fulI g.1.length
  acc : stkE g L = 0
  asc : ∀ (j k : Nat) (h : j < k) (hk : k < L.length), L[j] < L[k]
  ok : ∀ (k : Nat) (h : k < L.length), SetOk g.1.length L[k]
  next : ∀ (k j : Nat) (h : k < L.length), j < g.1.length → permE g (nxtI L[k] j) g.1.length = true → L.contains (nxtI L[k] j) = true
theorem stu_is {g : Gat} (hz : gatesE g = 0) (h : ordE g = 24) : IsStk g (stuR g) := by
  have hn := ord_no hz h; have hd := head_ok (gates_ok hz).1
  have h9 : g.1.length ≤ 9 := by omega
  have e : stuR g = reaL g := by rw [stuR, if_pos ⟨hz, hn⟩]
  rw [e]; have hf := rea_first (g := g) h9; exact ⟨hf.1, by rw [← getDg hf.1 (d := 0)]; exact hf.2, rea_len, fun k hk => rea_last h9 hn hk, by rw [stkE, if_pos hz]; exact rea_stk h9 hn, fun j k hj hk => rea_asc hj hk, fun k hk => (rea_at h9 hk).ok h9, fun k j hk hj hp => rea_next h9 hk hj hp⟩
theorem giv_no {g : Gat} (hz : gatesE g = 0) {l : List Int} (h : ordE g = 0) (hs : stkE g l = 0) : False := by
  have hd := head_ok (gates_ok hz).1; have e1 : ordE g = whenE (!(ordN g 0).isSome) 24 := if_pos hz; rw [stkE, if_pos hz] at hs; refine stk_none hs ((ord_reach (by omega)).1 ?_)
  cases ho : ordN g 0 with
  | none => rw [e1, ho] at h; cases h
  | some o => rfl
end Go.Proofs
