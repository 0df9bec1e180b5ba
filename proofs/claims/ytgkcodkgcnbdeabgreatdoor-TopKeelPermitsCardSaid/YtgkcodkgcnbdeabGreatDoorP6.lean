/- Parts of the proof: an evaluator of the model, what it is sound for, and contracts of functions. No condition. -/
import Derived.Test.YtgkcodkgcnbdeabGreatDoorP5
set_option linter.all false
namespace Go.Proofs
open Go.Fs
abbrev y29 : Ty := (.pair (.int .i64) (.int .i64))
theorem vt9 : ValT Tryz.prog 9 .str := valT_of (by kernel_rfl)
theorem vt29 : ValT Tryz.prog 29 y29 := valT_of (by kernel_rfl)
theorem el27 : ElT Tryz.prog 27 9 .str := elT_of (by kernel_rfl)
theorem gWhen_ok {c : Bool} {e : Int} : VF Tryz.prog OA 90 [B c, I e] (I (whenE c e)) := by
  refine VF.enter Tryz.func90 rfl (fun _ _ => rfl) rfl ?_; show VC _ _ _ _ _ [(0, B c), (1, I e)] [] _; refine VC.seq (VC.text ?_); refine VO.c (.assign rfl) ?_; refine VO.go (VC.seq (VC.seq (VC.text ?_))); refine VO.c (.move rfl) (VO.go ?_); refine VC.condB rfl (fun c1 => ?_) (fun c1 => ?_)
  · subst c1; refine VC.seq (VC.text ?_); refine VO.c (.move rfl) (VO.c (.assign rfl) (VO.go ?_)); refine VC.ret ?_; exact VEnd.one rfl evT (pvI (by rfl))
  subst c1; refine VC.skip (VC.seq (VC.text ?_)); refine VO.c (.assign rfl) (VO.go ?_); refine VC.ret ?_; exact VEnd.one rfl evT (pvI (by rfl))
def spanE (p : Int × Int) : Int := if p.1 < 0 ∨ p.2 ≤ p.1 ∨ 100000 < p.2 then 14 else 0
theorem whenE_span {p : Int × Int} : whenE (decide (p.1 < 0) || decide (p.2 ≤ p.1) || decide (100000 < p.2)) 14 = spanE p := by
  unfold whenE spanE; by_cases h1 : p.1 < 0 <;> by_cases h2 : p.2 ≤ p.1 <;> by_cases h3 : 100000 < p.2 <;> simp [h1, h2, h3]
theorem gSpan_ok {p : Int × Int} : VF Tryz.prog OA 89 [.v y29 p] (I (spanE p)) := by
  refine VF.enter Tryz.func89 rfl (fun _ _ => rfl) rfl ?_; show VC _ _ _ _ _ [(0, .v y29 p)] [] _; refine VC.seq (VC.text ?_); refine VO.new (.box) ?_; refine VO.c (.assign rfl) ?_; refine VO.go (VC.seq (VC.text ?_)); refine VO.c (.fa (.l .o)) ?_; refine VO.r (.ld vt3) ?_; refine VO.c (.lss) (VO.c (.move rfl) ?_); refine VO.cg (r := decide (p.1 < (0 : Int))) (w := false) [] trivial (fun _ => (.fa (.l .o))) ?_; refine VO.rg (r := decide (p.1 < (0 : Int))) (w := false) [(7, .p (.int .i64) p.1)] ⟨rfl, trivial⟩ (fun _ => (.ld vt3)) ?_; refine VO.cg (r := decide (p.1 < (0 : Int))) (w := false) [] trivial (fun _ => (.fa (.r (k := 0) .o))) ?_; refine VO.rg (r := decide (p.1 < (0 : Int))) (w := false) [(9, .p (.int .i64) p.2)] ⟨rfl, trivial⟩ (fun _ => (.ld vt3)) ?_; refine VO.cg (r := decide (p.1 < (0 : Int))) (w := false) [(8, I p.1), (10, I p.2)] ⟨rfl, rfl, trivial⟩ (fun _ => (.geq)) ?_; refine VO.c (.or) (VO.c (.move rfl) ?_); refine VO.cg (r := ((decide (p.1 < (0 : Int))) || (decide (p.2 ≤ p.1)))) (w := false) [] trivial (fun _ => (.fa (.r (k := 0) .o))) ?_; refine VO.rg (r := ((decide (p.1 < (0 : Int))) || (decide (p.2 ≤ p.1)))) (w := false) [(14, .p (.int .i64) p.2)] ⟨rfl, trivial⟩ (fun _ => (.ld vt3)) ?_; refine VO.cg (r := ((decide (p.1 < (0 : Int))) || (decide (p.2 ≤ p.1)))) (w := false) [(15, I p.2)] ⟨rfl, trivial⟩ (fun _ => (.gtr)) ?_; refine VO.c (.or) ?_; refine VO.call rfl rfl (VF.call (gWhen_ok )) ?_; refine VO.c (.assign rfl) (VO.go ?_); refine VC.ret ?_; exact VEnd.one rfl evT (pvI (by exact whenE_span))
theorem sSpan_ok {p : Int × Int} : VF Tryz.prog OA 53 [.v y29 p] (I (spanE p)) := by
  refine VF.enter Tryz.func53 rfl (fun _ _ => rfl) rfl ?_; show VC _ _ _ _ _ [(0, .v y29 p)] [] _; refine VC.seq (VC.text ?_); refine VO.new (.box) ?_; refine VO.c (.assign rfl) ?_; refine VO.go (VC.seq (VC.text ?_)); refine VO.r (.ld vt29) ?_; refine VO.call rfl rfl (VF.call (gSpan_ok )) ?_; refine VO.c (.neq) ?_; refine VO.call rfl rfl (VF.call (sWhen_ok )) ?_; refine VO.c (.assign rfl) (VO.go ?_); refine VC.ret ?_; exact VEnd.one rfl evT (pvI (by unfold whenE spanE; split <;> simp))
theorem rSpan_ok {p : Int × Int} : VF Tryz.prog OA 15 [.v y29 p] (I (spanE p)) := by
  refine VF.enter Tryz.func15 rfl (fun _ _ => rfl) rfl ?_; show VC _ _ _ _ _ [(0, .v y29 p)] [] _; refine VC.seq (VC.text ?_); refine VO.new (.box) ?_; refine VO.c (.assign rfl) ?_; refine VO.go (VC.seq (VC.seq (VC.text ?_))); refine VO.c (.fa (.l .o)) ?_; refine VO.r (.ld vt3) ?_; refine VO.c (.lss) (VO.c (.move rfl) ?_); refine VO.cg (r := decide (p.1 < (0 : Int))) (w := false) [] trivial (fun _ => (.fa (.r (k := 0) .o))) ?_; refine VO.rg (r := decide (p.1 < (0 : Int))) (w := false) [(7, .p (.int .i64) p.2)] ⟨rfl, trivial⟩ (fun _ => (.ld vt3)) ?_; refine VO.cg (r := decide (p.1 < (0 : Int))) (w := false) [] trivial (fun _ => (.fa (.l .o))) ?_; refine VO.rg (r := decide (p.1 < (0 : Int))) (w := false) [(9, .p (.int .i64) p.1)] ⟨rfl, trivial⟩ (fun _ => (.ld vt3)) ?_; refine VO.cg (r := decide (p.1 < (0 : Int))) (w := false) [(8, I p.2), (10, I p.1)] ⟨rfl, rfl, trivial⟩ (fun _ => (.leq)) ?_; refine VO.c (.or) (VO.c (.move rfl) ?_); refine VO.cg (r := ((decide (p.1 < (0 : Int))) || (decide (p.2 ≤ p.1)))) (w := false) [] trivial (fun _ => (.fa (.r (k := 0) .o))) ?_; refine VO.rg (r := ((decide (p.1 < (0 : Int))) || (decide (p.2 ≤ p.1)))) (w := false) [(14, .p (.int .i64) p.2)] ⟨rfl, trivial⟩ (fun _ => (.ld vt3)) ?_; refine VO.cg (r := ((decide (p.1 < (0 : Int))) || (decide (p.2 ≤ p.1)))) (w := false) [(15, I p.2)] ⟨rfl, trivial⟩ (fun _ => (.gtr)) ?_; refine VO.c (.or) (VO.go ?_); refine VC.condB rfl (fun c1 => ?_) (fun c1 => ?_)
  · try simp only [Bool.and_eq_true, Bool.or_eq_true, Bool.and_eq_false_iff, Bool.or_eq_false_iff, Bool.not_eq_true', Bool.not_eq_false', decide_eq_true_eq, decide_eq_false_iff_not] at c1
    refine VC.seq (VC.text ?_); refine VO.c (.assign rfl) (VO.go ?_); refine VC.ret ?_; exact VEnd.one rfl evT (pvI (by simp only [spanE, ← Bool.decide_or, decide_eq_true_eq, decide_eq_false_iff_not, Bool.or_eq_true, Bool.or_eq_false_iff] at *; first | rw [if_pos (by omega)] | rw [if_neg (by omega)]))
  try simp only [Bool.and_eq_true, Bool.or_eq_true, Bool.and_eq_false_iff, Bool.or_eq_false_iff, Bool.not_eq_true', Bool.not_eq_false', decide_eq_true_eq, decide_eq_false_iff_not] at c1
  refine VC.skip (VC.seq (VC.text ?_)); refine VO.c (.assign rfl) (VO.go ?_); refine VC.ret ?_; exact VEnd.one rfl evT (pvI (by simp only [spanE, ← Bool.decide_or, decide_eq_true_eq, decide_eq_false_iff_not, Bool.or_eq_true, Bool.or_eq_false_iff] at *; first | rw [if_pos (by omega)] | rw [if_neg (by omega)]))
theorem sNm_ok {s : ByteArray} : VF Tryz.prog OA 49 [St s] (I (whenE (!nameB s) 8)) := by
  refine VF.enter Tryz.func49 rfl (fun _ _ => rfl) rfl ?_; show VC _ _ _ _ _ [(0, St s)] [] _; refine VC.seq (VC.text ?_); refine VO.c (.assign rfl) ?_; refine VO.go (VC.seq (VC.text ?_)); refine VO.c (.move rfl) ?_; refine VO.call rfl rfl (VF.call (gName_ok )) ?_; refine VO.c (.not) ?_; refine VO.call rfl rfl (VF.call (sWhen_ok )) ?_; refine VO.c (.assign rfl) (VO.go ?_); refine VC.ret ?_; exact VEnd.one rfl evT (pvI (by rfl))
def wst {α β : Type} (e : β → α → Int) (nx : β → α → β) : β → List α → Int × β
  | s, [] => (0, s)
  | s, x :: r => if e s x = 0 then wst e nx (nx s x) r else (e s x, nx s x)
theorem wst_drop {α β : Type} {e : β → α → Int} {nx : β → α → β} {s : β} {l : List α} {j : Nat} (hj : j < l.length) : wst e nx s (l.drop j) = if e s l[j] = 0 then wst e nx (nx s l[j]) (l.drop (j + 1)) else (e s l[j], nx s l[j]) := by
  rw [List.drop_eq_getElem_cons hj] <;> rfl
theorem wst_end {α β : Type} {e : β → α → Int} {nx : β → α → β} {s : β} {l : List α} {j : Nat} (hj : l.length ≤ j) : wst e nx s (l.drop j) = (0, s) := by rw [List.drop_eq_nil_of_le hj] <;> rfl
theorem sWorstG {l : List ByteArray} {f : PV} {β : Type} {e : β → ByteArray → Int} {nx : β → ByteArray → β} {γ : β → Sto} {s0 : β} (hl : l.length < 1000000) (hown : ∀ s, own (γ s) = own (γ s0)) (hflat : ∀ s, ((γ s).all fun c => c.2.flat) = true)
    (hf : ∀ s x, VCallG Tryz.prog OA f [.v .str x] (γ s) (fun r g => r = I (e s x) ∧ g = γ (nx s x))) : VFG Tryz.prog OA 52 [.v (.sl .str) l, f] (γ s0) (fun r g => r = I (wst e nx s0 l).1 ∧ g = γ (wst e nx s0 l).2) := by
  refine VFG.enter Tryz.func52 rfl (fun _ _ => rfl) rfl ?_; show VC _ _ _ _ _ [(0, .v (.sl .str) l), (1, f)] _ _; refine VC.seq (VC.text ?_); refine VO.c (.assign rfl) ?_; refine VO.go (VC.seq (VC.seq (VC.text ?_))); refine VO.c (.move rfl) ?_; refine VO.r (.len el27) ?_; refine VO.c (.move rfl) ?_; refine VO.go (VC.block ?_); refine VC.keep [(1, f), (8, .v (.sl .str) l), (9, I ((l.length : Nat) : Int)), (10, I ((0 : Nat) : Int))] ⟨rfl, rfl, rfl, rfl, trivial⟩ ?_; refine VC.loop (I := fun kk ff ss => ∃ (j : Nat) (s : β), kk = l.length - j ∧ ff = [(1, f), (8, .v (.sl .str) l), (9, I ((l.length : Nat) : Int)), (10, I ((j : Nat) : Int))] ∧ ss = γ s ∧ (j ≤ l.length) ∧ (wst e nx s0 l = wst e nx s (l.drop j))) ?_ _ _ _ ⟨0, s0, rfl, rfl, rfl, Nat.zero_le _, rfl⟩; rintro kk ff ss ⟨j, s, hk0, rfl, rfl, hj, hw⟩; refine VC.seq (VC.text ?_); refine VO.c (.lss) ?_; refine VO.go (VC.seq ?_); refine VC.condD rfl (fun c2 => ?_) (fun c2 => ?_)
  · refine VC.skip (VC.seq (VC.block (VC.seq (VC.text ?_)))); refine VO.c (.ix (j := j) rfl rfl el27 (by omega)) ?_; refine VO.r (.ld vt9) ?_; refine VO.c (.assign rfl) ?_; refine VO.go (VC.seq (VC.text ?_)); refine VO.c (.move rfl) (VO.c (.move rfl) ?_); refine VO.callG (γ s) (List.append_nil _) rfl rfl (hf s _) ?_; rintro r g ⟨rfl, rfl⟩; rw [List.append_nil]; refine VO.c (.assign rfl) ?_; refine VO.go (VC.seq (VC.text ?_)); refine VO.c (.move rfl) (VO.c (.neq) (VO.go ?_)); rw [wst_drop (by omega)] at hw; refine VC.condD rfl (fun c5 => ?_) (fun c5 => ?_)
    · rw [if_neg c5] at hw; refine VC.seq (VC.text ?_); refine VO.c (.move rfl) (VO.c (.assign rfl) (VO.go ?_)); refine VC.ret ?_; refine VEndG.one (P := Tryz.prog) (fn := Tryz.f52) (γ := γ s0) (Q := fun r g => r = I (wst e nx s0 l).1 ∧ g = γ (wst e nx s0 l).2) rfl evT ?_ (hown _) (hflat _); exact ⟨by rw [hw], by rw [hw]⟩
    rw [if_pos (by simpa using c5)] at hw; refine VC.skip (VC.text ?_); refine VO.c (.add rfl rfl (by omega)) (VO.c (.move rfl) ?_); refine VO.nil ?_; refine ⟨_, [(1, f), (8, .v (.sl .str) l), (9, I ((l.length : Nat) : Int)), (10, I (((j + 1) : Nat) : Int))], ?_, ⟨rfl, rfl, rfl, rfl, trivial⟩, (j + 1), _, rfl, rfl, rfl, (by omega), hw⟩; omega
  rw [wst_end (by omega)] at hw; refine VC.exit (VC.seq (VC.text ?_)); refine VO.c (.assign rfl) (VO.go ?_); refine VC.ret ?_; refine VEndG.one (P := Tryz.prog) (fn := Tryz.f52) (γ := γ s0) (Q := fun r g => r = I (wst e nx s0 l).1 ∧ g = γ (wst e nx s0 l).2) rfl evT ?_ (hown _) (hflat _); exact ⟨by rw [hw], by rw [hw]⟩
end Go.Proofs
namespace Go.Proofs.Sp
abbrev Sp := Int × Int
def inL (l : List Sp) (t : Int) : Bool := l.any fun s => decide (s.1 ≤ t) && decide (t < s.2)
def Canon (m : Int) (l : List Sp) : Prop := (∀ s ∈ l, 0 ≤ s.1 ∧ s.1 < s.2 ∧ s.2 ≤ m) ∧ l.Pairwise fun s u => s.2 < u.1
def edgeE (l : List Sp) (d : Int) : List (Int × Int) := l.flatMap fun s => [(s.1, d), (s.2, -d)]
def sumTo : List (Int × Int) → Int → Int
  | [], _ => 0
  | e :: r, t => (if e.1 ≤ t then e.2 else 0) + sumTo r t
theorem sumTo_app {t : Int} : ∀ {a b : List (Int × Int)}, sumTo (a ++ b) t = sumTo a t + sumTo b t
  | [], b => by simp [sumTo]
  | e :: a, b => by rw [List.cons_append, sumTo, sumTo, sumTo_app]; omega
theorem sumTo_perm {t : Int} {a b : List (Int × Int)} (h : a.Perm b) : sumTo a t = sumTo b t := by
  induction h with
  | nil => rfl
  | cons x _ ih => rw [sumTo, sumTo, ih]
  | swap x y l => simp only [sumTo]; omega
  | trans _ _ ih1 ih2 => exact ih1.trans ih2
theorem sumTo_none {t : Int} : ∀ {a : List (Int × Int)}, (∀ e ∈ a, t < e.1) → sumTo a t = 0
  | [], _ => rfl
  | e :: a, h => by
    rw [sumTo, sumTo_none fun x hx => h x (List.mem_cons_of_mem _ hx), if_neg (by have := h e List.mem_cons_self; omega)]; rfl
theorem sumTo_same {t u : Int} : ∀ {a : List (Int × Int)}, (∀ e ∈ a, (e.1 ≤ t ↔ e.1 ≤ u)) → sumTo a t = sumTo a u
  | [], _ => rfl
  | e :: a, h => by
    rw [sumTo, sumTo, sumTo_same fun x hx => h x (List.mem_cons_of_mem _ hx)]; have := h e List.mem_cons_self; by_cases h1 : e.1 ≤ t
    · rw [if_pos h1, if_pos (this.1 h1)]
    rw [if_neg h1, if_neg fun h2 => h1 (this.2 h2)]
theorem edge_mem {l : List Sp} {d : Int} {e : Int × Int} (h : e ∈ edgeE l d) : ∃ s ∈ l, e.1 = s.1 ∨ e.1 = s.2 := by
  obtain ⟨s, hs, he⟩ := List.mem_flatMap.1 h; refine ⟨s, hs, ?_⟩; simp only [List.mem_cons, List.not_mem_nil, or_false] at he; rcases he with rfl | rfl
  · exact .inl rfl
  exact .inr rfl
theorem sumTo_edge {m d t : Int} : ∀ {l : List Sp}, Canon m l → sumTo (edgeE l d) t = if inL l t = true then d else 0
  | [], _ => rfl
  | s :: l, h => by
    have h1 := h.1 s List.mem_cons_self; have h2 := List.pairwise_cons.1 h.2; have hc : Canon m l := ⟨fun x hx => h.1 x (List.mem_cons_of_mem _ hx), h2.2⟩; have ih := sumTo_edge (d := d) (t := t) hc; have e : edgeE (s :: l) d = (s.1, d) :: (s.2, -d) :: edgeE l d := rfl; rw [e, sumTo, sumTo]; have e2 : inL (s :: l) t = ((decide (s.1 ≤ t) && decide (t < s.2)) || inL l t) := rfl; rw [e2]; by_cases c1 : s.1 ≤ t
    · by_cases c2 : s.2 ≤ t
      · rw [if_pos (show (s.1, d).1 ≤ t from c1), if_pos (show (s.2, -d).1 ≤ t from c2), ih, decide_eq_false (show ¬ t < s.2 by omega)]; simp only [Bool.and_false, Bool.false_or]; omega
      have h0 : sumTo (edgeE l d) t = 0 := sumTo_none fun e he => by
        obtain ⟨u, hu, hue⟩ := edge_mem he; have h3 := h2.1 u hu; have h4 := hc.1 u hu; omega
      rw [if_pos (show (s.1, d).1 ≤ t from c1), if_neg (show ¬ (s.2, -d).1 ≤ t from c2), h0, decide_eq_true c1, decide_eq_true (show t < s.2 by omega)]; simp
    have h0 : sumTo (edgeE l d) t = 0 := sumTo_none fun e he => by
      obtain ⟨u, hu, hue⟩ := edge_mem he; have h3 := h2.1 u hu; have h4 := hc.1 u hu; omega
    have c2 : ¬ s.2 ≤ t := by omega
    rw [h0] at ih; rw [if_neg (show ¬ (s.1, d).1 ≤ t from c1), if_neg (show ¬ (s.2, -d).1 ≤ t from c2), h0, decide_eq_false c1]; simp only [Bool.false_and, Bool.false_or]; rw [← ih]; rfl
def scan1 (p : Int → Bool) (t : Int) (S : Int × List Sp) : Int × List Sp :=
  if p t = true ∧ S.1 < 0 then (t, S.2) else if p t = false ∧ 0 ≤ S.1 then (-1, S.2 ++ [(S.1, t)]) else S
def scanE (p : Int → Bool) : Nat → Int × List Sp
  | 0 => (-1, [])
  | t + 1 => scan1 p t (scanE p t)
theorem scan_open {p : Int → Bool} : ∀ {t : Nat}, (0 ≤ (scanE p (t + 1)).1 ↔ p t = true) ∧ (scanE p (t + 1)).1 ≤ t
  | 0 => by
    show (0 ≤ (scan1 p (0 : Nat) (-1, [])).1 ↔ _) ∧ (scan1 p (0 : Nat) (-1, [])).1 ≤ _; unfold scan1; by_cases h : p ((0 : Nat) : Int) = true
    · rw [if_pos ⟨h, by decide⟩]; exact ⟨⟨fun _ => h, fun _ => Int.le_refl _⟩, Int.le_refl _⟩
    rw [if_neg fun h2 => h h2.1, if_neg (by simp)]; exact ⟨⟨fun h2 => absurd (show (0 : Int) ≤ -1 from h2) (by decide), fun h2 => absurd h2 h⟩, by show (-1 : Int) ≤ 0; decide⟩
  | t + 1 => by
    have ih := scan_open (p := p) (t := t); rw [scanE]; unfold scan1; by_cases h : p ((t + 1 : Nat) : Int) = true
    · by_cases h1 : (scanE p (t + 1)).1 < 0
      · rw [if_pos ⟨h, h1⟩]; refine ⟨⟨fun _ => h, fun _ => ?_⟩, Int.le_refl _⟩; show (0 : Int) ≤ ((t + 1 : Nat) : Int); omega
      rw [if_neg fun h2 => h1 h2.2, if_neg fun h2 => by rw [h] at h2; exact absurd h2.1 (by decide)]; refine ⟨⟨fun _ => h, fun _ => by omega⟩, by omega⟩
    have hf : p ((t + 1 : Nat) : Int) = false := by simpa using h
    by_cases h1 : (scanE p (t + 1)).1 < 0
    · rw [if_neg fun h2 => h h2.1, if_neg fun h2 => absurd h2.2 (by omega)]; refine ⟨⟨fun h2 => by omega, fun h2 => absurd h2 h⟩, by omega⟩
    rw [if_neg fun h2 => h h2.1, if_pos ⟨hf, by omega⟩]; refine ⟨⟨fun h2 => absurd (show (0 : Int) ≤ -1 from h2) (by decide), fun h2 => absurd h2 h⟩, ?_⟩; show (-1 : Int) ≤ _; omega
theorem scan_same {p : Int → Bool} {u : Nat} : ∀ {v : Nat}, u ≤ v → (∀ j : Nat, u ≤ j → j ≤ v → p j = p u) → scanE p (v + 1) = scanE p (u + 1)
  | 0, h, _ => by
    obtain rfl : u = 0 := by omega
    rfl
  | v + 1, h, hp => by
    by_cases e : u = v + 1
    · subst e; rfl
    have ih := scan_same (p := p) (u := u) (v := v) (by omega) fun j h1 h2 => hp j h1 (by omega); have hv := hp (v + 1) (by omega) (Nat.le_refl _); have ho := (scan_open (p := p) (t := u)).1; rw [scanE, ih]; unfold scan1; rw [hv]; by_cases h1 : p (u : Int) = true
    · rw [if_neg fun h2 => by have := ho.2 h1; omega, if_neg fun h2 => by rw [h1] at h2; exact absurd h2.1 (by decide)]
    rw [if_neg fun h2 => h1 h2.1, if_neg fun h2 => h1 (ho.1 h2.2)]
theorem scan_none {p : Int → Bool} : ∀ {v : Nat}, (∀ j : Nat, j < v → p j = false) → scanE p v = (-1, [])
  | 0, _ => rfl
  | v + 1, hp => by
    rw [scanE, scan_none fun j hj => hp j (by omega)]; unfold scan1; rw [hp v (by omega)]; simp
def totE : List (Int × Int) → Int
  | [] => 0
  | e :: r => e.2 + totE r
theorem totE_app : ∀ {a b : List (Int × Int)}, totE (a ++ b) = totE a + totE b
  | [], b => by simp [totE]
  | e :: a, b => by rw [List.cons_append, totE, totE, totE_app]; omega
theorem sumTo_all {t : Int} : ∀ {a : List (Int × Int)}, (∀ e ∈ a, e.1 ≤ t) → sumTo a t = totE a
  | [], _ => rfl
  | e :: a, h => by rw [sumTo, totE, sumTo_all fun x hx => h x (List.mem_cons_of_mem _ hx), if_pos (h e List.mem_cons_self)]
def pE (ch : Int → Bool) (L : List (Int × Int)) (t : Int) : Bool := ch (sumTo L t)
structure CombI (ch : Int → Bool) (L l : List (Int × Int)) (st fr : Int) (out : List Sp) (v : Nat) : Prop where
  done : ∃ d, L = d ++ l ∧ ∀ e ∈ d, e.1 < v
  rest : ∀ e ∈ l, (v : Int) ≤ e.1
  state : st = sumTo L ((v : Int) - 1)
  outs : out = (scanE (pE ch L) v).2
  open_ : 0 ≤ (scanE (pE ch L) v).1 ↔ ch st = true
  from_ : ch st = true → fr = (scanE (pE ch L) v).1
theorem CombI.init {ch : Int → Bool} {L : List (Int × Int)} {fr : Int} (h0 : ch 0 = false) (hL : ∀ e ∈ L, 0 ≤ e.1) : CombI ch L L 0 fr [] 0 where
  done := ⟨[], rfl, fun e he => by cases he⟩
  rest := fun e he => hL e he
  state := (sumTo_none fun e he => by have := hL e he; show ((0 : Nat) : Int) - 1 < e.1; omega).symm
  outs := rfl
  open_ := by
    rw [h0]; exact ⟨fun h => absurd (show (0 : Int) ≤ -1 from h) (by decide), fun h => by cases h⟩
  from_ := fun h => by rw [h0] at h; cases h
theorem CombI.same {ch : Int → Bool} {L l : List (Int × Int)} {st fr : Int} {out : List Sp} {v : Nat} (I : CombI ch L l st fr out v) {j : Int} (h1 : (v : Int) - 1 ≤ j) (h2 : ∀ e ∈ l, j < e.1) : sumTo L j = st := by
  obtain ⟨d, hd, hlt⟩ := I.done; rw [I.state, hd, sumTo_app, sumTo_app, sumTo_none h2, sumTo_none (a := l) fun e he => by have := I.rest e he; omega]; rw [sumTo_same (t := j) (u := (v : Int) - 1) (a := d) fun e he => by have := hlt e he; omega]
theorem CombI.upto {ch : Int → Bool} {L l : List (Int × Int)} {st fr : Int} {out : List Sp} {v : Nat} (I : CombI ch L l st fr out v) {n : Nat} (hn : v ≤ n) (h2 : ∀ e ∈ l, (n : Int) ≤ e.1) (h0 : ch 0 = false) (hL : ∀ e ∈ L, 0 ≤ e.1) : scanE (pE ch L) n = scanE (pE ch L) v := by
  have hs : ∀ j : Nat, v ≤ j + 1 → j < n → pE ch L j = ch st := fun j h3 h4 => by
    unfold pE; rw [I.same (by omega) fun e he => by have := h2 e he; omega]
  cases v with
  | zero =>
    have hst : st = 0 := I.state.trans (sumTo_none fun e he => by have := hL e he; show ((0 : Nat) : Int) - 1 < e.1; omega)
    rw [scan_none fun j hj => by rw [hs j (by omega) hj, hst, h0]]; rfl
  | succ u =>
    cases n with
    | zero => omega
    | succ m => exact scan_same (by omega) fun j h3 h4 => by rw [hs j (by omega) (by omega), hs u (by omega) (by omega)]
theorem CombI.step {ch : Int → Bool} {L g l : List (Int × Int)} {st fr : Int} {out : List Sp} {v a : Nat} (I : CombI ch L (g ++ l) st fr out v) (h0 : ch 0 = false) (hL : ∀ e ∈ L, 0 ≤ e.1) (hg : ∀ e ∈ g, e.1 = (a : Int)) (hne : g ≠ []) (hl : ∀ e ∈ l, (a : Int) < e.1) :
    CombI ch L l (st + totE g) (if ch st = false ∧ ch (st + totE g) = true then (a : Int) else fr) (if ch st = true ∧ ch (st + totE g) = false then out ++ [(fr, (a : Int))] else out) (a + 1) := by
  obtain ⟨x, hx⟩ := List.exists_mem_of_ne_nil _ hne
  have hva : v ≤ a := by
    have h1 := I.rest x (List.mem_append_left _ hx); have h2 := hg x hx; omega
  have hup := I.upto hva (fun e he => by
    rcases List.mem_append.1 he with he | he
    · have := hg e he; omega
    have := hl e he; omega) h0 hL
  obtain ⟨d, hd, hlt⟩ := I.done
  have hsum : sumTo L (a : Int) = st + totE g := by
    rw [I.state, hd, sumTo_app, sumTo_app, sumTo_app, sumTo_app, sumTo_none (a := l) hl, sumTo_all (a := g) fun e he => by have := hg e he; omega]; rw [sumTo_none (a := g) fun e he => by have := hg e he; omega, sumTo_none (a := l) fun e he => by have := hl e he; omega, sumTo_same (t := (a : Int)) (u := (v : Int) - 1) (a := d) fun e he => by have := hlt e he; omega]; omega
  have hp : pE ch L (a : Nat) = ch (st + totE g) := by unfold pE; rw [hsum]
  have hsc : scanE (pE ch L) (a + 1) = scan1 (pE ch L) a (scanE (pE ch L) v) := by rw [scanE, hup]
  have hop := I.open_
  have hres : scanE (pE ch L) (a + 1) = (if ch (st + totE g) = true then (if ch st = true then fr else (a : Int)) else -1, if ch st = true ∧ ch (st + totE g) = false then out ++ [(fr, (a : Int))] else out) ∨ (ch st = false ∧ ch (st + totE g) = false ∧ scanE (pE ch L) (a + 1) = scanE (pE ch L) v) := by
    rw [hsc]; unfold scan1; rw [hp]; cases hb : ch st <;> cases hc : ch (st + totE g)
    · right
      have h1 : ¬ 0 ≤ (scanE (pE ch L) v).1 := fun h => by have := hop.1 h; rw [hb] at this; cases this
      refine ⟨rfl, rfl, ?_⟩; rw [if_neg (fun h => absurd h.1 (by decide)), if_neg (fun h => h1 h.2)]
    · left
      have h1 : ¬ 0 ≤ (scanE (pE ch L) v).1 := fun h => by have := hop.1 h; rw [hb] at this; cases this
      rw [if_pos ⟨rfl, by omega⟩]; simp [I.outs]
    · left; have h1 := hop.2 hb; rw [if_neg (fun h => absurd h.1 (by decide)), if_pos ⟨rfl, h1⟩]; simp [I.outs, I.from_ hb]
    left; have h1 := hop.2 hb; rw [if_neg (fun h => absurd h.2 (by omega)), if_neg (fun h => absurd h.1 (by decide))]; simp [I.outs, I.from_ hb]
  refine ⟨⟨d ++ g, by rw [hd, List.append_assoc], fun e he => ?_⟩, fun e he => ?_, ?_, ?_, ?_, ?_⟩
  · rcases List.mem_append.1 he with he | he
    · have := hlt e he; omega
    have := hg e he; omega
  · have := hl e he; omega
  · rw [show ((a + 1 : Nat) : Int) - 1 = (a : Int) by omega, hsum]
  · rcases hres with hr | ⟨h1, h2, hr⟩
    · rw [hr]
    rw [hr, if_neg (fun h => by rw [h1] at h; exact absurd h.1 (by decide))]; exact I.outs
  · have := (scan_open (p := pE ch L) (t := a)).1; rw [this, hp]
  intro hc; rcases hres with hr | ⟨h1, h2, hr⟩
  · rw [hr]; cases hb : ch st <;> simp [hc]
  rw [hc] at h2; cases h2
theorem CombI.last {ch : Int → Bool} {L : List (Int × Int)} {st fr : Int} {out : List Sp} {v n : Nat} (I : CombI ch L [] st fr out v) (h0 : ch 0 = false) (hL : ∀ e ∈ L, 0 ≤ e.1) (hn : v ≤ n) : out = (scanE (pE ch L) n).2 := by
  rw [I.upto hn (fun e he => by cases he) h0 hL]; exact I.outs
theorem inL_app {a b : List Sp} {t : Int} : inL (a ++ b) t = (inL a t || inL b t) := List.any_append
theorem inL_one {x y t : Int} : inL [(x, y)] t = true ↔ x ≤ t ∧ t < y := by simp [inL]
theorem scan_in {p : Int → Bool} {t : Int} (ht : 0 ≤ t) : ∀ {n : Nat}, (inL (scanE p n).2 t = true ∨ (0 ≤ (scanE p n).1 ∧ (scanE p n).1 ≤ t ∧ t < n)) ↔ (t < n ∧ p t = true)
  | 0 => by
    constructor
    · rintro (h | ⟨h, _⟩)
      · cases h
      exact absurd (show (0 : Int) ≤ -1 from h) (by decide)
    rintro ⟨h, _⟩; omega
  | n + 1 => by
    have ih := scan_in (p := p) ht (n := n)
    have en : ((n + 1 : Nat) : Int) = (n : Int) + 1 := by omega
    rw [scanE]; unfold scan1; by_cases c1 : p (n : Int) = true ∧ (scanE p n).1 < 0
    · rw [if_pos c1]; show (inL (scanE p n).2 t = true ∨ (0 ≤ (n : Int) ∧ (n : Int) ≤ t ∧ t < ((n + 1 : Nat) : Int))) ↔ _; constructor
      · rintro (h | h)
        · have := ih.1 (.inl h); exact ⟨by omega, this.2⟩
        have : t = n := by omega
        subst this; exact ⟨by omega, c1.1⟩
      rintro ⟨h1, h2⟩; by_cases e : t = n
      · exact .inr (by omega)
      rcases ih.2 ⟨by omega, h2⟩ with h | h
      · exact .inl h
      omega
    rw [if_neg c1]; by_cases c2 : p (n : Int) = false ∧ 0 ≤ (scanE p n).1
    · rw [if_pos c2]; show (inL ((scanE p n).2 ++ [((scanE p n).1, (n : Int))]) t = true ∨ ((0 : Int) ≤ -1 ∧ _)) ↔ _; rw [inL_app, Bool.or_eq_true, inL_one]; constructor
      · rintro ((h | h) | h)
        · have := ih.1 (.inl h); exact ⟨by omega, this.2⟩
        · have := ih.1 (.inr ⟨c2.2, h⟩); exact ⟨by omega, this.2⟩
        omega
      rintro ⟨h1, h2⟩; by_cases e : t = n
      · subst e; rw [c2.1] at h2; cases h2
      rcases ih.2 ⟨by omega, h2⟩ with h | h
      · exact .inl (.inl h)
      exact .inl (.inr h.2)
    rw [if_neg c2]; constructor
    · rintro (h | h)
      · have := ih.1 (.inl h); exact ⟨by omega, this.2⟩
      by_cases e : t = n
      · subst e; refine ⟨by omega, ?_⟩; cases hp : p (n : Int)
        · exact absurd ⟨hp, h.1⟩ c2
        rfl
      have := ih.1 (.inr ⟨h.1, h.2.1, by omega⟩); exact ⟨by omega, this.2⟩
    rintro ⟨h1, h2⟩; by_cases e : t = n
    · subst e; have h3 : ¬ (scanE p n).1 < 0 := fun h => c1 ⟨h2, h⟩
      have h4 : (scanE p n).1 ≤ n := by
        cases n with
        | zero => show (-1 : Int) ≤ 0; decide
        | succ m => have := (scan_open (p := p) (t := m)).2; omega
      exact .inr (by omega)
    rcases ih.2 ⟨by omega, h2⟩ with h | h
    · exact .inl h
    exact .inr ⟨h.1, h.2.1, by omega⟩
theorem scan_has {p : Int → Bool} {n : Nat} (hl : p (n : Int) = false) {t : Int} (ht : 0 ≤ t) : inL (scanE p (n + 1)).2 t = true ↔ (t ≤ n ∧ p t = true) := by
  have h := scan_in (p := p) ht (n := n + 1); have ho := (scan_open (p := p) (t := n)).1; constructor
  · intro h1; have := h.1 (.inl h1); exact ⟨by omega, this.2⟩
  rintro ⟨h1, h2⟩; rcases h.2 ⟨by omega, h2⟩ with h3 | h3
  · exact h3
  have := ho.1 h3.1; rw [hl] at this; cases this
theorem scan_canon {p : Int → Bool} : ∀ {n : Nat}, Canon ((n : Int) - 1) (scanE p n).2 ∧ (0 ≤ (scanE p n).1 → ∀ s ∈ (scanE p n).2, s.2 < (scanE p n).1)
  | 0 => ⟨⟨fun s hs => (by cases hs), List.Pairwise.nil⟩, fun _ s hs => (by cases hs)⟩
  | n + 1 => by
    obtain ⟨⟨h1, h2⟩, h3⟩ := scan_canon (p := p) (n := n)
    have en : ((n + 1 : Nat) : Int) - 1 = n := by omega
    rw [scanE, en]; unfold scan1; by_cases c1 : p (n : Int) = true ∧ (scanE p n).1 < 0
    · rw [if_pos c1]; refine ⟨⟨fun s hs => ?_, h2⟩, fun _ s hs => ?_⟩
      · have := h1 s hs; omega
      have := h1 s hs; show s.2 < (n : Int); omega
    rw [if_neg c1]; by_cases c2 : p (n : Int) = false ∧ 0 ≤ (scanE p n).1
    · rw [if_pos c2]
      have h4 : (scanE p n).1 < n := by
        cases n with
        | zero => exact absurd (show (0 : Int) ≤ -1 from c2.2) (by decide)
        | succ m => have := (scan_open (p := p) (t := m)).2; omega
      refine ⟨⟨fun s hs => ?_, ?_⟩, fun h => absurd (show (0 : Int) ≤ -1 from h) (by decide)⟩
      · rcases List.mem_append.1 hs with hs | hs
        · have := h1 s hs; omega
        obtain rfl := List.mem_singleton.1 hs; exact ⟨c2.2, h4, Int.le_refl _⟩
      refine List.pairwise_append.2 ⟨h2, List.pairwise_singleton _ _, fun s hs u hu => ?_⟩; obtain rfl := List.mem_singleton.1 hu; exact h3 c2.2 s hs
    rw [if_neg c2]; refine ⟨⟨fun s hs => ?_, h2⟩, h3⟩; have := h1 s hs; omega
def markE (a b : List Sp) (t : Int) : Int := (if inL a t = true then 1 else 0) + (if inL b t = true then 2 else 0)
theorem edges_mark {m : Int} {a b : List Sp} {L : List (Int × Int)} (ha : Canon m a) (hb : Canon m b) (hL : L.Perm (edgeE a 1 ++ edgeE b 2)) (t : Int) : sumTo L t = markE a b t := by
  rw [sumTo_perm hL, sumTo_app, sumTo_edge ha, sumTo_edge hb]; rfl
end Go.Proofs.Sp
namespace Go.Proofs.Sp
theorem canon_of {m : Int} {l : List Sp} (h1 : ∀ s ∈ l, 0 ≤ s.1 ∧ s.1 < s.2 ∧ s.2 ≤ m) (h2 : ∀ j (hj : j < l.length), 0 < j → (l[j - 1]'(by omega)).2 < l[j].1) : Canon m l := by
  refine ⟨h1, List.pairwise_iff_getElem.2 fun i j hi hj hij => ?_⟩
  induction j with
  | zero => omega
  | succ j ih =>
    have h3 := h2 (j + 1) hj (by omega); simp only [Nat.add_sub_cancel] at h3; by_cases e : i = j
    · subst e; exact h3
    have h4 := ih (by omega) (by omega); have h5 := h1 _ (List.getElem_mem (show j < l.length by omega)); omega
end Go.Proofs.Sp
namespace Go.Proofs
open Go.Fs
set_option maxHeartbeats 2000000
abbrev y37 : Ty := (.sl (.pair (.int .i64) (.int .i64)))
abbrev y110 : Ty := (.sl (.pair (.int .i64) (.int .i64)))
abbrev y113 : Ty := (.pair (.int .i64) (.int .i64))
theorem el37 : ElT Tryz.prog 37 29 y29 := elT_of (by kernel_rfl)
theorem el110 : ElT Tryz.prog 110 113 y113 := elT_of (by kernel_rfl)
theorem zt29 : ZerT Tryz.prog 29 y29 := zerT_of (z := .agg #[.int .i64 0, .int .i64 0]) (by kernel_rfl) rfl rfl
theorem zt113 : ZerT Tryz.prog 113 y113 := zerT_of (z := .agg #[.int .i64 0, .int .i64 0]) (by kernel_rfl) rfl rfl
theorem bt113 : BldT Tryz.prog 113 y113 [(0, 1), (1, 1)] := bldT_of zt113 rfl (by kernel_rfl)
def firstR (f : Nat → Int) (i n : Nat) : Int := firstE ((List.range' i (n - i)).map f)
theorem firstR_step {f : Nat → Int} {i n : Nat} (h : i < n) : firstR f i n = if f i = 0 then firstR f (i + 1) n else f i := by
  unfold firstR; rw [show n - i = (n - (i + 1)) + 1 by omega, List.range'_succ] <;> rfl
theorem firstR_end {f : Nat → Int} {i n : Nat} (h : n ≤ i) : firstR f i n = 0 := by
  unfold firstR; rw [show n - i = 0 by omega] <;> rfl
theorem getD_at {α : Type} {l : List α} {i : Nat} {d : α} (h : i < l.length) : l.getD i d = l[i] := by rw [List.getD_eq_getElem?_getD, List.getElem?_eq_getElem h] <;> rfl
def spX (l : List (Int × Int)) (j : Nat) : Int × Int := l.getD j (0, 0)
theorem spX_eq {l : List (Int × Int)} {j : Nat} (h : j < l.length) : spX l j = l[j] := getD_at h
def spanAt (l : List (Int × Int)) (j : Nat) : Int := firstE [spanE (spX l j), whenE (decide (0 < (j : Int)) && decide ((spX l j).1 ≤ (spX l (j - 1)).2)) 11]
def spansE (l : List (Int × Int)) : Int := if 2048 < (l.length : Int) then 5 else firstR (spanAt l) 0 l.length
theorem spX_max {l : List (Int × Int)} {j : Nat} (h0 : 0 < (j : Int)) (h : (max 0 ((j : Int) - 1)).toNat < l.length) : spX l (j - 1) = l[(max 0 ((j : Int) - 1)).toNat] := by
  have e : (max 0 ((j : Int) - 1)).toNat = j - 1 := by omega
  rw [spX_eq (by omega)]; simp only [e]
theorem spanAt_t {l : List (Int × Int)} {j : Nat} (h : j < l.length) (h0 : 0 < (j : Int)) (hm : (max 0 ((j : Int) - 1)).toNat < l.length) : spanAt l j = firstE [spanE l[j], whenE (decide (l[j].1 ≤ l[(max 0 ((j : Int) - 1)).toNat].2)) 11] := by
  unfold spanAt; rw [spX_eq h, spX_max h0 hm, decide_eq_true h0, Bool.true_and]
theorem spanAt_f {l : List (Int × Int)} {j : Nat} (h : j < l.length) (h0 : ¬ 0 < (j : Int)) : spanAt l j = firstE [spanE l[j], whenE false 11] := by
  unfold spanAt; rw [spX_eq h, decide_eq_false h0, Bool.false_and]
theorem gSpans_ok {l : List (Int × Int)} (hl : l.length < 1000000) : VF Tryz.prog OA 44 [.v y37 l] (I (spansE l)) := by
  refine VF.enter Tryz.func44 rfl (fun _ _ => rfl) rfl ?_; show VC _ _ _ _ _ [(0, .v y37 l)] [] _; refine VC.seq (VC.text ?_); refine VO.c (.assign rfl) ?_; refine VO.go (VC.seq (VC.seq (VC.text ?_))); refine VO.c (.move rfl) ?_; refine VO.r (.len el37) ?_; refine VO.c (.gtr) (VO.go ?_); refine VC.condD rfl (fun c1 => ?_) (fun c1 => ?_)
  · refine VC.seq (VC.text ?_); refine VO.c (.assign rfl) (VO.go ?_); refine VC.ret ?_; exact VEnd.one rfl evT (pvI (by rw [spansE, if_pos c1]))
  refine VC.skip (VC.seq (VC.seq (VC.text ?_))); refine VO.c (.move rfl) ?_; refine VO.r (.len el37) ?_; refine VO.c (.move rfl) ?_; refine VO.go (VC.block ?_); refine VC.keep [(0, .v y37 l), (9, .v y37 l), (10, I ((l.length : Nat) : Int)), (11, I ((0 : Nat) : Int))] ⟨rfl, rfl, rfl, rfl, trivial⟩ ?_; refine VC.loop (I := fun kk ff ss => ∃ (j : Nat), kk = l.length - j ∧ ff = [(0, .v y37 l), (9, .v y37 l), (10, I ((l.length : Nat) : Int)), (11, I ((j : Nat) : Int))] ∧ ss = [] ∧ (j ≤ l.length) ∧ (spansE l = firstR (spanAt l) j l.length)) ?_ _ _ _ ⟨0, rfl, rfl, rfl, Nat.zero_le _, (by exact if_neg c1)⟩; rintro kk ff ss ⟨j, hk0, rfl, rfl, hj, hw⟩; refine VC.seq (VC.text ?_); refine VO.c (.lss) ?_; refine VO.go (VC.seq ?_); refine VC.condD rfl (fun c4 => ?_) (fun c4 => ?_)
  · refine VC.skip (VC.seq (VC.block (VC.seq (VC.text ?_)))); refine VO.c (.move rfl) (VO.c (.ix (j := j) rfl rfl el37 (by omega)) ?_); refine VO.r (.ld vt29) ?_; refine VO.cell (.alloc zt29) ?_; intro ww1; refine VO.c (.assign rfl) ?_; refine VO.setV (cs' := [I ((l[j]).1), I ((l[j]).2)]) vt29 .v ?_; refine VO.shut [(4, .p y29 (l[j]))] (.cons rfl (.var m0 .refl) .nil) ?_; refine VO.go (VC.seq (VC.drawn ?_)); refine VD.r [] (.ld vt29) (.inl rfl) ?_; refine VD.call rfl rfl (VF.call (gSpan_ok )) ?_; refine VD.c (.move rfl) (VD.c (.gtr) (VD.c (.move rfl) ?_)); refine VD.splitD (x := 20) rfl (fun g6_4 => ?_) (fun g6_4 => ?_)
    · have hv := spanAt_t (l := l) (j := j) (by omega) g6_4 (by omega); refine VD.nw [] (VD.c (.fa (.l .o)) ?_); refine VD.r [] (.ld vt3) (.inl rfl) ?_; refine VD.c (.move rfl) (VD.c (.move rfl) (VD.c (.sub rfl rfl (by omega)) (VD.c (.imax) ?_))); refine VD.c (.ixZ (k := (max (0 : Int) (((j : Nat) : Int) - (1 : Int)))) rfl rfl el37 (by omega) (by omega)) (VD.nw [] (VD.c (.fa (.r .o)) ?_)); refine VD.r [] (.ld vt3) (.inl rfl) ?_; refine VD.c (.leq) (VD.c (.pickT rfl rfl) ?_); refine VD.call rfl rfl (VF.call (gWhen_ok )) ?_; refine VD.new (.lit [spanE (l[j]), whenE (decide ((l[j]).1 ≤ (l[Int.toNat (max (0 : Int) (((j : Nat) : Int) - (1 : Int)))]).2)) (11 : Int)] el118) ?_; refine VD.callO rfl rfl (VF.call (gFirst_ok (by first | assumption | omega | simp))) ?_; refine VD.nw [33] (VD.c (.assign rfl) ?_); refine VD.go (VC.seq (VC.text ?_)); refine VO.c (.move rfl) (VO.c (.neq) (VO.go ?_)); refine VC.condD rfl (fun c7 => ?_) (fun c7 => ?_)
      · refine VC.seq (VC.text ?_); refine VO.c (.move rfl) (VO.c (.assign rfl) (VO.go ?_)); refine VC.ret ?_; exact VEnd.one rfl evT (pvI (by rw [hw, firstR_step (by omega), hv, if_neg c7]))
      refine VC.skip (VC.text ?_); refine VO.c (.add rfl rfl (by omega)) (VO.c (.move rfl) ?_); refine VO.nil ?_; refine ⟨_, [(0, .v y37 l), (9, .v y37 l), (10, I ((l.length : Nat) : Int)), (11, I (((j + 1) : Nat) : Int))], ?_, ⟨rfl, rfl, rfl, rfl, trivial⟩, (j + 1), rfl, rfl, rfl, (by omega), (by rw [hw, firstR_step (by omega), hv, if_pos (Classical.not_not.1 c7)])⟩; omega
    have hv := spanAt_f (l := l) (j := j) (by omega) g6_4; refine VD.nw [] (VD.skip (VD.skip (VD.skip ?_))); refine VD.skip (VD.skip (VD.skip (VD.skip ?_))); refine VD.nw [] (VD.skip (VD.skip (VD.skip ?_))); refine VD.c (.pickF rfl rfl) ?_; refine VD.call rfl rfl (VF.call (gWhen_ok )) ?_; refine VD.new (.lit [spanE (l[j]), whenE false (11 : Int)] el118) ?_; refine VD.callO rfl rfl (VF.call (gFirst_ok (by first | assumption | omega | simp))) ?_; refine VD.nw [33] (VD.c (.assign rfl) ?_); refine VD.go (VC.seq (VC.text ?_)); refine VO.c (.move rfl) (VO.c (.neq) (VO.go ?_)); refine VC.condD rfl (fun c7 => ?_) (fun c7 => ?_)
    · refine VC.seq (VC.text ?_); refine VO.c (.move rfl) (VO.c (.assign rfl) (VO.go ?_)); refine VC.ret ?_; exact VEnd.one rfl evT (pvI (by rw [hw, firstR_step (by omega), hv, if_neg c7]))
    refine VC.skip (VC.text ?_); refine VO.c (.add rfl rfl (by omega)) (VO.c (.move rfl) ?_); refine VO.nil ?_; refine ⟨_, [(0, .v y37 l), (9, .v y37 l), (10, I ((l.length : Nat) : Int)), (11, I (((j + 1) : Nat) : Int))], ?_, ⟨rfl, rfl, rfl, rfl, trivial⟩, (j + 1), rfl, rfl, rfl, (by omega), (by rw [hw, firstR_step (by omega), hv, if_pos (Classical.not_not.1 c7)])⟩; omega
  refine VC.exit (VC.seq (VC.text ?_)); refine VO.c (.assign rfl) (VO.go ?_); refine VC.ret ?_; exact VEnd.one rfl evT (pvI (by rw [hw, firstR_end (by omega)]))
theorem edge_take {l : List (Int × Int)} {d : Int} {i : Nat} (h : i < l.length) : Sp.edgeE (l.take (i + 1)) d = Sp.edgeE (l.take i) d ++ [(l[i].1, d), (l[i].2, -d)] := by
  unfold Sp.edgeE; rw [List.take_succ_eq_append_getElem h, List.flatMap_append] <;> rfl
theorem edge_len {d : Int} : ∀ {l : List (Int × Int)}, (Sp.edgeE l d).length = 2 * l.length
  | [] => rfl
  | s :: l => by
    have e : Sp.edgeE (s :: l) d = (s.1, d) :: (s.2, -d) :: Sp.edgeE l d := rfl; rw [e, List.length_cons, List.length_cons, edge_len, List.length_cons]; omega
theorem gEdges_ok {l : List (Int × Int)} {d : Int} (hl : l.length < 100000) (hd : d = 1 ∨ d = 2) : VF Tryz.prog OA 46 [.v y37 l, I d] (.v y110 (Sp.edgeE l d)) := by
  refine VF.enter Tryz.func46 rfl (fun _ _ => rfl) rfl ?_; show VC _ _ _ _ _ [(0, .v y37 l), (1, I d)] [] _; refine VC.seq (VC.text ?_); refine VO.c (.assign rfl) ?_; refine VO.go (VC.seq (VC.text ?_)); refine VO.c (.assign rfl) ?_; refine VO.go (VC.seq (VC.seq (VC.text ?_))); refine VO.c (.move rfl) ?_; refine VO.r (.len el37) ?_; refine VO.c (.move rfl) ?_; refine VO.go (VC.block ?_); refine VC.cell0 113 y113 ?_; refine VC.keep [(1, I d), (5, .raw (.slice none 0 0)), (8, .v y37 l), (9, I ((l.length : Nat) : Int)), (10, I ((0 : Nat) : Int))] ⟨rfl, rfl, rfl, rfl, rfl, trivial⟩ ?_; refine VC.loop (I := fun kk ff ss => ∃ (i : Nat) (out : Value), kk = l.length - i ∧ ff = [(1, I d), (5, .raw out), (8, .v y37 l), (9, I ((l.length : Nat) : Int)), (10, I ((i : Nat) : Int))] ∧ ss = [(out, .row 113 y113 (Sp.edgeE (l.take i) d))] ∧ (i ≤ l.length)) ?_ _ _ _ ⟨0, (.slice none 0 0), rfl, rfl, rfl, Nat.zero_le _⟩; rintro kk ff ss ⟨i, out, hk0, rfl, rfl, hi⟩; refine VC.seq (VC.text ?_); refine VO.c (.lss) ?_; refine VO.go (VC.seq ?_); refine VC.condD rfl (fun c3 => ?_) (fun c3 => ?_)
  · refine VC.skip (VC.seq (VC.block (VC.seq (VC.text ?_)))); refine VO.c (.ix (j := i) rfl rfl el37 (by omega)) ?_; refine VO.r (.ld vt29) ?_; refine VO.cell (.alloc zt29) ?_; intro ww2; refine VO.setV (cs' := [I ((l[i]).1), I ((l[i]).2)]) vt29 .v ?_; refine VO.shut [(7, .p y29 (l[i]))] (.cons rfl (.var m0 .refl) .nil) ?_; refine VO.go (VC.text ?_); refine VO.c (.move rfl) (VO.c (.fa (.l .o)) ?_); refine VO.r (.ld vt3) ?_; refine VO.c (.move rfl) (VO.c (.build ((l[i]).1, d) bt113) (VO.c (.fa (.r .o)) ?_)); refine VO.r (.ld vt3) ?_; refine VO.c (.move rfl) (VO.c (.neg rfl (by omega)) (VO.c (.build ((l[i]).2, (-d)) bt113) ?_)); refine VO.new (.lit [((l[i]).1, d), ((l[i]).2, (-d))] el110) ?_; refine VO.app rfl rfl el110 el110 (by have := edge_len (l := l.take i) (d := d); have := List.length_take_le i l; simp only [List.length_take, List.length_cons, List.length_nil] at *; omega) ?_; intro ww3; refine VO.c (.assign rfl) ?_; refine VO.nil (VC.text ?_); refine VO.c (.add rfl rfl (by omega)) (VO.c (.move rfl) ?_); refine VO.nil ?_; refine ⟨_, [(1, I d), (5, .raw ww3), (8, .v y37 l), (9, I ((l.length : Nat) : Int)), (10, I (((i + 1) : Nat) : Int))], ?_, ⟨rfl, rfl, rfl, rfl, rfl, trivial⟩, (i + 1), ww3, rfl, rfl, (by rw [edge_take (show i < l.length by omega)]), (by omega)⟩; omega
  refine VC.exit (VC.seq (VC.text ?_)); refine VO.c (.move rfl) (VO.c (.assign rfl) (VO.go ?_)); refine VC.ret ?_; exact VEnd.one rfl (evC (.row m0)) (pvE (by rw [List.take_of_length_le (by omega)]))
end Go.Proofs
namespace Go.Fs
variable {P : Program} {fl : VL} {σ : Sto} {T : TypeId} {x y : Operand} {τ : Ty}
def sel4 {α : Type} (d : α × α × α × α) (z : Int) : α := if z = 0 then d.1 else if z = 1 then d.2.1 else if z = 2 then d.2.2.1 else d.2.2.2
theorem CalmV.ixP4 {z : Int} {dx : τ.den × τ.den × τ.den × τ.den} (hx : evV fl x = some (.p (.pair τ (.pair τ (.pair τ τ))) dx)) (hy : evV fl y = some (.v (.int .i64) z)) (h0 : 0 ≤ z) (h4 : z < 4)
    (b0 : aofB P T 0 0 τ = true) (b1 : aofB P T 1 τ.size τ = true) (b2 : aofB P T 2 (τ.size + τ.size) τ = true) (b3 : aofB P T 3 (τ.size + (τ.size + τ.size)) τ = true) : CalmV P fl σ (.indexAddr T x y) (.p τ (sel4 dx z)) := by
  have h : z = ((0 : Nat) : Int) ∨ z = ((1 : Nat) : Int) ∨ z = ((2 : Nat) : Int) ∨ z = ((3 : Nat) : Int) := by omega
  rcases h with rfl | rfl | rfl | rfl
  · exact .ixP 0 (dy := dx.1) (.l .o) b0 hx hy
  · exact .ixP 1 (dy := dx.2.1) (.r (.l .o)) b1 hx hy
  · exact .ixP 2 (dy := dx.2.2.1) (.r (.r (.l .o))) b2 hx hy
  exact .ixP 3 (dy := dx.2.2.2) (.r (.r (.r .o))) b3 hx hy
end Go.Fs
namespace Go.Proofs
open Go.Fs
set_option maxHeartbeats 2000000
abbrev y166 : Ty := (.sl (.sl (.pair (.int .i64) (.int .i64))))
theorem vt110 : ValT Tryz.prog 110 y110 := valT_of (by kernel_rfl)
theorem el166 : ElT Tryz.prog 166 110 y110 := elT_of (by kernel_rfl)
theorem mT_ex : ∃ n : Nat, n = 100001 := ⟨100001, rfl⟩
noncomputable def mT : Nat := Classical.choose mT_ex
theorem mT_eq : mT = 100001 := Classical.choose_spec mT_ex
theorem flat_le {α : Type} {l : List (List α)} (j : Nat) : (l.take j).flatten.length ≤ l.flatten.length := by
  have : l.flatten = (l.take j).flatten ++ (l.drop j).flatten := by rw [← List.flatten_append, List.take_append_drop]
  rw [this, List.length_append]; omega
theorem flat_succ {α : Type} {l : List (List α)} {j : Nat} (hj : j < l.length) : (l.take (j + 1)).flatten = (l.take j).flatten ++ l[j] := by
  rw [List.take_succ_eq_append_getElem hj, List.flatten_append]; simp
theorem zGrowE_ok {n : Nat} (h0 : 0 < n) (h1 : n ≤ 1000000) : VFG Tryz.prog OA 91 [nilV, I ((n : Nat) : Int)] [] (fun r g => ∃ w, r = .raw w ∧ g = [(w, .cap 113 n y113 [])]) := by
  refine VFG.enter Tryz.func91 rfl (fun _ _ => rfl) rfl ?_; show VC _ _ _ _ _ [(0, nilV), (1, I ((n : Nat) : Int))] [] _; refine VC.seq (VC.text ?_); refine VO.c (.assign rfl) ?_; refine VO.go (VC.seq (VC.seq (VC.text ?_))); refine VO.c (.move rfl) (VO.c (.lss) (VO.go ?_)); refine VC.condD rfl (fun c1 => ?_) (fun c1 => ?_)
  · exact absurd c1 (by omega)
  refine VC.skip (VC.seq (VC.seq (VC.text ?_))); refine VO.c (.move rfl) (VO.c (.move rfl) ?_); refine VO.r (.cap0 el110) ?_; refine VO.c (.move rfl) ?_; refine VO.r (.len0 el110) ?_; refine VO.c (.sub rfl rfl (by decide)) (VO.c (.sub rfl rfl (by omega)) (VO.c (.assign rfl) ?_)); refine VO.go (VC.seq (VC.text ?_)); refine VO.c (.move rfl) (VO.c (.gtr) (VO.go ?_)); refine VC.condD rfl (fun c4 => ?_) (fun c4 => ?_)
  · refine VC.text ?_; refine VO.c (.move rfl) (VO.c (.move rfl) ?_); refine VO.r (.cap0 el110) ?_; refine VO.r (.nil0 el110 rfl rfl) ?_; refine VO.c (.move rfl) ?_; refine VO.grow (k := n) rfl (congrArg (fun z : Int => some (PV.v (.int .i64) z)) (show (((n : Nat) : Int) - (((0 : Nat) : Int) - ((0 : Nat) : Int))) = ((n : Nat) : Int) by omega)) el110 (by kernel_rfl) (by omega) (by omega) ?_; intro bb1; refine VO.c (.move rfl) ?_; refine VO.r (.len0 el110) ?_; refine VO.r (.cut0 el110 rfl rfl) ?_; refine VO.c (.assign rfl) ?_; refine VO.go (VC.seq (VC.text ?_)); refine VO.c (.move rfl) (VO.c (.assign rfl) (VO.go ?_)); refine VC.ret ?_; exact VEndG.cap rfl evT m0 ⟨(.slice (some ⟨bb1, 0, none⟩) 0 0), rfl, (by rfl)⟩
  exact absurd (by omega) c4
theorem zConcatE1_ok {l : List (List (Int × Int))} (hl : l.length < 100000) (h0 : 0 < l.flatten.length) (h1 : l.flatten.length ≤ 1000000) : VFG Tryz.prog OA 45 [.v y166 l] [] (fun r g => ∃ w, r = .raw w ∧ g = [(w, .row 113 y113 l.flatten)]) := by
  refine VFG.enter Tryz.func45 rfl (fun _ _ => rfl) rfl ?_; show VC _ _ _ _ _ [(0, .v y166 l)] [] _; refine VC.seq (VC.text ?_); refine VO.c (.assign rfl) ?_; refine VO.go (VC.seq (VC.text ?_)); refine VO.c (.assign rfl) ?_; refine VO.go (VC.seq (VC.seq (VC.text ?_))); refine VO.c (.move rfl) ?_; refine VO.r (.len el166) ?_; refine VO.c (.move rfl) ?_; refine VO.go (VC.block ?_); refine VC.keep [(0, .v y166 l), (3, I (((l.take 0).flatten.length : Nat) : Int)), (9, .v y166 l), (10, I ((l.length : Nat) : Int)), (11, I ((0 : Nat) : Int))] ⟨rfl, slI rfl (by rfl), rfl, rfl, rfl, trivial⟩ ?_; refine VC.loop (I := fun kk ff ss => ∃ (j : Nat), kk = l.length - j ∧ ff = [(0, .v y166 l), (3, I (((l.take j).flatten.length : Nat) : Int)), (9, .v y166 l), (10, I ((l.length : Nat) : Int)), (11, I ((j : Nat) : Int))] ∧ ss = [] ∧ (j ≤ l.length)) ?_ _ _ _ ⟨0, rfl, rfl, rfl, Nat.zero_le _⟩; rintro kk ff ss ⟨j, hk0, rfl, rfl, hj⟩; refine VC.seq (VC.text ?_); refine VO.c (.lss) ?_; refine VO.go (VC.seq ?_); refine VC.condD rfl (fun c3 => ?_) (fun c3 => ?_)
  · refine VC.skip (VC.seq (VC.block (VC.seq (VC.text ?_)))); refine VO.c (.ix (j := j) rfl rfl el166 (by omega)) ?_; refine VO.r (.ld vt110) ?_; refine VO.c (.assign rfl) ?_; refine VO.go (VC.seq (VC.text ?_)); have hs := flat_le (l := l) (j + 1); rw [flat_succ (by omega), List.length_append] at hs; refine VO.c (.move rfl) (VO.c (.move rfl) ?_); refine VO.r (.len el110) ?_; refine VO.c (.add rfl rfl (by omega)) (VO.c (.assign rfl) ?_); refine VO.go (VC.seq (VC.text ?_)); refine VO.c (.move rfl) (VO.c (.lss) (VO.go ?_)); refine VC.condD rfl (fun c6 => ?_) (fun c6 => ?_)
    · exact absurd c6 (by omega)
    refine VC.skip (VC.text ?_); refine VO.c (.add rfl rfl (by omega)) (VO.c (.move rfl) ?_); refine VO.nil ?_; refine ⟨_, [(0, .v y166 l), (3, I (((l.take (j + 1)).flatten.length : Nat) : Int)), (9, .v y166 l), (10, I ((l.length : Nat) : Int)), (11, I (((j + 1) : Nat) : Int))], ?_, ⟨rfl, slI rfl (by rw [flat_succ (by omega), List.length_append] <;> rfl), rfl, rfl, rfl, trivial⟩, (j + 1), rfl, rfl, rfl, (by omega)⟩; omega
  refine VC.exit (VC.seq (VC.text ?_)); have hjl : l.take j = l := List.take_of_length_le (by omega); refine VO.c (.move rfl) ?_; refine VO.callG [] rfl rfl rfl (VFG.call (zGrowE_ok (by rw [hjl]; exact h0) (by rw [hjl]; exact h1))) ?_; rintro _ _ ⟨ww2, rfl, rfl⟩; show VO _ _ _ _ _ _ [(ww2, .cap 113 ((l.take j).flatten.length) y113 [])] _; refine VO.c (.assign rfl) ?_; refine VO.go (VC.seq (VC.seq (VC.text ?_))); refine VO.c (.move rfl) ?_; refine VO.r (.len el166) ?_; refine VO.c (.move rfl) ?_; refine VO.go (VC.block ?_); refine VC.keep [(6, .raw ww2), (25, .v y166 l), (26, I ((l.length : Nat) : Int)), (27, I ((0 : Nat) : Int))] ⟨rfl, rfl, rfl, rfl, trivial⟩ ?_; refine VC.loop (I := fun kk ff ss => ∃ (i : Nat) (out : Value), kk = l.length - i ∧ ff = [(6, .raw out), (25, .v y166 l), (26, I ((l.length : Nat) : Int)), (27, I ((i : Nat) : Int))] ∧ ss = [(out, .cap 113 ((l.take j).flatten.length) y113 ((l.take i).flatten))] ∧ (i ≤ l.length)) ?_ _ _ _ ⟨0, ww2, rfl, rfl, rfl, Nat.zero_le _⟩; rintro kk ff ss ⟨i, out, hk2, rfl, rfl, hi⟩; refine VC.seq (VC.text ?_); refine VO.c (.lss) ?_; refine VO.go (VC.seq ?_); refine VC.condD rfl (fun c11 => ?_) (fun c11 => ?_)
  · refine VC.skip (VC.seq (VC.block (VC.seq (VC.text ?_)))); refine VO.c (.ix (j := i) rfl rfl el166 (by omega)) ?_; refine VO.r (.ld vt110) ?_; refine VO.c (.assign rfl) ?_; refine VO.go (VC.text ?_); have hs := flat_le (l := l) (i + 1); rw [flat_succ (by omega), List.length_append] at hs; refine VO.c (.move rfl) (VO.c (.move rfl) ?_); refine VO.appC rfl rfl el110 el110 (by rw [hjl]; exact hs) (by rw [hjl]; exact h1) ?_; intro ww3; refine VO.c (.assign rfl) ?_; refine VO.nil (VC.text ?_); refine VO.c (.add rfl rfl (by omega)) (VO.c (.move rfl) ?_); refine VO.nil ?_; refine ⟨_, [(6, .raw ww3), (25, .v y166 l), (26, I ((l.length : Nat) : Int)), (27, I (((i + 1) : Nat) : Int))], ?_, ⟨rfl, rfl, rfl, rfl, trivial⟩, (i + 1), ww3, rfl, rfl, (by rw [flat_succ (by omega)] <;> rfl), (by omega)⟩; omega
  refine VC.exit (VC.seq ?_); refine VC.capRow (by rw [hjl, List.take_of_length_le (by omega)]) ?_; refine VC.text ?_; refine VO.c (.move rfl) (VO.c (.assign rfl) (VO.go ?_)); refine VC.ret ?_; exact VEndG.row rfl evT ⟨out, rfl, (by rw [List.take_of_length_le (by omega)])⟩
theorem zGrowE0_ok {n : Nat} (h0 : n = 0) : VF Tryz.prog OA 91 [nilV, I ((n : Nat) : Int)] (nilV) := by
  refine VF.enter Tryz.func91 rfl (fun _ _ => rfl) rfl ?_; show VC _ _ _ _ _ [(0, nilV), (1, I ((n : Nat) : Int))] [] _; refine VC.seq (VC.text ?_); refine VO.c (.assign rfl) ?_; refine VO.go (VC.seq (VC.seq (VC.text ?_))); refine VO.c (.move rfl) (VO.c (.lss) (VO.go ?_)); refine VC.condD rfl (fun c1 => ?_) (fun c1 => ?_)
  · exact absurd c1 (by omega)
  refine VC.skip (VC.seq (VC.seq (VC.text ?_))); refine VO.c (.move rfl) (VO.c (.move rfl) ?_); refine VO.r (.cap0 el110) ?_; refine VO.c (.move rfl) ?_; refine VO.r (.len0 el110) ?_; refine VO.c (.sub rfl rfl (by decide)) (VO.c (.sub rfl rfl (by omega)) (VO.c (.assign rfl) ?_)); refine VO.go (VC.seq (VC.text ?_)); refine VO.c (.move rfl) (VO.c (.gtr) (VO.go ?_)); refine VC.condD rfl (fun c4 => ?_) (fun c4 => ?_)
  · exact absurd c4 (by omega)
  refine VC.skip (VC.seq (VC.text ?_)); refine VO.c (.move rfl) (VO.c (.assign rfl) (VO.go ?_)); refine VC.ret ?_; exact VEnd.one rfl evT rfl
theorem zConcatE0_ok {l : List (List (Int × Int))} (hl : l.length < 100000) (h0 : l.flatten.length = 0) : VFG Tryz.prog OA 45 [.v y166 l] [] (fun r g => ∃ w, r = .raw w ∧ g = [(w, .row 113 y113 l.flatten)]) := by
  refine VFG.enter Tryz.func45 rfl (fun _ _ => rfl) rfl ?_; show VC _ _ _ _ _ [(0, .v y166 l)] [] _; refine VC.seq (VC.text ?_); refine VO.c (.assign rfl) ?_; refine VO.go (VC.seq (VC.text ?_)); refine VO.c (.assign rfl) ?_; refine VO.go (VC.seq (VC.seq (VC.text ?_))); refine VO.c (.move rfl) ?_; refine VO.r (.len el166) ?_; refine VO.c (.move rfl) ?_; refine VO.go (VC.block ?_); refine VC.keep [(0, .v y166 l), (3, I (((l.take 0).flatten.length : Nat) : Int)), (9, .v y166 l), (10, I ((l.length : Nat) : Int)), (11, I ((0 : Nat) : Int))] ⟨rfl, slI rfl (by rfl), rfl, rfl, rfl, trivial⟩ ?_; refine VC.loop (I := fun kk ff ss => ∃ (j : Nat), kk = l.length - j ∧ ff = [(0, .v y166 l), (3, I (((l.take j).flatten.length : Nat) : Int)), (9, .v y166 l), (10, I ((l.length : Nat) : Int)), (11, I ((j : Nat) : Int))] ∧ ss = [] ∧ (j ≤ l.length)) ?_ _ _ _ ⟨0, rfl, rfl, rfl, Nat.zero_le _⟩; rintro kk ff ss ⟨j, hk0, rfl, rfl, hj⟩; refine VC.seq (VC.text ?_); refine VO.c (.lss) ?_; refine VO.go (VC.seq ?_); refine VC.condD rfl (fun c3 => ?_) (fun c3 => ?_)
  · refine VC.skip (VC.seq (VC.block (VC.seq (VC.text ?_)))); refine VO.c (.ix (j := j) rfl rfl el166 (by omega)) ?_; refine VO.r (.ld vt110) ?_; refine VO.c (.assign rfl) ?_; refine VO.go (VC.seq (VC.text ?_)); have hs := flat_le (l := l) (j + 1); rw [flat_succ (by omega), List.length_append] at hs; refine VO.c (.move rfl) (VO.c (.move rfl) ?_); refine VO.r (.len el110) ?_; refine VO.c (.add rfl rfl (by omega)) (VO.c (.assign rfl) ?_); refine VO.go (VC.seq (VC.text ?_)); refine VO.c (.move rfl) (VO.c (.lss) (VO.go ?_)); refine VC.condD rfl (fun c6 => ?_) (fun c6 => ?_)
    · exact absurd c6 (by omega)
    refine VC.skip (VC.text ?_); refine VO.c (.add rfl rfl (by omega)) (VO.c (.move rfl) ?_); refine VO.nil ?_; refine ⟨_, [(0, .v y166 l), (3, I (((l.take (j + 1)).flatten.length : Nat) : Int)), (9, .v y166 l), (10, I ((l.length : Nat) : Int)), (11, I (((j + 1) : Nat) : Int))], ?_, ⟨rfl, slI rfl (by rw [flat_succ (by omega), List.length_append] <;> rfl), rfl, rfl, rfl, trivial⟩, (j + 1), rfl, rfl, rfl, (by omega)⟩; omega
  refine VC.exit (VC.seq (VC.text ?_)); have hjl : l.take j = l := List.take_of_length_le (by omega); refine VO.c (.move rfl) ?_; refine VO.call rfl rfl (VF.call (zGrowE0_ok (by rw [hjl]; exact h0))) ?_; refine VO.c (.assign rfl) ?_; refine VO.go (VC.seq (VC.seq (VC.text ?_))); refine VO.c (.move rfl) ?_; refine VO.r (.len el166) ?_; refine VO.c (.move rfl) ?_; refine VO.go (VC.block ?_); refine VC.cell0 113 y113 ?_; refine VC.keep [(6, .raw (.slice none 0 0)), (25, .v y166 l), (26, I ((l.length : Nat) : Int)), (27, I ((0 : Nat) : Int))] ⟨rfl, rfl, rfl, rfl, trivial⟩ ?_; refine VC.loop (I := fun kk ff ss => ∃ (i : Nat) (out : Value), kk = l.length - i ∧ ff = [(6, .raw out), (25, .v y166 l), (26, I ((l.length : Nat) : Int)), (27, I ((i : Nat) : Int))] ∧ ss = [(out, .row 113 y113 ((l.take i).flatten))] ∧ (i ≤ l.length)) ?_ _ _ _ ⟨0, (.slice none 0 0), rfl, rfl, rfl, Nat.zero_le _⟩; rintro kk ff ss ⟨i, out, hk2, rfl, rfl, hi⟩; refine VC.seq (VC.text ?_); refine VO.c (.lss) ?_; refine VO.go (VC.seq ?_); refine VC.condD rfl (fun c11 => ?_) (fun c11 => ?_)
  · refine VC.skip (VC.seq (VC.block (VC.seq (VC.text ?_)))); refine VO.c (.ix (j := i) rfl rfl el166 (by omega)) ?_; refine VO.r (.ld vt110) ?_; refine VO.c (.assign rfl) ?_; refine VO.go (VC.text ?_); have hs := flat_le (l := l) (i + 1); rw [flat_succ (by omega), List.length_append] at hs; refine VO.c (.move rfl) (VO.c (.move rfl) ?_); refine VO.app rfl rfl el110 el110 (by omega) ?_; intro ww4; refine VO.c (.assign rfl) ?_; refine VO.nil (VC.text ?_); refine VO.c (.add rfl rfl (by omega)) (VO.c (.move rfl) ?_); refine VO.nil ?_; refine ⟨_, [(6, .raw ww4), (25, .v y166 l), (26, I ((l.length : Nat) : Int)), (27, I (((i + 1) : Nat) : Int))], ?_, ⟨rfl, rfl, rfl, rfl, trivial⟩, (i + 1), ww4, rfl, rfl, (by rw [flat_succ (by omega)] <;> rfl), (by omega)⟩; omega
  refine VC.exit (VC.seq (VC.text ?_)); refine VO.c (.move rfl) (VO.c (.assign rfl) (VO.go ?_)); refine VC.ret ?_; exact VEndG.row rfl evT ⟨out, rfl, (by rw [List.take_of_length_le (by omega)])⟩
theorem zConcatE_ok {l : List (List (Int × Int))} (hl : l.length < 100000) (h1 : l.flatten.length ≤ 1000000) : VFG Tryz.prog OA 45 [.v y166 l] [] (fun r g => ∃ w, r = .raw w ∧ g = [(w, .row 113 y113 l.flatten)]) := by
  by_cases h : l.flatten.length = 0
  · exact zConcatE0_ok hl h
  exact zConcatE1_ok hl (Nat.pos_of_ne_zero h) h1
theorem ltE {x y : Int × Int} : Go.Proofs.ltOf cmpE x y = decide (x.1 < y.1) := by
  unfold Go.Proofs.ltOf cmpE Lib.compareInt; by_cases h1 : x.1 < y.1
  · simp [h1]
  by_cases h2 : y.1 < x.1 <;> simp [h1, h2]
theorem swoE : Go.Sort.SWO (Go.Proofs.ltOf cmpE) where
  irrefl x := by rw [ltE]; simp
  trans x y z h1 h2 := by rw [ltE] at *; simp at *; omega
  ntrans x y z h1 h2 := by rw [ltE] at *; simp at *; omega
abbrev sortE (l : List (Int × Int)) : List (Int × Int) := Go.Fs.sortG (τ := .pair (.int .i64) (.int .i64)) cmpE l
theorem sortE_sorted (l : List (Int × Int)) : (sortE l).Pairwise fun a b => a.1 ≤ b.1 :=
  (Go.Fs.sortG_sorted (τ := .pair (.int .i64) (.int .i64)) swoE l).imp fun {a b} h => by rw [ltE] at h; simp at h; exact h
theorem sortE_perm (l : List (Int × Int)) : (sortE l).Perm l := Go.Fs.sortG_perm (τ := .pair (.int .i64) (.int .i64)) swoE l
theorem zSortE_ok {w_l : Value} {l : List (Int × Int)} (hl : l.length ≤ 1000000) : VFG Tryz.prog OA 47 [.raw w_l, .clo 48 [] []] [(w_l, .row 113 (.pair (.int .i64) (.int .i64)) l)] (fun r g => r = .tup [] ∧ g = [(w_l, .row 113 (.pair (.int .i64) (.int .i64)) (sortE l))]) := VFG.sortG (τ := .pair (.int .i64) (.int .i64)) rfl (by decide) swoE hl
end Go.Proofs
namespace Go.Proofs.Sp
theorem take_more {α : Type} {L : List α} {j k : Nat} (h1 : j ≤ k) (h2 : k < L.length) : (L.drop j).take (k + 1 - j) = (L.drop j).take (k - j) ++ [L[k]] := by
  have h3 : k - j < (L.drop j).length := by rw [List.length_drop]; omega
  rw [show k + 1 - j = (k - j) + 1 by omega, List.take_succ_eq_append_getElem h3, List.getElem_drop]; simp only [show j + (k - j) = k by omega]
theorem split_at {α : Type} {L : List α} {j k : Nat} (h1 : j ≤ k) : L.drop j = (L.drop j).take (k - j) ++ L.drop k := by
  have := (List.take_append_drop (k - j) (L.drop j)).symm; rw [List.drop_drop, show j + (k - j) = k by omega] at this; exact this
structure EdgesOf (a b : List Sp) (L : List (Int × Int)) : Prop where
  ca : Canon 100000 a
  cb : Canon 100000 b
  perm : L.Perm (edgeE a 1 ++ edgeE b 2)
  sorted : L.Pairwise fun x y => x.1 ≤ y.1
theorem edge_delta {l : List Sp} {d : Int} {e : Int × Int} (h : e ∈ edgeE l d) : e.2 = d ∨ e.2 = -d := by
  obtain ⟨s, hs, he⟩ := List.mem_flatMap.1 h; simp only [List.mem_cons, List.not_mem_nil, or_false] at he; rcases he with rfl | rfl
  · exact .inl rfl
  exact .inr rfl
theorem EdgesOf.bnd {a b : List Sp} {L : List (Int × Int)} (E : EdgesOf a b L) : ∀ e ∈ L, 0 ≤ e.1 ∧ e.1 ≤ 100000 ∧ -2 ≤ e.2 ∧ e.2 ≤ 2 := fun e he => by
  rcases List.mem_append.1 (E.perm.subset he) with h | h
  · obtain ⟨s, hs, h1⟩ := edge_mem h; have h2 := E.ca.1 s hs; have h3 := edge_delta h; omega
  obtain ⟨s, hs, h1⟩ := edge_mem h; have h2 := E.cb.1 s hs; have h3 := edge_delta h; omega
theorem EdgesOf.at_drop {a b : List Sp} {L : List (Int × Int)} (E : EdgesOf a b L) {k : Nat} (h : 0 < (L.drop k).length) : -2 ≤ (L.drop k)[0].2 ∧ (L.drop k)[0].2 ≤ 2 := by
  have := E.bnd _ (List.mem_of_mem_drop (List.getElem_mem h)); omega
theorem mark_rng {a b : List Sp} {t : Int} : 0 ≤ markE a b t ∧ markE a b t < 4 := by
  unfold markE; split <;> split <;> omega
theorem EdgesOf.step {a b : List Sp} {L : List (Int × Int)} {ch : Int → Bool} {st fr su at_ : Int} {o : List Sp} {v j k : Nat} (E : EdgesOf a b L) (I : CombI ch L (L.drop j) st fr o v) (h0 : ch 0 = false) (hd : 0 < (L.drop j).length) (hat : (L.drop j)[0].1 = at_)
    (hk : j ≤ k ∧ k ≤ L.length) (hg : ∀ e ∈ (L.drop j).take (k - j), e.1 = at_) (hc : ¬ (0 : Int) < ((L.drop k).length : Nat) ∨ ¬ ((L.drop k).getD 0 (0, 0)).1 = at_) (hsu : su = st + totE ((L.drop j).take (k - j))) :
    j < k ∧ CombI ch L (L.drop k) su (if ch st = false ∧ ch su = true then at_ else fr) (if ch st = true ∧ ch su = false then o ++ [(fr, at_)] else o) (at_.toNat + 1) ∧ 0 ≤ su ∧ su < 4 ∧ 0 ≤ at_ ∧ at_ ≤ 100000 := by
  have hba := E.bnd _ (List.mem_of_mem_drop (List.getElem_mem hd)); rw [hat] at hba
  have hjk : j < k := by
    rcases Nat.lt_or_ge j k with h | h
    · exact h
    obtain rfl : j = k := by omega
    rcases hc with hc | hc
    · omega
    rw [List.getD_eq_getElem?_getD, List.getElem?_eq_getElem hd] at hc; exact absurd hat hc
  have ha : ((at_.toNat : Nat) : Int) = at_ := by omega
  have hs := split_at (L := L) (j := j) (k := k) hk.1
  have hjl : j < L.length := by rw [List.length_drop] at hd; omega
  have hne : (L.drop j).take (k - j) ≠ [] := fun e => by
    have : ((L.drop j).take (k - j)).length = 0 := by rw [e]; rfl
    rw [List.length_take, List.length_drop] at this; omega
  have hl : ∀ e ∈ L.drop k, at_ < e.1 := fun e he => by
    have hkl : k < L.length := by
      rcases Nat.lt_or_ge k L.length with h | h
      · exact h
      rw [List.drop_eq_nil_of_le h] at he; cases he
    have hc : ¬ L[k].1 = at_ := by
      rcases hc with hc | hc
      · rw [List.length_drop] at hc; omega
      rw [List.getD_eq_getElem?_getD, List.getElem?_drop, Nat.add_zero, List.getElem?_eq_getElem hkl] at hc; exact hc
    have h1 : L[j].1 ≤ L[k].1 := List.pairwise_iff_getElem.1 E.sorted j k hjl hkl hjk
    have h2 : L[j].1 = at_ := by rw [← hat, List.getElem_drop]; rfl
    have h3 : L[k].1 ≤ e.1 := by
      obtain ⟨i, hi, rfl⟩ := List.mem_iff_getElem.1 he; rw [List.getElem_drop]; rw [List.length_drop] at hi; rcases Nat.eq_zero_or_pos i with h | h
      · subst h; exact Int.le_refl _
      exact List.pairwise_iff_getElem.1 E.sorted k (k + i) hkl (by omega) (by omega)
    omega
  have I' := CombI.step (g := (L.drop j).take (k - j)) (l := L.drop k) (a := at_.toNat) (hs ▸ I) h0 (fun e he => (E.bnd e he).1) (fun e he => by rw [ha]; exact hg e he) hne (fun e he => by rw [ha]; exact hl e he); rw [← hsu, ha] at I'
  have hsu2 : su = markE a b (((at_.toNat + 1 : Nat) : Int) - 1) := by rw [I'.state]; exact edges_mark E.ca E.cb E.perm _
  have hm := mark_rng (a := a) (b := b) (t := ((at_.toNat + 1 : Nat) : Int) - 1); exact ⟨hjk, I', by omega, by omega, hba.1, hba.2.1⟩
theorem EdgesOf.last {a b : List Sp} {L : List (Int × Int)} {ch : Int → Bool} {st fr : Int} {o : List Sp} {v j n : Nat} (E : EdgesOf a b L) (I : CombI ch L (L.drop j) st fr o v) (h0 : ch 0 = false) (hj : L.length ≤ j) (hn : v ≤ n) : o = (scanE (fun t => ch (markE a b t)) n).2 := by
  rw [List.drop_eq_nil_of_le hj] at I; have h := I.last h0 (fun e he => (E.bnd e he).1) hn
  have e : pE ch L = fun t => ch (markE a b t) := funext fun t => by unfold pE; rw [edges_mark E.ca E.cb E.perm]
  rw [e] at h; exact h
end Go.Proofs.Sp
namespace Go.Proofs
open Go.Fs
set_option maxHeartbeats 2000000
abbrev y79 : Ty := (.pair .bool (.pair .bool (.pair .bool .bool)))
theorem vt4 : ValT Tryz.prog 4 .bool := valT_of (by kernel_rfl)
theorem bt29 : BldT Tryz.prog 29 y29 [(0, 1), (1, 1)] := bldT_of zt29 rfl (by kernel_rfl)
theorem firstE_zero {l : List Int} : firstE l = 0 ↔ ∀ x ∈ l, x = 0 := by
  induction l with
  | nil => exact ⟨fun _ x hx => (by cases hx), fun _ => rfl⟩
  | cons y l ih =>
    rw [firstE]; by_cases h : y = 0
    · rw [if_pos h, ih]; exact ⟨fun h2 x hx => (by rcases List.mem_cons.1 hx with rfl | hx; exact h; exact h2 x hx), fun h2 x hx => h2 x (List.mem_cons_of_mem _ hx)⟩
    rw [if_neg h]; exact ⟨fun h2 => absurd h2 h, fun h2 => h2 y List.mem_cons_self⟩
theorem firstR_zero {f : Nat → Int} {n : Nat} (h : firstR f 0 n = 0) {i : Nat} (hi : i < n) : f i = 0 :=
  firstE_zero.1 h _ (List.mem_map.2 ⟨i, by rw [List.mem_range'_1]; omega, rfl⟩)
theorem spanE_zero {p : Int × Int} : spanE p = 0 ↔ 0 ≤ p.1 ∧ p.1 < p.2 ∧ p.2 ≤ 100000 := by
  unfold spanE; split
  · rename_i h; exact ⟨fun h2 => absurd h2 (by decide), fun h2 => by omega⟩
  exact ⟨fun _ => by omega, fun _ => rfl⟩
theorem whenE_zero {c : Bool} {e : Int} (he : e ≠ 0) : whenE c e = 0 ↔ c = false := by
  cases c
  · exact ⟨fun _ => rfl, fun _ => rfl⟩
  exact ⟨fun h => absurd h he, fun h => by cases h⟩
theorem spans_canon {l : List (Int × Int)} (h : spansE l = 0) : Sp.Canon 100000 l ∧ l.length ≤ 2048 := by
  unfold spansE at h; split at h
  · exact absurd h (by decide)
  rename_i hn; have hz : ∀ j, j < l.length → spanAt l j = 0 := fun j hj => firstR_zero h hj
  have hz1 : ∀ j (hj : j < l.length), 0 ≤ l[j].1 ∧ l[j].1 < l[j].2 ∧ l[j].2 ≤ 100000 := fun j hj => by
    have := firstE_zero.1 (hz j hj) _ List.mem_cons_self; rw [spX_eq hj] at this; exact spanE_zero.1 this
  refine ⟨Sp.canon_of (fun s hs => ?_) fun j hj h0 => ?_, by omega⟩
  · obtain ⟨j, hj, rfl⟩ := List.mem_iff_getElem.1 hs; exact hz1 j hj
  have h1 := firstE_zero.1 (hz j hj) _ (List.mem_cons_of_mem _ List.mem_cons_self); have h2 := (whenE_zero (by decide)).1 h1; rw [spX_eq hj, spX_eq (show j - 1 < l.length by omega), decide_eq_true (show (0 : Int) < (j : Int) by omega), Bool.true_and, decide_eq_false_iff_not] at h2; omega
def badE (a b : List (Int × Int)) : Int := firstE [spansE a, spansE b]
theorem badE_zero {a b : List (Int × Int)} : badE a b = 0 ↔ spansE a = 0 ∧ spansE b = 0 := by
  unfold badE; rw [firstE_zero]; simp
noncomputable def combE (ch : Bool × Bool × Bool × Bool) (a b : List (Int × Int)) : List (Int × Int) := if badE a b = 0 then (Sp.scanE (fun t => sel4 ch (Sp.markE a b t)) mT).2 else []
theorem combE_of {ch : Bool × Bool × Bool × Bool} {a b : List (Int × Int)} (h : badE a b = 0) : combE ch a b = (Sp.scanE (fun t => sel4 ch (Sp.markE a b t)) mT).2 := if_pos h
theorem edges_of {a b : List (Int × Int)} (h : badE a b = 0) : Sp.EdgesOf a b (sortE [Sp.edgeE a 1, Sp.edgeE b 2].flatten) where
  ca := (spans_canon (badE_zero.1 h).1).1
  cb := (spans_canon (badE_zero.1 h).2).1
  perm := (sortE_perm _).trans (by simp)
  sorted := sortE_sorted _
theorem edges_len {a b : List (Int × Int)} : (sortE [Sp.edgeE a 1, Sp.edgeE b 2].flatten).length = 2 * a.length + 2 * b.length := by
  rw [(sortE_perm _).length_eq]; simp [edge_len]
theorem not_and2 {b c : Bool} (h : b = true ∨ c = false) : ¬ (b = false ∧ c = true) := fun h2 => by
  rcases h with h | h
  · rw [h] at h2; exact absurd h2.1 (by decide)
  rw [h] at h2; exact absurd h2.2 (by decide)
theorem not_and3 {b c : Bool} (h : b = false ∨ c = true) : ¬ (b = true ∧ c = false) := fun h2 => by
  rcases h with h | h
  · rw [h] at h2; exact absurd h2.1 (by decide)
  rw [h] at h2; exact absurd h2.2 (by decide)
theorem gComb_ok {a : List (Int × Int)} {b : List (Int × Int)} {ch : Bool × Bool × Bool × Bool} (ha : a.length < 1000000) (hb : b.length < 1000000) (hs : badE a b = 0 → a.length + b.length ≤ 1000) (h0 : ch.1 = false) : VF Tryz.prog OA 23 [.v y37 a, .v y37 b, .v y79 ch] (.tup [.v y37 (combE ch a b), I (badE a b)]) := by
  refine VF.enter Tryz.func23 rfl (fun _ _ => rfl) rfl ?_; show VC _ _ _ _ _ [(0, .v y37 a), (1, .v y37 b), (2, .v y79 ch)] [] _; refine VC.seq (VC.text ?_); refine VO.new (.box) ?_; refine VO.c (.assign rfl) (VO.c (.assign rfl) ?_); refine VO.go (VC.seq (VC.seq (VC.text ?_))); refine VO.c (.move rfl) ?_; refine VO.call rfl rfl (VF.call (gSpans_ok (by first | assumption | omega | simp))) ?_; refine VO.c (.move rfl) ?_; refine VO.call rfl rfl (VF.call (gSpans_ok (by first | assumption | omega | simp))) ?_; refine VO.new (.lit [spansE a, spansE b] el118) ?_; refine VO.call rfl rfl (VF.call (gFirst_ok (by first | assumption | omega | simp))) ?_; rw [show firstE [spansE a, spansE b] = badE a b from rfl]; refine VO.c (.assign rfl) ?_; refine VO.go (VC.seq (VC.text ?_)); refine VO.c (.move rfl) (VO.c (.neq) (VO.go ?_)); refine VC.condD rfl (fun c2 => ?_) (fun c2 => ?_)
  · refine VC.seq (VC.text ?_); refine VO.c (.move rfl) (VO.c (.assign rfl) (VO.c (.assign rfl) (VO.go ?_))); refine VC.ret ?_; exact VEnd.two rfl (evC .nil) evT (pvE (by exact (if_neg c2).symm)) (pvI (by first | rfl | simp))
  have hbad : badE a b = 0 := Classical.not_not.1 c2; have hsp := hs hbad; have hcap := edge_len (l := a) (d := 1); have hcbp := edge_len (l := b) (d := 2); refine VC.skip (VC.seq (VC.text ?_)); refine VO.c (.move rfl) ?_; refine VO.call rfl rfl (VF.call (gEdges_ok (by first | assumption | omega | simp) (by first | assumption | omega | simp))) ?_; refine VO.c (.move rfl) ?_; refine VO.call rfl rfl (VF.call (gEdges_ok (by first | assumption | omega | simp) (by first | assumption | omega | simp))) ?_; refine VO.new (.lit [Sp.edgeE a (1 : Int), Sp.edgeE b (2 : Int)] el166) ?_; refine VO.callG [] rfl rfl rfl (VFG.call (zConcatE_ok (by show 2 < _; decide) (by simp; omega))) ?_; rintro _ _ ⟨ww1, rfl, rfl⟩; show VO _ _ _ _ _ _ [(ww1, .row 113 y113 ([Sp.edgeE a (1 : Int), Sp.edgeE b (2 : Int)].flatten))] _; refine VO.c (.assign rfl) ?_; refine VO.go (VC.seq (VC.text ?_)); refine VO.c (.move rfl) ?_; refine VO.callG [(ww1, .row 113 y113 ([Sp.edgeE a (1 : Int), Sp.edgeE b (2 : Int)].flatten))] rfl rfl rfl (VFG.call (zSortE_ok (by simp; omega))) ?_; rintro _ _ ⟨rfl, rfl⟩; show VO _ _ _ _ _ _ [(ww1, .row 113 y113 (sortE ([Sp.edgeE a (1 : Int), Sp.edgeE b (2 : Int)].flatten)))] _; have E := edges_of hbad; have hLl := edges_len (a := a) (b := b); generalize hLe : sortE [Sp.edgeE a 1, Sp.edgeE b 2].flatten = L at E hLl ⊢; refine VO.go (VC.seq ?_); refine VC.shutL [(ww1, .row 113 y113 L)] [(9, .v y110 L)] rfl (.cons rfl (.row m0) .nil) ?_; refine VC.text ?_; refine VO.c (.assign rfl) ?_; refine VO.go (VC.seq (VC.text ?_)); refine VO.c (.assign rfl) (VO.c (.assign rfl) ?_); refine VO.go (VC.seq (VC.block ?_)); refine VC.cell0 29 y29 ?_; refine VC.keep [(5, .p y79 ch), (9, .v y110 (L.drop 0)), (10, .raw (.slice none 0 0)), (11, I 0), (12, I 0)] ⟨rfl, rfl, rfl, rfl, rfl, trivial⟩ ?_; refine VC.loop (I := fun kk ff ss => ∃ (j : Nat) (st : Int) (fr : Int) (v : Nat) (o : List (Int × Int)) (out : Value), kk = L.length - j ∧ ff = [(5, .p y79 ch), (9, .v y110 (L.drop j)), (10, .raw out), (11, I st), (12, I fr)] ∧ ss = [(out, .row 29 y29 o)] ∧ (j ≤ L.length) ∧ (Sp.CombI (sel4 ch) L (L.drop j) st fr o v) ∧ (0 ≤ st ∧ st < 4) ∧ (v ≤ 100001) ∧ (o.length ≤ j)) ?_ _ _ _ ⟨0, 0, 0, 0, [], (.slice none 0 0), rfl, rfl, rfl, Nat.zero_le _, (by exact Sp.CombI.init h0 fun e he => (E.bnd e he).1), (by omega), Nat.zero_le _, (by exact Nat.le_refl _)⟩; rintro kk ff ss ⟨j, st, fr, v, o, out, hk0, rfl, rfl, hj, hI, hst, hv, hol⟩; refine VC.seq (VC.seq (VC.text ?_)); refine VO.c (.move rfl) ?_; refine VO.r (.len el110) ?_; refine VO.c (.gtr) (VO.go ?_); refine VC.condD rfl (fun c8 => ?_) (fun c8 => ?_)
  · have hd0 : 0 < (L.drop j).length := by omega
    have hjl : j < L.length := by rw [List.length_drop] at hd0; omega
    refine VC.skip (VC.block (VC.seq (VC.drawn ?_))); refine VD.c (.move rfl) (VD.c (.ix (j := 0) rfl rfl el110 (by omega)) (VD.c (.fa (.l .o)) ?_)); refine VD.r [] (.ld vt3) (.inl rfl) ?_; generalize hat : ((L.drop j)[0]).1 = at_; refine VD.c (.move rfl) (VD.c (.ixP4 rfl rfl (by omega) (by omega) (by kernel_rfl) (by kernel_rfl) (by kernel_rfl) (by kernel_rfl)) (VD.nw [] ?_)); refine VD.r [] (.ld vt4) (.inl rfl) ?_; refine VD.c (.assign rfl) (VD.c (.assign rfl) ?_); refine VD.go (VC.seq (VC.block ?_)); refine VC.keep [(5, .p y79 ch), (9, .v y110 (L.drop j)), (10, .raw out), (11, I st), (12, I fr), (13, I at_), (14, B (sel4 ch st))] ⟨rfl, rfl, rfl, rfl, rfl, rfl, rfl, trivial⟩ ?_; refine VC.loop (I := fun kk ff ss => ∃ (k : Nat) (su : Int), kk = L.length - k ∧ ff = [(5, .p y79 ch), (9, .v y110 (L.drop k)), (10, .raw out), (11, I su), (12, I fr), (13, I at_), (14, B (sel4 ch st))] ∧ ss = [(out, .row 29 y29 o)] ∧ (j ≤ k ∧ k ≤ L.length) ∧ (∀ e ∈ (L.drop j).take (k - j), e.1 = at_) ∧ (su = st + Sp.totE ((L.drop j).take (k - j))) ∧ (-(2 * (k : Int)) ≤ su ∧ su ≤ 4 + 2 * k)) ?_ _ _ _ ⟨j, st, rfl, rfl, rfl, (by omega), (by simp), (by simp [Sp.totE]), (by omega)⟩; rintro kk ff ss ⟨k, su, hk2, rfl, rfl, hk, hg, hsu, hb2⟩; refine VC.seq (VC.seq (VC.text ?_)); refine VO.c (.move rfl) ?_; refine VO.r (.len el110) ?_; refine VO.c (.gtr) (VO.c (.move rfl) ?_); refine VO.cg (r := decide ((0 : Int) < (((L.drop k).length : Nat) : Int))) (w := true) [] trivial (fun _ => (.move rfl)) ?_; refine VO.cg (r := decide ((0 : Int) < (((L.drop k).length : Nat) : Int))) (w := true) [(46, .v y110 (L.drop k))] ⟨rfl, trivial⟩ (fun hgd => have g10_3 : (0 : Int) < (((L.drop k).length : Nat) : Int) := (by simpa using hgd); (.ixD (j := 0) rfl rfl (0, 0) el110 (by omega))) ?_; refine VO.cg (r := decide ((0 : Int) < (((L.drop k).length : Nat) : Int))) (w := true) [(47, .p y113 ((L.drop k).getD 0 (0, 0)))] ⟨rfl, trivial⟩ (fun _ => (.fa (.l .o))) ?_; refine VO.rg (r := decide ((0 : Int) < (((L.drop k).length : Nat) : Int))) (w := true) [(48, .p (.int .i64) (((L.drop k).getD 0 (0, 0)).1))] ⟨rfl, trivial⟩ (fun _ => (.ld vt3)) ?_; refine VO.cg (r := decide ((0 : Int) < (((L.drop k).length : Nat) : Int))) (w := true) [] trivial (fun _ => (.move rfl)) ?_; refine VO.cg (r := decide ((0 : Int) < (((L.drop k).length : Nat) : Int))) (w := true) [(49, I (((L.drop k).getD 0 (0, 0)).1)), (50, I at_)] ⟨rfl, rfl, trivial⟩ (fun _ => (.eql)) ?_; refine VO.c (.and) (VO.go ?_); refine VC.condB rfl (fun c10 => ?_) (fun c10 => ?_)
    · try simp only [Bool.and_eq_true, Bool.or_eq_true, Bool.and_eq_false_iff, Bool.or_eq_false_iff, Bool.not_eq_true', Bool.not_eq_false', decide_eq_true_eq, decide_eq_false_iff_not] at c10
      have hd1 : 0 < (L.drop k).length := by omega
      have hkl : k < L.length := by rw [List.length_drop] at hd1; omega
      have hdl := E.at_drop hd1
      have h1k : (L.drop k)[0] = L[k] := by rw [List.getElem_drop] <;> rfl
      have h1a : L[k].1 = at_ := by rw [← h1k]; have := c10.2; rw [List.getD_eq_getElem?_getD, List.getElem?_eq_getElem hd1] at this; exact this
      have htm := Sp.take_more (L := L) hk.1 hkl
      have hg2 : ∀ e ∈ (L.drop j).take (k + 1 - j), e.1 = at_ := fun e he => by
        rw [htm] at he; rcases List.mem_append.1 he with h | h
        · exact hg e h
        obtain rfl := List.mem_singleton.1 h; exact h1a
      have hsu2 : su + ((L.drop k)[0]).2 = st + Sp.totE ((L.drop j).take (k + 1 - j)) := by rw [htm, Sp.totE_app, h1k, hsu]; simp [Sp.totE]; omega
      refine VC.skip (VC.block (VC.seq (VC.text ?_))); refine VO.c (.move rfl) (VO.c (.move rfl) (VO.c (.ix (j := 0) rfl rfl el110 (by omega)) (VO.c (.fa (.r .o)) ?_))); refine VO.r (.ld vt3) ?_; refine VO.c (.add rfl rfl (by omega)) (VO.c (.assign rfl) ?_); refine VO.go (VC.text ?_); refine VO.c (.move rfl) ?_; refine VO.r (.cutL rfl rfl el110 (by simp; omega)) ?_; refine VO.c (.assign rfl) ?_; refine VO.nil ?_; refine ⟨_, [(5, .p y79 ch), (9, .v y110 (L.drop (k + 1))), (10, .raw out), (11, I (su + ((L.drop k)[0]).2)), (12, I fr), (13, I at_), (14, B (sel4 ch st))], ?_, ⟨rfl, slE rfl (by rw [List.drop_drop] <;> rfl), rfl, slI rfl (by first | rfl | simp | omega), rfl, rfl, rfl, trivial⟩, (k + 1), (su + ((L.drop k)[0]).2), rfl, rfl, rfl, (by omega), (by exact hg2), (by exact hsu2), (by omega)⟩; omega
    try simp only [Bool.and_eq_true, Bool.or_eq_true, Bool.and_eq_false_iff, Bool.or_eq_false_iff, Bool.not_eq_true', Bool.not_eq_false', decide_eq_true_eq, decide_eq_false_iff_not] at c10
    have hS := E.step hI h0 hd0 hat hk hg c10 hsu; refine VC.exit (VC.seq (VC.seq (VC.text ?_))); refine VO.c (.move rfl) (VO.c (.move rfl) ?_); refine VO.cg (r := sel4 ch st) (w := true) [] trivial (fun _ => (.move rfl)) ?_; refine VO.cg (r := sel4 ch st) (w := true) [(63, I su)] ⟨rfl, trivial⟩ (fun hgd => have g13_1 : sel4 ch st = true := (by simpa using hgd); (.ixP4 rfl rfl (by omega) (by omega) (by kernel_rfl) (by kernel_rfl) (by kernel_rfl) (by kernel_rfl))) ?_; refine VO.rg (r := sel4 ch st) (w := true) [(64, .p .bool (sel4 ch su))] ⟨rfl, trivial⟩ (fun _ => (.ld vt4)) ?_; refine VO.cg (r := sel4 ch st) (w := true) [(65, B (sel4 ch su))] ⟨rfl, trivial⟩ (fun _ => (.not)) ?_; refine VO.c (.and) (VO.go ?_); refine VC.condB rfl (fun c13 => ?_) (fun c13 => ?_)
    · try simp only [Bool.and_eq_true, Bool.or_eq_true, Bool.and_eq_false_iff, Bool.or_eq_false_iff, Bool.not_eq_true', Bool.not_eq_false', decide_eq_true_eq, decide_eq_false_iff_not] at c13
      have ho : (if sel4 ch st = true ∧ sel4 ch su = false then o ++ [(fr, at_)] else o) = o ++ [(fr, at_)] := if_pos c13; refine VC.text ?_; refine VO.c (.move rfl) (VO.c (.move rfl) (VO.c (.move rfl) (VO.c (.build (fr, at_) bt29) ?_))); refine VO.new (.lit [(fr, at_)] el37) ?_; refine VO.app rfl rfl el37 el37 (by simp; omega) ?_; intro ww3; refine VO.c (.assign rfl) ?_; refine VO.go (VC.seq (VC.text ?_)); refine VO.c (.move rfl) (VO.c (.not) (VO.c (.move rfl) ?_)); refine VO.cg (r := (!(sel4 ch st))) (w := true) [] trivial (fun _ => (.move rfl)) ?_; refine VO.cg (r := (!(sel4 ch st))) (w := true) [(77, I su)] ⟨rfl, trivial⟩ (fun hgd => have g15_2 : (!(sel4 ch st)) = true := (by simpa using hgd); (.ixP4 rfl rfl (by omega) (by omega) (by kernel_rfl) (by kernel_rfl) (by kernel_rfl) (by kernel_rfl))) ?_; refine VO.rg (r := (!(sel4 ch st))) (w := true) [(78, .p .bool (sel4 ch su))] ⟨rfl, trivial⟩ (fun _ => (.ld vt4)) ?_; refine VO.c (.and) (VO.go ?_); refine VC.join [(5, .p y79 ch), (9, .v y110 (L.drop k)), (10, .raw ww3), (11, I su), (12, I (if sel4 ch st = false ∧ sel4 ch su = true then at_ else fr))] [(ww3, .row 29 y29 (o ++ [(fr, at_)]))] ?_ ?_; refine VC.condB rfl (fun c15 => ?_) (fun c15 => ?_)
      · try simp only [Bool.and_eq_true, Bool.or_eq_true, Bool.and_eq_false_iff, Bool.or_eq_false_iff, Bool.not_eq_true', Bool.not_eq_false', decide_eq_true_eq, decide_eq_false_iff_not] at c15
        refine VC.text ?_; refine VO.c (.move rfl) (VO.c (.assign rfl) ?_); refine VO.nil ?_; exact ⟨⟨rfl, rfl, rfl, rfl, slI rfl (by first | rw [if_pos c15] | rw [if_neg (not_and2 c15)]), trivial⟩, rfl⟩
      · try simp only [Bool.and_eq_true, Bool.or_eq_true, Bool.and_eq_false_iff, Bool.or_eq_false_iff, Bool.not_eq_true', Bool.not_eq_false', decide_eq_true_eq, decide_eq_false_iff_not] at c15
        refine VC.skip ?_; exact ⟨⟨rfl, rfl, rfl, rfl, slI rfl (by first | rw [if_pos c15] | rw [if_neg (not_and2 c15)]), trivial⟩, rfl⟩
      refine ⟨_, [(5, .p y79 ch), (9, .v y110 (L.drop k)), (10, .raw ww3), (11, I su), (12, I (if sel4 ch st = false ∧ sel4 ch su = true then at_ else fr))], ?_, ⟨rfl, slE rfl (by first | rfl | simp | omega), rfl, slI rfl (by first | rfl | simp | omega), slI rfl (by first | rfl | simp | omega), trivial⟩, k, su, (if sel4 ch st = false ∧ sel4 ch su = true then at_ else fr), (at_.toNat + 1), (if sel4 ch st = true ∧ sel4 ch su = false then o ++ [(fr, at_)] else o), ww3, rfl, rfl, (by rw [ho]), (by omega), (by exact hS.2.1), (by omega), (by omega), (by rw [ho]; first | omega | (rw [List.length_append]; simp; omega))⟩; omega
    try simp only [Bool.and_eq_true, Bool.or_eq_true, Bool.and_eq_false_iff, Bool.or_eq_false_iff, Bool.not_eq_true', Bool.not_eq_false', decide_eq_true_eq, decide_eq_false_iff_not] at c13
    have ho : (if sel4 ch st = true ∧ sel4 ch su = false then o ++ [(fr, at_)] else o) = o := if_neg (not_and3 c13); refine VC.skip (VC.seq (VC.text ?_)); refine VO.c (.move rfl) (VO.c (.not) (VO.c (.move rfl) ?_)); refine VO.cg (r := (!(sel4 ch st))) (w := true) [] trivial (fun _ => (.move rfl)) ?_; refine VO.cg (r := (!(sel4 ch st))) (w := true) [(77, I su)] ⟨rfl, trivial⟩ (fun hgd => have g15_2 : (!(sel4 ch st)) = true := (by simpa using hgd); (.ixP4 rfl rfl (by omega) (by omega) (by kernel_rfl) (by kernel_rfl) (by kernel_rfl) (by kernel_rfl))) ?_; refine VO.rg (r := (!(sel4 ch st))) (w := true) [(78, .p .bool (sel4 ch su))] ⟨rfl, trivial⟩ (fun _ => (.ld vt4)) ?_; refine VO.c (.and) (VO.go ?_); refine VC.join [(5, .p y79 ch), (9, .v y110 (L.drop k)), (10, .raw out), (11, I su), (12, I (if sel4 ch st = false ∧ sel4 ch su = true then at_ else fr))] [(out, .row 29 y29 o)] ?_ ?_; refine VC.condB rfl (fun c15 => ?_) (fun c15 => ?_)
    · try simp only [Bool.and_eq_true, Bool.or_eq_true, Bool.and_eq_false_iff, Bool.or_eq_false_iff, Bool.not_eq_true', Bool.not_eq_false', decide_eq_true_eq, decide_eq_false_iff_not] at c15
      refine VC.text ?_; refine VO.c (.move rfl) (VO.c (.assign rfl) ?_); refine VO.nil ?_; exact ⟨⟨rfl, rfl, rfl, rfl, slI rfl (by first | rw [if_pos c15] | rw [if_neg (not_and2 c15)]), trivial⟩, rfl⟩
    · try simp only [Bool.and_eq_true, Bool.or_eq_true, Bool.and_eq_false_iff, Bool.or_eq_false_iff, Bool.not_eq_true', Bool.not_eq_false', decide_eq_true_eq, decide_eq_false_iff_not] at c15
      refine VC.skip ?_; exact ⟨⟨rfl, rfl, rfl, rfl, slI rfl (by first | rw [if_pos c15] | rw [if_neg (not_and2 c15)]), trivial⟩, rfl⟩
    refine ⟨_, [(5, .p y79 ch), (9, .v y110 (L.drop k)), (10, .raw out), (11, I su), (12, I (if sel4 ch st = false ∧ sel4 ch su = true then at_ else fr))], ?_, ⟨rfl, slE rfl (by first | rfl | simp | omega), rfl, slI rfl (by first | rfl | simp | omega), slI rfl (by first | rfl | simp | omega), trivial⟩, k, su, (if sel4 ch st = false ∧ sel4 ch su = true then at_ else fr), (at_.toNat + 1), (if sel4 ch st = true ∧ sel4 ch su = false then o ++ [(fr, at_)] else o), out, rfl, rfl, (by rw [ho]), (by omega), (by exact hS.2.1), (by omega), (by omega), (by rw [ho]; first | omega | (rw [List.length_append]; simp; omega))⟩; omega
  have hjL : L.length ≤ j := by rw [List.length_drop] at c8; omega
  have hfin := E.last (n := mT) hI h0 hjL (by rw [mT_eq]; exact hv); refine VC.exit (VC.seq (VC.seq (VC.text ?_))); refine VO.c (.move rfl) ?_; refine VO.r (.lenO m0 el37) ?_; refine VO.c (.gtr) (VO.go ?_); refine VC.condD rfl (fun c17 => ?_) (fun c17 => ?_)
  · exact absurd c17 (by omega)
  refine VC.skip (VC.seq (VC.text ?_)); refine VO.c (.move rfl) (VO.c (.assign rfl) (VO.c (.assign rfl) (VO.go ?_))); refine VC.ret ?_; exact VEnd.two rfl (evC (.row m0)) evT (pvE (by rw [combE_of hbad]; exact hfin)) (pvI (by exact hbad.symm))
end Go.Proofs
namespace Go.Proofs
open Go.Fs
set_option maxHeartbeats 2000000
theorem zt79 : ZerT Tryz.prog 79 y79 := zerT_of (z := .agg #[.bool false, .bool false, .bool false, .bool false]) (by kernel_rfl) rfl rfl
theorem bt79 : BldT Tryz.prog 79 y79 [(0, 1), (1, 1), (2, 1), (3, 1)] := bldT_of zt79 rfl (by kernel_rfl)
theorem four {P : Int → Prop} (h0 : P 0) (h1 : P 1) (h2 : P 2) (h3 : P 3) : ∀ n : Int, 0 ≤ n ∧ n < 4 → P n := fun n hn => by
  have h : n = 0 ∨ n = 1 ∨ n = 2 ∨ n = 3 := by omega
  rcases h with rfl | rfl | rfl | rfl <;> assumption
theorem gJoin_ok {a : List (Int × Int)} {b : List (Int × Int)} (ha : a.length < 1000000) (hb : b.length < 1000000) (hs : badE a b = 0 → a.length + b.length ≤ 1000) : VF Tryz.prog OA 9 [.v y37 a, .v y37 b] (.tup [.v y37 (combE (false, true, true, true) a b), I (badE a b)]) := by
  refine VF.enter Tryz.func9 rfl (fun _ _ => rfl) rfl ?_; show VC _ _ _ _ _ [(0, .v y37 a), (1, .v y37 b)] [] _; refine VC.seq (VC.text ?_); refine VO.c (.assign rfl) (VO.c (.assign rfl) ?_); refine VO.go (VC.seq (VC.text ?_)); refine VO.c (.move rfl) (VO.c (.move rfl) (VO.c (.build (false, true, true, true) bt79) ?_)); refine VO.call rfl rfl (VF.call (gComb_ok ha hb hs rfl)) ?_; refine VO.c (.extract) (VO.c (.extract) (VO.c (.assign rfl) (VO.c (.assign rfl) ?_))); refine VO.go ?_; refine VC.ret ?_; exact VEnd.two rfl evT evT (pvE (by rfl)) (pvI (by rfl))
theorem gMeet_ok {a : List (Int × Int)} {b : List (Int × Int)} (ha : a.length < 1000000) (hb : b.length < 1000000) (hs : badE a b = 0 → a.length + b.length ≤ 1000) : VF Tryz.prog OA 10 [.v y37 a, .v y37 b] (.tup [.v y37 (combE (false, false, false, true) a b), I (badE a b)]) := by
  refine VF.enter Tryz.func10 rfl (fun _ _ => rfl) rfl ?_; show VC _ _ _ _ _ [(0, .v y37 a), (1, .v y37 b)] [] _; refine VC.seq (VC.text ?_); refine VO.c (.assign rfl) (VO.c (.assign rfl) ?_); refine VO.go (VC.seq (VC.text ?_)); refine VO.c (.move rfl) (VO.c (.move rfl) (VO.c (.build (false, false, false, true) bt79) ?_)); refine VO.call rfl rfl (VF.call (gComb_ok ha hb hs rfl)) ?_; refine VO.c (.extract) (VO.c (.extract) (VO.c (.assign rfl) (VO.c (.assign rfl) ?_))); refine VO.go ?_; refine VC.ret ?_; exact VEnd.two rfl evT evT (pvE (by rfl)) (pvI (by rfl))
end Go.Proofs
namespace Go.Proofs
open Go.Fs
abbrev y31 : Ty := (.pair .str (.pair .str (.pair .str (.pair (.sl .str) (.pair (.int .i64) (.int .i64))))))
abbrev y32 : Ty := (.pair .str (.pair .str (.pair .str (.pair (.sl .str) (.pair (.int .i64) (.int .i64))))))
theorem vt27 : ValT Tryz.prog 27 (.sl .str) := valT_of (by kernel_rfl)
theorem zt9 : ZerT Tryz.prog 9 .str := zerT_of (z := .string ByteArray.empty) (by kernel_rfl) rfl rfl
def lockE (last s : ByteArray) : Int := firstE [whenE (!nameB s) 8, whenE (!ltS last s) 11]
theorem sLock_ok {s : ByteArray} {w_last : Value} {last : ByteArray} : VFG Tryz.prog OA 51 [St s, .raw w_last] [(w_last, .var [St last])] (fun r g => r = I (lockE last s) ∧ g = [(w_last, .var [St s])]) := by
  refine VFG.enter Tryz.func51 rfl (fun _ _ => rfl) rfl ?_; show VC _ _ _ _ _ [(0, St s), (1, .raw w_last)] [(w_last, .var [St last])] _; refine VC.seq (VC.text ?_); refine VO.c (.assign rfl) ?_; refine VO.go (VC.seq (VC.drawn ?_)); refine VD.c (.move rfl) ?_; refine VD.call rfl rfl (VF.call (sNm_ok )) ?_; refine VD.c (.move rfl) ?_; refine VD.r [(w_last, .var [St last])] (.ldV m0 vt9) (.inr ⟨rfl, rfl⟩) ?_; refine VD.c (.sleq) ?_; refine VD.call rfl rfl (VF.call (sWhen_ok )) ?_; refine VD.nw [] ?_; refine VD.new (.lit [whenE (!nameB s) 8, whenE (!ltS last s) (11 : Int)] el118) ?_; refine VD.callO rfl rfl (VF.call (sFirst_ok (by simp))) ?_; refine VD.c (.assign rfl) ?_; refine VD.go (VC.seq (VC.text ?_)); refine VO.c (.move rfl) ?_; refine VO.setV (cs' := [St s]) vt9 .v ?_; refine VO.go (VC.seq (VC.text ?_)); refine VO.c (.move rfl) (VO.c (.assign rfl) (VO.go ?_)); refine VC.ret ?_; refine VEndG.one (P := Tryz.prog) (fn := Tryz.f51) (γ := [(w_last, .var [St last])]) (Q := fun r g => r = I (lockE last s) ∧ g = [(w_last, .var [St s])]) rfl evT ?_ rfl rfl; exact ⟨pvI (by rfl), by rfl⟩
def locksE (last : ByteArray) (l : List ByteArray) : Int := (wst lockE (fun _ s => s) last l).1
def permE (p : ByteArray × ByteArray × ByteArray × List ByteArray × Int × Int) : Int :=
  firstE [whenE (!nameB p.1) 8, whenE (!nameB p.2.1) 8, whenE (!nameB p.2.2.1) 8, whenE (decide (8 < (p.2.2.2.1.length : Int))) 5, locksE ByteArray.empty p.2.2.2.1, spanE p.2.2.2.2]
theorem firstE_app : ∀ xs ys : List Int, firstE (xs ++ ys) = if firstE xs = 0 then firstE ys else firstE xs
  | [], ys => by simp [firstE]
  | x :: xs, ys => by
    have e1 : firstE (x :: xs ++ ys) = if x = 0 then firstE (xs ++ ys) else x := rfl; have e2 : firstE (x :: xs) = if x = 0 then firstE xs else x := rfl; by_cases h : x = 0
    · rw [if_pos h] at e1 e2; rw [e1, e2]; exact firstE_app xs ys
    rw [if_neg h] at e1 e2; rw [e1, e2, if_neg h]
variable {p : ByteArray × ByteArray × ByteArray × List ByteArray × Int × Int}
theorem firstE_one {x : Int} : firstE [x] = x := by
  simp only [firstE]; by_cases h : x = 0 <;> simp [h]
theorem firstE_two {x y : Int} : firstE [x, y] = if x = 0 then y else x := by
  show (if x = 0 then firstE [y] else x) = _; rw [firstE_one]
theorem permE_s {a b c d : Int} (ha : a = whenE (!nameB p.1) 8) (hb : b = whenE (!nameB p.2.1) 8) (hc : c = whenE (!nameB p.2.2.1) 8) (hd : d = whenE (decide (8 < (p.2.2.2.1.length : Int))) 5) :
    permE p = if firstE [a, b, c, d] = 0 then (if locksE ByteArray.empty p.2.2.2.1 = 0 then spanE p.2.2.2.2 else locksE ByteArray.empty p.2.2.2.1) else firstE [a, b, c, d] := by
  subst ha hb hc hd; show firstE ([_, _, _, _] ++ [_, _]) = _; rw [firstE_app, firstE_two]
theorem permE_r {a b c : Int} (ha : a = whenE (!nameB p.1) 8) (hb : b = whenE (!nameB p.2.1) 8) (hc : c = whenE (!nameB p.2.2.1) 8) :
    permE p = if firstE [a, b, c] = 0 then (if 8 < (p.2.2.2.1.length : Int) then 5 else if locksE ByteArray.empty p.2.2.2.1 = 0 then spanE p.2.2.2.2 else locksE ByteArray.empty p.2.2.2.1) else firstE [a, b, c] := by
  rw [permE_s ha hb hc rfl, show firstE [a, b, c, whenE (decide (8 < (p.2.2.2.1.length : Int))) 5] = firstE ([a, b, c] ++ [whenE (decide (8 < (p.2.2.2.1.length : Int))) 5]) from rfl, firstE_app, firstE_one]; generalize firstE [a, b, c] = F; by_cases h1 : F = 0 <;> by_cases h2 : 8 < (p.2.2.2.1.length : Int) <;> simp [h1, h2, whenE]
def prevL (l : List ByteArray) (i : Nat) : ByteArray := if i = 0 then ByteArray.empty else l.getD (i - 1) ByteArray.empty
theorem prevL_succ {l : List ByteArray} {i : Nat} (hi : i < l.length) : prevL l (i + 1) = l[i] := by simp [prevL, hi]
theorem prevL_pos {l : List ByteArray} {i : Nat} (h0 : i ≠ 0) (hi : i - 1 < l.length) : prevL l i = l[i - 1] := by simp [prevL, h0, hi]
theorem prevL_int {l : List ByteArray} {i : Nat} (h0 : 0 < (i : Int)) (h : ((i : Int) - 1).toNat < l.length) : prevL l i = l[((i : Int) - 1).toNat] := by
  rw [prevL_pos (by omega) (by omega)]; simp only [show ((i : Int) - 1).toNat = i - 1 by omega]
theorem locksE_drop {last : ByteArray} {l : List ByteArray} {i : Nat} (hi : i < l.length) : locksE last (l.drop i) = if lockE last l[i] = 0 then locksE l[i] (l.drop (i + 1)) else lockE last l[i] := by
  unfold locksE; rw [wst_drop hi]; by_cases h : lockE last l[i] = 0 <;> simp [h]
theorem locksE_end {last : ByteArray} {l : List ByteArray} {i : Nat} (hi : l.length ≤ i) : locksE last (l.drop i) = 0 := by
  unfold locksE; rw [wst_end hi]
theorem lockE_name {last s : ByteArray} (h : nameB s = false) : lockE last s = 8 := by simp [lockE, h, whenE, firstE]
theorem lockE_ord {last s : ByteArray} (h : nameB s = true) : lockE last s = if ltS last s = true then 0 else 11 := by
  cases h2 : ltS last s <;> simp [lockE, h, h2, whenE, firstE]
theorem nameB_size {s : ByteArray} (h : nameB s = true) : s.size ≠ 0 := (of_decide_eq_true h).1
theorem nameE_name {s : ByteArray} (h : whenE (!nameB s) 8 ≠ 0) : nameB s = false := by
  cases h2 : nameB s with
  | false => rfl
  | true => rw [h2] at h; exact absurd rfl h
theorem nameE_ok {s : ByteArray} (h : whenE (!nameB s) 8 = 0) : nameB s = true := by
  cases h2 : nameB s with
  | true => rfl
  | false => rw [h2] at h; cases h
theorem sPermit_ok {p : ByteArray × ByteArray × ByteArray × (List ByteArray) × (Int × Int)} (hl : p.2.2.2.1.length < 1000000) : VF Tryz.prog OA 25 [.v y32 p] (I (permE p)) := by
  refine VF.enter Tryz.func25 rfl (fun _ _ => rfl) rfl ?_; show VC _ _ _ _ _ [(0, .v y32 p)] [] _; refine VC.seq (VC.text ?_); refine VO.new (.box) ?_; refine VO.c (.assign rfl) ?_; refine VO.go (VC.seq (VC.seq (VC.drawn ?_))); refine VD.c (.fa (.l .o)) ?_; refine VD.r [] (.ld vt9) (.inl rfl) ?_; refine VD.call rfl rfl (VF.call (sNm_ok )) ?_; refine VD.c (.fa (.r (.l .o))) ?_; refine VD.r [] (.ld vt9) (.inl rfl) ?_; refine VD.call rfl rfl (VF.call (sNm_ok )) ?_; refine VD.nw [] (VD.c (.fa (.r (.r (.l .o)))) ?_); refine VD.r [] (.ld vt9) (.inl rfl) ?_; refine VD.call rfl rfl (VF.call (sNm_ok )) ?_; refine VD.c (.fa (.r (.r (.r (.l .o))))) ?_; refine VD.r [] (.ld vt27) (.inl rfl) ?_; refine VD.r [] (.len el27) (.inl rfl) ?_; refine VD.c (.gtr) (VD.nw [] ?_); refine VD.call rfl rfl (VF.call (sWhen_ok )) ?_; refine VD.new (.lit [whenE (!nameB p.1) 8, whenE (!nameB p.2.1) 8, whenE (!nameB p.2.2.1) 8, whenE (decide ((8 : Int) < ((p.2.2.2.1.length : Nat) : Int))) (5 : Int)] el118) ?_; refine VD.callO rfl rfl (VF.call (sFirst_ok (by simp))) ?_; refine VD.c (.assign rfl) ?_; refine VD.go (VC.seq (VC.text ?_)); refine VO.c (.move rfl) (VO.c (.neq) (VO.go ?_)); refine VC.condD rfl (fun c2 => ?_) (fun c2 => ?_)
  · refine VC.seq (VC.text ?_); refine VO.c (.move rfl) (VO.c (.assign rfl) (VO.go ?_)); refine VC.ret ?_; exact VEnd.one rfl evT (pvI (by rw [permE_s rfl rfl rfl rfl, if_neg c2]))
  refine VC.skip (VC.seq (VC.text ?_)); refine VO.cell (.alloc zt9) ?_; intro ww1; refine VO.setV (cs' := [St ByteArray.empty]) vt9 .v ?_; refine VO.go (VC.seq (VC.text ?_)); refine VO.c (.func) (VO.c (.assign rfl) ?_); refine VO.go (VC.seq (VC.seq (VC.text ?_))); refine VO.c (.fa (.r (.r (.r (.l .o))))) ?_; refine VO.r (.ld vt27) ?_; refine VO.c (.move rfl) ?_; refine VO.callG [(ww1, .var [St ByteArray.empty])] rfl rfl rfl (VFG.call (sWorstG (e := lockE) (nx := fun _ s => s) (γ := fun s => [(ww1, .var [St s])]) (s0 := ByteArray.empty) hl (fun _ => rfl) (fun _ => rfl) (fun s x => VFG.clo sLock_ok))) ?_; rintro _ _ ⟨rfl, rfl⟩; show VO _ _ _ _ _ _ [(ww1, .var [St ((wst lockE (fun _ s => s) ByteArray.empty p.2.2.2.1).2)])] _; refine VO.c (.assign rfl) ?_; refine VO.go (VC.seq (VC.text ?_)); refine VO.c (.move rfl) (VO.c (.neq) (VO.go ?_)); refine VC.condD rfl (fun c7 => ?_) (fun c7 => ?_)
  · refine VC.seq ?_; refine VC.keep [(1, .p y32 p), (6, I (locksE ByteArray.empty p.2.2.2.1))] ⟨rfl, rfl, trivial⟩ ?_; refine VC.text ?_; refine VO.c (.move rfl) (VO.c (.assign rfl) (VO.go ?_)); refine VC.ret ?_; exact VEnd.one rfl evT (pvI (by rw [permE_s rfl rfl rfl rfl, if_pos (by simpa using c2), if_neg (show locksE _ _ ≠ 0 from c7)]))
  refine VC.skip (VC.seq ?_); refine VC.keep [(1, .p y32 p)] ⟨rfl, trivial⟩ ?_; refine VC.text ?_; refine VO.c (.fa (.r (.r (.r (.r .o))))) ?_; refine VO.r (.ld vt29) ?_; refine VO.call rfl rfl (VF.call (sSpan_ok )) ?_; refine VO.c (.assign rfl) (VO.go ?_); refine VC.ret ?_; exact VEnd.one rfl evT (pvI (by rw [permE_s rfl rfl rfl rfl, if_pos (by simpa using c2), if_pos (show locksE _ _ = 0 from Decidable.not_not.1 c7)]))
theorem rPermit_ok {p : ByteArray × ByteArray × ByteArray × (List ByteArray) × (Int × Int)} (hl : p.2.2.2.1.length < 1000000) : VF Tryz.prog OA 16 [.v y31 p] (I (permE p)) := by
  refine VF.enter Tryz.func16 rfl (fun _ _ => rfl) rfl ?_; show VC _ _ _ _ _ [(0, .v y31 p)] [] _; refine VC.seq (VC.text ?_); refine VO.new (.box) ?_; refine VO.c (.assign rfl) ?_; refine VO.go (VC.seq (VC.seq (VC.drawn ?_))); refine VD.c (.fa (.l .o)) ?_; refine VD.r [] (.ld vt9) (.inl rfl) ?_; refine VD.call rfl rfl (VF.call (rNameE_ok )) ?_; refine VD.c (.fa (.r (.l .o))) ?_; refine VD.r [] (.ld vt9) (.inl rfl) ?_; refine VD.call rfl rfl (VF.call (rNameE_ok )) ?_; refine VD.nw [] (VD.c (.fa (.r (.r (.l .o)))) ?_); refine VD.r [] (.ld vt9) (.inl rfl) ?_; refine VD.call rfl rfl (VF.call (rNameE_ok )) ?_; refine VD.new (.lit [whenE (!nameB p.1) 8, whenE (!nameB p.2.1) 8, whenE (!nameB p.2.2.1) 8] el54) ?_; refine VD.callO rfl rfl (VF.call (rFirst_ok (by simp))) ?_; refine VD.c (.assign rfl) ?_; refine VD.go (VC.seq (VC.text ?_)); refine VO.c (.move rfl) (VO.c (.neq) (VO.go ?_)); refine VC.condD rfl (fun c2 => ?_) (fun c2 => ?_)
  · refine VC.seq (VC.text ?_); refine VO.c (.move rfl) (VO.c (.assign rfl) (VO.go ?_)); refine VC.ret ?_; exact VEnd.one rfl evT (pvI (by rw [permE_r rfl rfl rfl, if_neg c2]))
  refine VC.skip (VC.seq (VC.seq (VC.text ?_))); refine VO.c (.fa (.r (.r (.r (.l .o))))) ?_; refine VO.r (.ld vt27) ?_; refine VO.r (.len el27) ?_; refine VO.c (.gtr) (VO.go ?_); refine VC.condD rfl (fun c4 => ?_) (fun c4 => ?_)
  · refine VC.seq (VC.text ?_); refine VO.c (.assign rfl) (VO.go ?_); refine VC.ret ?_; exact VEnd.one rfl evT (pvI (by rw [permE_r rfl rfl rfl, if_pos (by simpa using c2), if_pos c4]))
  have hp : permE p = if locksE ByteArray.empty p.2.2.2.1 = 0 then spanE p.2.2.2.2 else locksE ByteArray.empty p.2.2.2.1 := by rw [permE_r rfl rfl rfl, if_pos (by simpa using c2), if_neg c4]
  refine VC.skip (VC.seq (VC.seq (VC.text ?_))); refine VO.c (.assign rfl) ?_; refine VO.go (VC.block ?_); refine VC.keep [(1, .p y31 p), (4, I ((0 : Nat) : Int))] ⟨rfl, rfl, trivial⟩ ?_; refine VC.loop (I := fun kk ff ss => ∃ (i : Nat), kk = p.2.2.2.1.length - i ∧ ff = [(1, .p y31 p), (4, I ((i : Nat) : Int))] ∧ ss = [] ∧ (i ≤ p.2.2.2.1.length) ∧ (locksE ByteArray.empty p.2.2.2.1 = locksE (prevL p.2.2.2.1 i) (p.2.2.2.1.drop i))) ?_ _ _ _ ⟨0, rfl, rfl, rfl, Nat.zero_le _, (by rfl)⟩; rintro kk ff ss ⟨i, hk0, rfl, rfl, hi, hq⟩; refine VC.seq (VC.seq (VC.text ?_)); refine VO.c (.move rfl) (VO.c (.fa (.r (.r (.r (.l .o))))) ?_); refine VO.r (.ld vt27) ?_; refine VO.r (.len el27) ?_; refine VO.c (.lss) (VO.go ?_); refine VC.condD rfl (fun c7 => ?_) (fun c7 => ?_)
  · refine VC.skip (VC.seq (VC.block (VC.seq (VC.seq (VC.text ?_))))); refine VO.c (.fa (.r (.r (.r (.l .o))))) ?_; refine VO.r (.ld vt27) ?_; refine VO.c (.move rfl) (VO.c (.ix (j := i) rfl rfl el27 (by omega)) ?_); refine VO.r (.ld vt9) ?_; refine VO.call rfl rfl (VF.call (rNameE_ok )) ?_; refine VO.c (.assign rfl) ?_; refine VO.go (VC.seq (VC.text ?_)); refine VO.c (.move rfl) (VO.c (.neq) (VO.go ?_)); refine VC.condD rfl (fun c10 => ?_) (fun c10 => ?_)
    · have hv : locksE ByteArray.empty p.2.2.2.1 = 8 := by rw [hq, locksE_drop (by omega), lockE_name (nameE_name c10), if_neg (by decide)]
      refine VC.seq (VC.text ?_); refine VO.c (.move rfl) (VO.c (.assign rfl) (VO.go ?_)); refine VC.ret ?_; exact VEnd.one rfl evT (pvI (by rw [hp, hv, if_neg (by decide)]; rw [nameE_name c10] <;> rfl))
    have hn := nameE_ok (by simpa using c10); refine VC.skip (VC.seq (VC.drawn ?_)); refine VD.c (.move rfl) (VD.c (.gtr) (VD.c (.move rfl) ?_)); refine VD.splitD (x := 42) rfl (fun g12_2 => ?_) (fun g12_2 => ?_)
    · refine VD.c (.fa (.r (.r (.r (.l .o))))) ?_; refine VD.r [] (.ld vt27) (.inl rfl) ?_; refine VD.nw [] (VD.c (.move rfl) (VD.c (.ix (j := i) rfl rfl el27 (by omega)) ?_)); refine VD.r [] (.ld vt9) (.inl rfl) ?_; refine VD.c (.fa (.r (.r (.r (.l .o))))) ?_; refine VD.r [] (.ld vt27) (.inl rfl) ?_; refine VD.c (.move rfl) (VD.c (.sub rfl rfl (by omega)) (VD.nw [] (VD.c (.ixZ (k := (((i : Nat) : Int) - (1 : Int))) rfl rfl el27 (by omega) (by omega)) ?_))); refine VD.r [] (.ld vt9) (.inl rfl) ?_; refine VD.c (.sleq) (VD.c (.pickT rfl rfl) (VD.go ?_)); refine VC.condB rfl (fun c12 => ?_) (fun c12 => ?_)
      · try simp only [Bool.and_eq_true, Bool.or_eq_true, Bool.and_eq_false_iff, Bool.or_eq_false_iff, Bool.not_eq_true', Bool.not_eq_false', decide_eq_true_eq, decide_eq_false_iff_not] at c12
        refine VC.seq (VC.text ?_); refine VO.c (.assign rfl) (VO.go ?_); refine VC.ret ?_; exact VEnd.one rfl evT (pvI (by rw [hp, hq, locksE_drop (by omega), lockE_ord hn, prevL_int g12_2 (by omega), c12] <;> rfl))
      try simp only [Bool.and_eq_true, Bool.or_eq_true, Bool.and_eq_false_iff, Bool.or_eq_false_iff, Bool.not_eq_true', Bool.not_eq_false', decide_eq_true_eq, decide_eq_false_iff_not] at c12
      have hz : lockE (prevL p.2.2.2.1 i) p.2.2.2.1[i] = 0 := by rw [lockE_ord hn, prevL_int g12_2 (by omega), c12] <;> rfl
      refine VC.skip (VC.text ?_); refine VO.c (.move rfl) (VO.c (.add rfl rfl (by omega)) (VO.c (.assign rfl) ?_)); refine VO.nil ?_; refine ⟨_, [(1, .p y31 p), (4, I (((i + 1) : Nat) : Int))], ?_, ⟨rfl, rfl, trivial⟩, (i + 1), rfl, rfl, rfl, (by omega), (by rw [hq, locksE_drop (by omega), if_pos hz, prevL_succ (by omega)])⟩; omega
    have hz : lockE (prevL p.2.2.2.1 i) p.2.2.2.1[i] = 0 := by rw [lockE_ord hn, if_pos]; rw [show prevL p.2.2.2.1 i = ByteArray.empty from if_pos (by omega)]; exact ltS_full (nameB_size hn)
    refine VD.skip (VD.skip (VD.nw [] (VD.skip ?_))); refine VD.skip (VD.skip (VD.skip (VD.skip ?_))); refine VD.skip (VD.skip (VD.nw [] (VD.skip ?_))); refine VD.skip (VD.skip (VD.c (.pickF rfl rfl) (VD.go ?_))); refine VC.condF rfl ?_; refine VC.skip (VC.text ?_); refine VO.c (.move rfl) (VO.c (.add rfl rfl (by omega)) (VO.c (.assign rfl) ?_)); refine VO.nil ?_; refine ⟨_, [(1, .p y31 p), (4, I (((i + 1) : Nat) : Int))], ?_, ⟨rfl, rfl, trivial⟩, (i + 1), rfl, rfl, rfl, (by omega), (by rw [hq, locksE_drop (by omega), if_pos hz, prevL_succ (by omega)])⟩; omega
  refine VC.exit (VC.seq (VC.text ?_)); refine VO.c (.fa (.r (.r (.r (.r .o))))) ?_; refine VO.r (.ld vt29) ?_; refine VO.call rfl rfl (VF.call (rSpan_ok )) ?_; refine VO.c (.assign rfl) (VO.go ?_); refine VC.ret ?_; exact VEnd.one rfl evT (pvI (by rw [hp, hq, locksE_end (by omega), if_pos rfl]))
end Go.Proofs
namespace Go.Proofs
open Go.Fs
abbrev y22 : Ty := (.sl (.pair .str (.pair .str (.pair .str (.pair (.sl .str) (.pair (.int .i64) (.int .i64)))))))
abbrev y26 : Ty := (.sl (.pair .str (.pair .str (.pair .str (.pair (.sl .str) (.pair (.int .i64) (.int .i64)))))))
abbrev y45 : Ty := (.pair (.pair (.int .i64) (.int .i64)) (.int .i64))
abbrev y46 : Ty := (.sl (.pair (.pair (.int .i64) (.int .i64)) (.int .i64)))
theorem vt31 : ValT Tryz.prog 31 y31 := valT_of (by kernel_rfl)
theorem vt32 : ValT Tryz.prog 32 y32 := valT_of (by kernel_rfl)
theorem vt45 : ValT Tryz.prog 45 y45 := valT_of (by kernel_rfl)
theorem el22 : ElT Tryz.prog 22 31 y31 := elT_of (by kernel_rfl)
theorem el26 : ElT Tryz.prog 26 32 y32 := elT_of (by kernel_rfl)
theorem el46 : ElT Tryz.prog 46 45 y45 := elT_of (by kernel_rfl)
theorem zt32 : ZerT Tryz.prog 32 y32 := zerT_of (z := .agg #[.string ByteArray.empty, .string ByteArray.empty, .string ByteArray.empty, .slice none 0 0, .int .i64 0, .int .i64 0]) (by kernel_rfl) rfl rfl
theorem zt45 : ZerT Tryz.prog 45 y45 := zerT_of (z := .agg #[.int .i64 0, .int .i64 0, .int .i64 0]) (by kernel_rfl) rfl rfl
theorem worstE_drop {α : Type} {f : α → Int} {l : List α} {j : Nat} (hj : j < l.length) : firstE ((l.drop j).map f) = if f l[j] = 0 then firstE ((l.drop (j + 1)).map f) else f l[j] := by
  rw [List.drop_eq_getElem_cons hj] <;> rfl
theorem worstE_end {α : Type} {f : α → Int} {l : List α} {j : Nat} (hj : l.length ≤ j) : firstE ((l.drop j).map f) = 0 := by rw [List.drop_eq_nil_of_le hj] <;> rfl
theorem sWorstP_ok {F : ByteArray × ByteArray × ByteArray × List ByteArray × Int × Int → Int} {l : List (ByteArray × ByteArray × ByteArray × (List ByteArray) × (Int × Int))} {f : PV} (hl : l.length < 1000000) (hf : ∀ x ∈ l, VCall Tryz.prog OA f [.v y32 x] (I (F x))) : VF Tryz.prog OA 57 [.v y26 l, f] (I (firstE (l.map F))) := by
  refine VF.enter Tryz.func57 rfl (fun _ _ => rfl) rfl ?_; show VC _ _ _ _ _ [(0, .v y26 l), (1, f)] [] _; refine VC.seq (VC.text ?_); refine VO.c (.assign rfl) ?_; refine VO.go (VC.seq (VC.seq (VC.text ?_))); refine VO.c (.move rfl) ?_; refine VO.r (.len el26) ?_; refine VO.c (.move rfl) ?_; refine VO.go (VC.block ?_); refine VC.keep [(1, f), (8, .v y26 l), (9, I ((l.length : Nat) : Int)), (10, I ((0 : Nat) : Int))] ⟨rfl, rfl, rfl, rfl, trivial⟩ ?_; refine VC.loop (I := fun kk ff ss => ∃ (j : Nat), kk = l.length - j ∧ ff = [(1, f), (8, .v y26 l), (9, I ((l.length : Nat) : Int)), (10, I ((j : Nat) : Int))] ∧ ss = [] ∧ (j ≤ l.length) ∧ (firstE (l.map F) = firstE ((l.drop j).map F))) ?_ _ _ _ ⟨0, rfl, rfl, rfl, Nat.zero_le _, (by rfl)⟩; rintro kk ff ss ⟨j, hk0, rfl, rfl, hj, hw⟩; refine VC.seq (VC.text ?_); refine VO.c (.lss) ?_; refine VO.go (VC.seq ?_); refine VC.condD rfl (fun c2 => ?_) (fun c2 => ?_)
  · refine VC.skip (VC.seq (VC.block (VC.seq (VC.text ?_)))); refine VO.c (.ix (j := j) rfl rfl el26 (by omega)) ?_; refine VO.r (.ld vt32) ?_; refine VO.cell (.alloc zt32) ?_; intro ww1; refine VO.setV (cs' := [St ((l[j]).1), St ((l[j]).2.1), St ((l[j]).2.2.1), .v (.sl .str) ((l[j]).2.2.2.1), I (((l[j]).2.2.2.2).1), I (((l[j]).2.2.2.2).2)]) vt32 .v ?_; refine VO.shut [(6, .p y32 (l[j]))] (.cons rfl (.var m0 .refl) .nil) ?_; refine VO.go (VC.seq (VC.text ?_)); refine VO.c (.move rfl) ?_; refine VO.r (.ld vt32) ?_; refine VO.call rfl rfl ((hf _ (List.getElem_mem _)) ) ?_; refine VO.c (.assign rfl) ?_; refine VO.go (VC.seq (VC.text ?_)); refine VO.c (.move rfl) (VO.c (.neq) (VO.go ?_)); refine VC.condD rfl (fun c5 => ?_) (fun c5 => ?_)
    · refine VC.seq (VC.text ?_); refine VO.c (.move rfl) (VO.c (.assign rfl) (VO.go ?_)); refine VC.ret ?_; exact VEnd.one rfl evT (pvI (by rw [hw, worstE_drop (by omega), if_neg c5]))
    refine VC.skip (VC.text ?_); refine VO.c (.add rfl rfl (by omega)) (VO.c (.move rfl) ?_); refine VO.nil ?_; refine ⟨_, [(1, f), (8, .v y26 l), (9, I ((l.length : Nat) : Int)), (10, I (((j + 1) : Nat) : Int))], ?_, ⟨rfl, rfl, rfl, rfl, trivial⟩, (j + 1), rfl, rfl, rfl, (by omega), (by rw [hw, worstE_drop (by omega), if_pos (by simpa using c5)])⟩; omega
  refine VC.exit (VC.seq (VC.text ?_)); refine VO.c (.assign rfl) (VO.go ?_); refine VC.ret ?_; exact VEnd.one rfl evT (pvI (by rw [hw, worstE_end (by omega)]))
def PermOk (l : List (ByteArray × ByteArray × ByteArray × List ByteArray × Int × Int)) : Prop := ∀ p ∈ l, p.2.2.2.1.length < 1000000
def permsE (l : List (ByteArray × ByteArray × ByteArray × List ByteArray × Int × Int)) : Int := if 64 < (l.length : Int) then 5 else firstE (l.map permE)
theorem sPermits_ok {l : List (ByteArray × ByteArray × ByteArray × (List ByteArray) × (Int × Int))} (hl : l.length < 1000000) (hp : PermOk l) : VF Tryz.prog OA 39 [.v y26 l] (I (permsE l)) := by
  refine VF.enter Tryz.func39 rfl (fun _ _ => rfl) rfl ?_; show VC _ _ _ _ _ [(0, .v y26 l)] [] _; refine VC.seq (VC.text ?_); refine VO.c (.assign rfl) ?_; refine VO.go (VC.seq (VC.seq (VC.text ?_))); refine VO.c (.move rfl) ?_; refine VO.r (.len el26) ?_; refine VO.c (.gtr) (VO.go ?_); refine VC.condD rfl (fun c1 => ?_) (fun c1 => ?_)
  · refine VC.seq (VC.text ?_); refine VO.c (.assign rfl) (VO.go ?_); refine VC.ret ?_; exact VEnd.one rfl evT (pvI (by rw [permsE, if_pos c1]))
  refine VC.skip (VC.seq (VC.text ?_)); refine VO.c (.move rfl) ?_; refine VO.call rfl rfl (VF.call (sWorstP_ok (F := permE) hl (fun _ m => VF.call (sPermit_ok (hp _ m))))) ?_; refine VO.c (.assign rfl) (VO.go ?_); refine VC.ret ?_; exact VEnd.one rfl evT (pvI (by rw [permsE, if_neg c1]))
theorem rPermits_ok {l : List (ByteArray × ByteArray × ByteArray × (List ByteArray) × (Int × Int))} (hl : l.length < 1000000) (hp : PermOk l) : VF Tryz.prog OA 5 [.v y22 l] (I (permsE l)) := by
  refine VF.enter Tryz.func5 rfl (fun _ _ => rfl) rfl ?_; show VC _ _ _ _ _ [(0, .v y22 l)] [] _; refine VC.seq (VC.text ?_); refine VO.c (.assign rfl) ?_; refine VO.go (VC.seq (VC.seq (VC.text ?_))); refine VO.c (.move rfl) ?_; refine VO.r (.len el22) ?_; refine VO.c (.gtr) (VO.go ?_); refine VC.condD rfl (fun c1 => ?_) (fun c1 => ?_)
  · refine VC.seq (VC.text ?_); refine VO.c (.assign rfl) (VO.go ?_); refine VC.ret ?_; exact VEnd.one rfl evT (pvI (by rw [permsE, if_pos c1]))
  refine VC.skip (VC.seq (VC.seq (VC.text ?_))); refine VO.c (.assign rfl) ?_; refine VO.go (VC.block ?_); refine VC.keep [(0, .v y22 l), (3, I ((0 : Nat) : Int))] ⟨rfl, rfl, trivial⟩ ?_; refine VC.loop (I := fun kk ff ss => ∃ (j : Nat), kk = l.length - j ∧ ff = [(0, .v y22 l), (3, I ((j : Nat) : Int))] ∧ ss = [] ∧ (j ≤ l.length) ∧ (permsE l = firstE ((l.drop j).map permE))) ?_ _ _ _ ⟨0, rfl, rfl, rfl, Nat.zero_le _, (by exact if_neg c1)⟩; rintro kk ff ss ⟨j, hk0, rfl, rfl, hj, hw⟩; refine VC.seq (VC.seq (VC.text ?_)); refine VO.c (.move rfl) (VO.c (.move rfl) ?_); refine VO.r (.len el22) ?_; refine VO.c (.lss) (VO.go ?_); refine VC.condD rfl (fun c4 => ?_) (fun c4 => ?_)
  · refine VC.skip (VC.seq (VC.block (VC.seq (VC.text ?_)))); refine VO.c (.move rfl) (VO.c (.move rfl) (VO.c (.ix (j := j) rfl rfl el22 (by omega)) ?_)); refine VO.r (.ld vt31) ?_; refine VO.call rfl rfl (VF.call (rPermit_ok (hp _ (List.getElem_mem _)))) ?_; refine VO.c (.assign rfl) ?_; refine VO.go (VC.seq (VC.text ?_)); refine VO.c (.move rfl) (VO.c (.neq) (VO.go ?_)); refine VC.condD rfl (fun c7 => ?_) (fun c7 => ?_)
    · refine VC.seq (VC.text ?_); refine VO.c (.move rfl) (VO.c (.assign rfl) (VO.go ?_)); refine VC.ret ?_; exact VEnd.one rfl evT (pvI (by rw [hw, worstE_drop (by omega), if_neg c7]))
    refine VC.skip (VC.text ?_); refine VO.c (.move rfl) (VO.c (.add rfl rfl (by omega)) (VO.c (.assign rfl) ?_)); refine VO.nil ?_; refine ⟨_, [(0, .v y22 l), (3, I (((j + 1) : Nat) : Int))], ?_, ⟨rfl, rfl, trivial⟩, (j + 1), rfl, rfl, rfl, (by omega), (by rw [hw, worstE_drop (by omega), if_pos (by simpa using c7)])⟩; omega
  refine VC.exit (VC.seq (VC.text ?_)); refine VO.c (.assign rfl) (VO.go ?_); refine VC.ret ?_; exact VEnd.one rfl evT (pvI (by rw [hw, worstE_end (by omega)]))
def seasonE (e : Int) (s : (Int × Int) × Int) : Int := firstE [spanE s.1, rangeE s.2 0 16, whenE (decide (s.1.1 < e)) 11]
def ssE (e : Int) (l : List ((Int × Int) × Int)) : Int := (wst seasonE (fun _ s => s.1.2) e l).1
def seasE (l : List ((Int × Int) × Int)) : Int := if 8 < (l.length : Int) then 5 else ssE 0 l
def endP (l : List ((Int × Int) × Int)) (j : Nat) : Int := if j = 0 then 0 else (l.getD (j - 1) ((0, 0), 0)).1.2
theorem endP_succ {l : List ((Int × Int) × Int)} {j : Nat} (hj : j < l.length) : endP l (j + 1) = l[j].1.2 := by simp [endP, hj]
theorem ssE_drop {e : Int} {l : List ((Int × Int) × Int)} {j : Nat} (hj : j < l.length) : ssE e (l.drop j) = if seasonE e l[j] = 0 then ssE l[j].1.2 (l.drop (j + 1)) else seasonE e l[j] := by
  unfold ssE; rw [wst_drop hj]; by_cases h : seasonE e l[j] = 0 <;> simp [h]
theorem ssE_end {e : Int} {l : List ((Int × Int) × Int)} {j : Nat} (hj : l.length ≤ j) : ssE e (l.drop j) = 0 := by
  unfold ssE; rw [wst_end hj]
theorem sSeas_ok {l : List ((Int × Int) × Int)} (hl : l.length < 1000000) : VF Tryz.prog OA 55 [.v y46 l] (I (seasE l)) := by
  refine VF.enter Tryz.func55 rfl (fun _ _ => rfl) rfl ?_; show VC _ _ _ _ _ [(0, .v y46 l)] [] _; refine VC.seq (VC.text ?_); refine VO.c (.assign rfl) ?_; refine VO.go (VC.seq (VC.seq (VC.text ?_))); refine VO.c (.move rfl) ?_; refine VO.r (.len el46) ?_; refine VO.c (.gtr) (VO.go ?_); refine VC.condD rfl (fun c1 => ?_) (fun c1 => ?_)
  · refine VC.seq (VC.text ?_); refine VO.c (.assign rfl) (VO.go ?_); refine VC.ret ?_; exact VEnd.one rfl evT (pvI (by rw [seasE, if_pos c1]))
  refine VC.skip (VC.seq (VC.text ?_)); refine VO.c (.assign rfl) ?_; refine VO.go (VC.seq (VC.seq (VC.text ?_))); refine VO.c (.move rfl) ?_; refine VO.r (.len el46) ?_; refine VO.c (.move rfl) ?_; refine VO.go (VC.block ?_); refine VC.keep [(3, I (endP l 0)), (10, .v y46 l), (11, I ((l.length : Nat) : Int)), (12, I ((0 : Nat) : Int))] ⟨rfl, rfl, rfl, rfl, trivial⟩ ?_; refine VC.loop (I := fun kk ff ss => ∃ (j : Nat), kk = l.length - j ∧ ff = [(3, I (endP l j)), (10, .v y46 l), (11, I ((l.length : Nat) : Int)), (12, I ((j : Nat) : Int))] ∧ ss = [] ∧ (j ≤ l.length) ∧ (seasE l = ssE (endP l j) (l.drop j))) ?_ _ _ _ ⟨0, rfl, rfl, rfl, Nat.zero_le _, (by exact if_neg c1)⟩; rintro kk ff ss ⟨j, hk0, rfl, rfl, hj, hw⟩; refine VC.seq (VC.text ?_); refine VO.c (.lss) ?_; refine VO.go (VC.seq ?_); refine VC.condD rfl (fun c5 => ?_) (fun c5 => ?_)
  · refine VC.skip (VC.seq (VC.block (VC.seq (VC.text ?_)))); refine VO.c (.ix (j := j) rfl rfl el46 (by omega)) ?_; refine VO.r (.ld vt45) ?_; refine VO.cell (.alloc zt45) ?_; intro ww2; refine VO.setV (cs' := [I (((l[j]).1).1), I (((l[j]).1).2), I ((l[j]).2)]) vt45 .v ?_; refine VO.shut [(5, .p y45 (l[j]))] (.cons rfl (.var m0 .refl) .nil) ?_; refine VO.go (VC.seq (VC.seq (VC.drawn ?_))); refine VD.c (.fa (.l .o)) ?_; refine VD.r [] (.ld vt29) (.inl rfl) ?_; refine VD.call rfl rfl (VF.call (sSpan_ok )) ?_; refine VD.c (.fa (.r .o)) ?_; refine VD.r [] (.ld vt3) (.inl rfl) ?_; refine VD.call rfl rfl (VF.call (sWithin_ok )) ?_; refine VD.nw [] (VD.c (.fa (.l .o)) (VD.c (.fa (.l .o)) ?_)); refine VD.r [] (.ld vt3) (.inl rfl) ?_; refine VD.c (.move rfl) (VD.c (.lss) ?_); refine VD.call rfl rfl (VF.call (sWhen_ok )) ?_; refine VD.new (.lit [spanE ((l[j]).1), rangeE ((l[j]).2) (0 : Int) (16 : Int), whenE (decide (((l[j]).1).1 < endP l j)) (11 : Int)] el118) ?_; refine VD.nw [28] ?_; refine VD.callO rfl rfl (VF.call (sFirst_ok (by simp))) ?_; refine VD.c (.assign rfl) ?_; refine VD.go (VC.seq (VC.text ?_)); refine VO.c (.move rfl) (VO.c (.neq) (VO.go ?_)); refine VC.condD rfl (fun c8 => ?_) (fun c8 => ?_)
    · refine VC.seq (VC.text ?_); refine VO.c (.move rfl) (VO.c (.assign rfl) (VO.go ?_)); refine VC.ret ?_; exact VEnd.one rfl evT (pvI (by rw [hw, ssE_drop (by omega)]; exact (if_neg c8).symm))
    refine VC.skip (VC.text ?_); refine VO.c (.fa (.l .o)) (VO.c (.fa (.r .o)) ?_); refine VO.r (.ld vt3) ?_; refine VO.c (.assign rfl) ?_; refine VO.nil (VC.text ?_); refine VO.c (.add rfl rfl (by omega)) (VO.c (.move rfl) ?_); refine VO.nil ?_; refine ⟨_, [(3, I (endP l (j + 1))), (10, .v y46 l), (11, I ((l.length : Nat) : Int)), (12, I (((j + 1) : Nat) : Int))], ?_, ⟨slE rfl (by exact (endP_succ (l := l) (j := j) (by omega)).symm), rfl, rfl, rfl, trivial⟩, (j + 1), rfl, rfl, rfl, (by omega), (by rw [hw, ssE_drop (by omega), if_pos (show seasonE _ _ = 0 from Decidable.not_not.1 c8), endP_succ (l := l) (j := j) (by omega)])⟩; omega
  refine VC.exit (VC.seq (VC.text ?_)); refine VO.c (.assign rfl) (VO.go ?_); refine VC.ret ?_; exact VEnd.one rfl evT (pvI (by rw [hw, ssE_end (by omega)]))
theorem spanE_ok {p : Int × Int} (h : spanE p = 0) : 0 ≤ p.1 ∧ p.1 < p.2 ∧ p.2 ≤ 100000 := by
  unfold spanE at h; by_cases h1 : p.1 < 0 ∨ p.2 ≤ p.1 ∨ 100000 < p.2
  · rw [if_pos h1] at h; cases h
  omega
end Go.Proofs
namespace Go.Proofs
open Go.Fs
abbrev y173 : Ty := (.pair (.int .i64) (.int .i64))
theorem vt173 : ValT Tryz.prog 173 y173 := valT_of (by kernel_rfl)
theorem zt173 : ZerT Tryz.prog 173 y173 := zerT_of (z := .agg #[.int .i64 0, .int .i64 0]) (by kernel_rfl) rfl rfl
theorem bt173 : BldT Tryz.prog 173 y173 [(0, 1), (1, 1)] := bldT_of zt173 rfl (by kernel_rfl)
def idxG {α : Type} (F : α → Bool) : List α → Int → Int
  | [], _ => -1
  | x :: l, k => if F x = true then k else idxG F l (k + 1)
theorem idxG_drop {α : Type} {F : α → Bool} {l : List α} {j : Nat} (hj : j < l.length) : idxG F (l.drop j) (j : Nat) = if F l[j] = true then ((j : Nat) : Int) else idxG F (l.drop (j + 1)) ((j + 1 : Nat) : Int) := by
  rw [List.drop_eq_getElem_cons hj] <;> rfl
theorem idxG_end {α : Type} {F : α → Bool} {l : List α} {j : Nat} {k : Int} (hj : l.length ≤ j) : idxG F (l.drop j) k = -1 := by rw [List.drop_eq_nil_of_le hj] <;> rfl
theorem idxG_any {α : Type} {F : α → Bool} : ∀ {l : List α} {k : Int}, 0 ≤ k → ((0 ≤ idxG F l k) ↔ l.any F = true)
  | [], k, _ => by simp [idxG]
  | x :: l, k, h => by
    unfold idxG; rw [List.any_cons]; by_cases hx : F x = true
    · rw [if_pos hx, hx]; simp [h]
    rw [if_neg hx, idxG_any (l := l) (by omega)]; simp [hx]
theorem any_drop {α : Type} {F : α → Bool} {l : List α} {j : Nat} (hj : j < l.length) : (l.drop j).any F = (F l[j] || (l.drop (j + 1)).any F) := by
  rw [List.drop_eq_getElem_cons hj, List.any_cons]
theorem any_end {α : Type} {F : α → Bool} {l : List α} {j : Nat} (hj : l.length ≤ j) : (l.drop j).any F = false := by rw [List.drop_eq_nil_of_le hj] <;> rfl
theorem zIndexF_ok {F : ByteArray → Bool} {l : List ByteArray} {f : PV} (hl : l.length < 1000000) (hf : ∀ x ∈ l, VCall Tryz.prog OA f [.v .str x] (B (F x))) : VF Tryz.prog OA 168 [.v (.sl .str) l, f] (I (idxG F l 0)) := by
  refine VF.enter Tryz.func168 rfl (fun _ _ => rfl) rfl ?_; show VC _ _ _ _ _ [(0, .v (.sl .str) l), (1, f)] [] _; refine VC.seq (VC.text ?_); refine VO.c (.assign rfl) ?_; refine VO.go (VC.seq (VC.seq (VC.text ?_))); refine VO.c (.move rfl) ?_; refine VO.r (.len el27) ?_; refine VO.c (.move rfl) ?_; refine VO.go (VC.block ?_); refine VC.keep [(0, .v (.sl .str) l), (1, f), (7, I ((l.length : Nat) : Int)), (8, I ((0 : Nat) : Int))] ⟨rfl, rfl, rfl, rfl, trivial⟩ ?_; refine VC.loop (I := fun kk ff ss => ∃ (j : Nat), kk = l.length - j ∧ ff = [(0, .v (.sl .str) l), (1, f), (7, I ((l.length : Nat) : Int)), (8, I ((j : Nat) : Int))] ∧ ss = [] ∧ (j ≤ l.length) ∧ (idxG F l 0 = idxG F (l.drop j) (j : Nat))) ?_ _ _ _ ⟨0, rfl, rfl, rfl, Nat.zero_le _, (by rfl)⟩; rintro kk ff ss ⟨j, hk0, rfl, rfl, hj, hi⟩; refine VC.seq (VC.text ?_); refine VO.c (.lss) ?_; refine VO.go (VC.seq ?_); refine VC.condD rfl (fun c2 => ?_) (fun c2 => ?_)
  · refine VC.skip (VC.seq (VC.block (VC.seq (VC.text ?_)))); refine VO.c (.move rfl) (VO.c (.assign rfl) ?_); refine VO.go (VC.seq (VC.text ?_)); refine VO.c (.move rfl) (VO.c (.move rfl) (VO.c (.move rfl) (VO.c (.ix (j := j) rfl rfl el27 (by omega)) ?_))); refine VO.r (.ld vt9) ?_; refine VO.call rfl rfl ((hf _ (List.getElem_mem _)) ) ?_; refine VO.go ?_; refine VC.condB rfl (fun c4 => ?_) (fun c4 => ?_)
    · refine VC.seq (VC.text ?_); refine VO.c (.move rfl) (VO.c (.assign rfl) (VO.go ?_)); refine VC.ret ?_; exact VEnd.one rfl evT (pvI (by rw [hi, idxG_drop (by omega), if_pos c4]))
    refine VC.skip (VC.text ?_); refine VO.c (.add rfl rfl (by omega)) (VO.c (.move rfl) ?_); refine VO.nil ?_; refine ⟨_, [(0, .v (.sl .str) l), (1, f), (7, I ((l.length : Nat) : Int)), (8, I (((j + 1) : Nat) : Int))], ?_, ⟨rfl, rfl, rfl, rfl, trivial⟩, (j + 1), rfl, rfl, rfl, (by omega), (by rw [hi, idxG_drop (by omega), if_neg (by rw [c4]; decide)])⟩; omega
  refine VC.exit (VC.seq (VC.text ?_)); refine VO.c (.assign rfl) (VO.go ?_); refine VC.ret ?_; exact VEnd.one rfl evT (pvI (by rw [hi, idxG_end (by omega)]))
theorem zContainsF_ok {F : ByteArray → Bool} {l : List ByteArray} {f : PV} (hl : l.length < 1000000) (hf : ∀ x ∈ l, VCall Tryz.prog OA f [.v .str x] (B (F x))) : VF Tryz.prog OA 134 [.v (.sl .str) l, f] (B (l.any F)) := by
  refine VF.enter Tryz.func134 rfl (fun _ _ => rfl) rfl ?_; show VC _ _ _ _ _ [(0, .v (.sl .str) l), (1, f)] [] _; refine VC.seq (VC.text ?_); refine VO.c (.assign rfl) ?_; refine VO.go (VC.seq (VC.text ?_)); refine VO.c (.move rfl) (VO.c (.move rfl) ?_); refine VO.call rfl rfl (VF.call (zIndexF_ok (F := F) hl hf)) ?_; refine VO.c (.geq) (VO.c (.assign rfl) (VO.go ?_)); refine VC.ret ?_; exact VEnd.one rfl evT (pvE (by have h9 := idxG_any (F := F) (l := l) (k := 0) (by omega); cases h8 : l.any F <;> simp_all))
theorem zIndex_ok {l : List ByteArray} {v : ByteArray} (hl : l.length < 1000000) : VF Tryz.prog OA 136 [.v (.sl .str) l, St v] (I (idxG (fun x => decide (v = x)) l 0)) := by
  refine VF.enter Tryz.func136 rfl (fun _ _ => rfl) rfl ?_; show VC _ _ _ _ _ [(0, .v (.sl .str) l), (1, St v)] [] _; refine VC.seq (VC.text ?_); refine VO.c (.assign rfl) ?_; refine VO.go (VC.seq (VC.seq (VC.text ?_))); refine VO.c (.move rfl) ?_; refine VO.r (.len el27) ?_; refine VO.c (.move rfl) ?_; refine VO.go (VC.block ?_); refine VC.keep [(0, .v (.sl .str) l), (1, St v), (7, I ((l.length : Nat) : Int)), (8, I ((0 : Nat) : Int))] ⟨rfl, rfl, rfl, rfl, trivial⟩ ?_; refine VC.loop (I := fun kk ff ss => ∃ (j : Nat), kk = l.length - j ∧ ff = [(0, .v (.sl .str) l), (1, St v), (7, I ((l.length : Nat) : Int)), (8, I ((j : Nat) : Int))] ∧ ss = [] ∧ (j ≤ l.length) ∧ (idxG (fun x => decide (v = x)) l 0 = idxG (fun x => decide (v = x)) (l.drop j) (j : Nat))) ?_ _ _ _ ⟨0, rfl, rfl, rfl, Nat.zero_le _, (by rfl)⟩; rintro kk ff ss ⟨j, hk0, rfl, rfl, hj, hi⟩; refine VC.seq (VC.text ?_); refine VO.c (.lss) ?_; refine VO.go (VC.seq ?_); refine VC.condD rfl (fun c2 => ?_) (fun c2 => ?_)
  · refine VC.skip (VC.seq (VC.block (VC.seq (VC.text ?_)))); refine VO.c (.move rfl) (VO.c (.assign rfl) ?_); refine VO.go (VC.seq (VC.text ?_)); refine VO.c (.move rfl) (VO.c (.move rfl) (VO.c (.move rfl) (VO.c (.ix (j := j) rfl rfl el27 (by omega)) ?_))); refine VO.r (.ld vt9) ?_; refine VO.c (.seql) (VO.go ?_); refine VC.condD rfl (fun c4 => ?_) (fun c4 => ?_)
    · refine VC.seq (VC.text ?_); refine VO.c (.move rfl) (VO.c (.assign rfl) (VO.go ?_)); refine VC.ret ?_; exact VEnd.one rfl evT (pvI (by rw [hi, idxG_drop (by omega), if_pos (by simpa using c4)]))
    refine VC.skip (VC.text ?_); refine VO.c (.add rfl rfl (by omega)) (VO.c (.move rfl) ?_); refine VO.nil ?_; refine ⟨_, [(0, .v (.sl .str) l), (1, St v), (7, I ((l.length : Nat) : Int)), (8, I (((j + 1) : Nat) : Int))], ?_, ⟨rfl, rfl, rfl, rfl, trivial⟩, (j + 1), rfl, rfl, rfl, (by omega), (by rw [hi, idxG_drop (by omega), if_neg (by simpa using c4)])⟩; omega
  refine VC.exit (VC.seq (VC.text ?_)); refine VO.c (.assign rfl) (VO.go ?_); refine VC.ret ?_; exact VEnd.one rfl evT (pvI (by rw [hi, idxG_end (by omega)]))
def hasB (l : List ByteArray) (v : ByteArray) : Bool := l.any fun x => decide (x = v)
theorem hasB_comm {l : List ByteArray} {v : ByteArray} : (l.any fun x => decide (v = x)) = hasB l v := by
  unfold hasB; congr 1; funext x; exact decide_eq_decide.2 ⟨Eq.symm, Eq.symm⟩
theorem zContains_ok {l : List ByteArray} {v : ByteArray} (hl : l.length < 1000000) : VF Tryz.prog OA 102 [.v (.sl .str) l, St v] (B (hasB l v)) := by
  refine VF.enter Tryz.func102 rfl (fun _ _ => rfl) rfl ?_; show VC _ _ _ _ _ [(0, .v (.sl .str) l), (1, St v)] [] _; refine VC.seq (VC.text ?_); refine VO.c (.assign rfl) ?_; refine VO.go (VC.seq (VC.text ?_)); refine VO.c (.move rfl) (VO.c (.move rfl) ?_); refine VO.call rfl rfl (VF.call (zIndex_ok hl)) ?_; refine VO.c (.geq) (VO.c (.assign rfl) (VO.go ?_)); refine VC.ret ?_; exact VEnd.one rfl evT (pvE (by have h9 := idxG_any (F := fun x => decide (v = x)) (l := l) (k := 0) (by omega); rw [hasB_comm] at h9; cases h8 : hasB l v <;> simp_all))
theorem rHas_ok {l : List ByteArray} {s : ByteArray} (hl : l.length < 1000000) : VF Tryz.prog OA 11 [.v (.sl .str) l, St s] (B (hasB l s)) := by
  refine VF.enter Tryz.func11 rfl (fun _ _ => rfl) rfl ?_; show VC _ _ _ _ _ [(0, .v (.sl .str) l), (1, St s)] [] _; refine VC.seq (VC.text ?_); refine VO.c (.assign rfl) ?_; refine VO.go (VC.seq (VC.seq (VC.text ?_))); refine VO.c (.assign rfl) ?_; refine VO.go (VC.block ?_); refine VC.keep [(0, .v (.sl .str) l), (1, St s), (5, I ((0 : Nat) : Int))] ⟨rfl, rfl, rfl, trivial⟩ ?_; refine VC.loop (I := fun kk ff ss => ∃ (j : Nat), kk = l.length - j ∧ ff = [(0, .v (.sl .str) l), (1, St s), (5, I ((j : Nat) : Int))] ∧ ss = [] ∧ (j ≤ l.length) ∧ (hasB l s = hasB (l.drop j) s)) ?_ _ _ _ ⟨0, rfl, rfl, rfl, Nat.zero_le _, (by rfl)⟩; rintro kk ff ss ⟨j, hk0, rfl, rfl, hj, hi⟩; refine VC.seq (VC.seq (VC.text ?_)); refine VO.c (.move rfl) (VO.c (.move rfl) ?_); refine VO.r (.len el27) ?_; refine VO.c (.lss) (VO.go ?_); refine VC.condD rfl (fun c2 => ?_) (fun c2 => ?_)
  · refine VC.skip (VC.seq (VC.block (VC.seq (VC.text ?_)))); refine VO.c (.move rfl) (VO.c (.move rfl) (VO.c (.ix (j := j) rfl rfl el27 (by omega)) ?_)); refine VO.r (.ld vt9) ?_; refine VO.c (.move rfl) (VO.c (.seql) (VO.go ?_)); refine VC.condD rfl (fun c4 => ?_) (fun c4 => ?_)
    · refine VC.seq (VC.text ?_); refine VO.c (.assign rfl) (VO.go ?_); refine VC.ret ?_; exact VEnd.one rfl evT (pvE (by rw [hi, hasB, any_drop (by omega), decide_eq_true c4] <;> rfl))
    refine VC.skip (VC.text ?_); refine VO.c (.move rfl) (VO.c (.add rfl rfl (by omega)) (VO.c (.assign rfl) ?_)); refine VO.nil ?_; refine ⟨_, [(0, .v (.sl .str) l), (1, St s), (5, I (((j + 1) : Nat) : Int))], ?_, ⟨rfl, rfl, rfl, trivial⟩, (j + 1), rfl, rfl, rfl, (by omega), (by rw [hi, hasB, any_drop (by omega), decide_eq_false c4] <;> rfl)⟩; omega
  refine VC.exit (VC.seq (VC.text ?_)); refine VO.c (.assign rfl) (VO.go ?_); refine VC.ret ?_; exact VEnd.one rfl evT (pvE (by rw [hi, hasB, any_end (by omega)]))
def commonB (a b : List ByteArray) : Bool := a.any fun x => hasB b x
abbrev Permit := ByteArray × ByteArray × ByteArray × List ByteArray × Int × Int
theorem sShares1_ok {s : ByteArray} {o : ByteArray × ByteArray × ByteArray × (List ByteArray) × (Int × Int)} (ho : o.2.2.2.1.length < 1000000) : VF Tryz.prog OA 135 [St s, .p y32 o] (B (hasB o.2.2.2.1 s)) := by
  refine VF.enter Tryz.func135 rfl (fun _ _ => rfl) rfl ?_; show VC _ _ _ _ _ [(0, St s), (1, .p y32 o)] [] _; refine VC.seq (VC.text ?_); refine VO.c (.assign rfl) ?_; refine VO.go (VC.seq (VC.text ?_)); refine VO.c (.fa (.r (.r (.r (.l .o))))) ?_; refine VO.r (.ld vt27) ?_; refine VO.c (.move rfl) ?_; refine VO.call rfl rfl (VF.call (zContains_ok ho)) ?_; refine VO.c (.assign rfl) (VO.go ?_); refine VC.ret ?_; exact VEnd.one rfl evT (pvE (by rfl))
theorem sShares_ok {p : ByteArray × ByteArray × ByteArray × (List ByteArray) × (Int × Int)} {o : ByteArray × ByteArray × ByteArray × (List ByteArray) × (Int × Int)} (hp : p.2.2.2.1.length < 1000000) (ho : o.2.2.2.1.length < 1000000) : VF Tryz.prog OA 100 [.v y32 p, .v y32 o] (B (commonB p.2.2.2.1 o.2.2.2.1)) := by
  refine VF.enter Tryz.func100 rfl (fun _ _ => rfl) rfl ?_; show VC _ _ _ _ _ [(0, .v y32 p), (1, .v y32 o)] [] _; refine VC.seq (VC.text ?_); refine VO.new (.box) ?_; refine VO.new (.box) ?_; refine VO.c (.assign rfl) ?_; refine VO.go (VC.seq (VC.text ?_)); refine VO.c (.fa (.r (.r (.r (.l .o))))) ?_; refine VO.r (.ld vt27) ?_; refine VO.c (.func) ?_; refine VO.call rfl rfl (VF.call (zContainsF_ok (F := fun s => hasB o.2.2.2.1 s) hp (fun _ _ => VF.clo (sShares1_ok ho)))) ?_; refine VO.c (.assign rfl) (VO.go ?_); refine VC.ret ?_; exact VEnd.one rfl evT (pvE (by rfl))
theorem sEnds_ok {s : Int × Int} : VF Tryz.prog OA 103 [.v y29 s] (.v y173 s) := by
  refine VF.enter Tryz.func103 rfl (fun _ _ => rfl) rfl ?_; show VC _ _ _ _ _ [(0, .v y29 s)] [] _; refine VC.seq (VC.text ?_); refine VO.new (.box) ?_; refine VO.cell (.alloc zt173) ?_; intro ww1; refine VO.go (VC.seq (VC.text ?_)); refine VO.c (.fa (.l .o)) ?_; refine VO.r (.ld vt3) ?_; refine VO.c (.fa (.r .o)) ?_; refine VO.r (.ld vt3) ?_; refine VO.c (.build (s.1, s.2) bt173) ?_; refine VO.setV (cs' := [I s.1, I s.2]) vt173 .v ?_; refine VO.go ?_; refine VC.ret ?_; exact VEnd.one rfl (.cell (x := (s.1, s.2)) rfl m0 vt173 .refl) (pvE (by first | rfl | simp))
def meetB (a b : Int × Int) : Bool := decide (a = b) || decide (max a.1 b.1 < min a.2 b.2)
theorem arr2 {a b : Int × Int} : ([a.1, a.2] = [b.1, b.2]) ↔ a = b := by
  obtain ⟨a1, a2⟩ := a; obtain ⟨b1, b2⟩ := b; simp
theorem sMeet_ok {a : Int × Int} {b : Int × Int} : VF Tryz.prog OA 98 [.v y29 a, .v y29 b] (B (meetB a b)) := by
  refine VF.enter Tryz.func98 rfl (fun _ _ => rfl) rfl ?_; show VC _ _ _ _ _ [(0, .v y29 a), (1, .v y29 b)] [] _; refine VC.seq (VC.text ?_); refine VO.new (.box) ?_; refine VO.new (.box) ?_; refine VO.c (.assign rfl) ?_; refine VO.go (VC.seq (VC.drawn ?_)); refine VD.r [] (.ld vt29) (.inl rfl) ?_; refine VD.call rfl rfl (VF.call (sEnds_ok )) ?_; refine VD.r [] (.ld vt29) (.inl rfl) ?_; refine VD.call rfl rfl (VF.call (sEnds_ok )) ?_; refine VD.c (.arrCmp (xs := [a.1, a.2]) (ys := [b.1, b.2]) (.inl ⟨rfl, rfl⟩) rfl rfl rfl rfl (by kernel_rfl) rfl) (VD.c (.move rfl) (VD.nw [] ?_)); refine VD.splitD (x := 10) rfl (fun g1_5 => ?_) (fun g1_5 => ?_)
  · refine VD.skip (VD.skip (VD.skip (VD.skip ?_))); refine VD.skip (VD.skip (VD.nw [] (VD.skip ?_))); refine VD.skip (VD.skip (VD.skip (VD.skip ?_))); refine VD.c (.pickT rfl rfl) (VD.c (.assign rfl) (VD.go ?_)); refine VC.ret ?_; exact VEnd.one rfl evT (pvE (by simp only [arr2] at *; simp [meetB, *]))
  refine VD.c (.fa (.l .o)) ?_; refine VD.r [] (.ld vt3) (.inl rfl) ?_; refine VD.c (.fa (.l .o)) ?_; refine VD.r [] (.ld vt3) (.inl rfl) ?_; refine VD.c (.imax) (VD.c (.fa (.r .o)) (VD.nw [] ?_)); refine VD.r [] (.ld vt3) (.inl rfl) ?_; refine VD.c (.fa (.r .o)) ?_; refine VD.r [] (.ld vt3) (.inl rfl) ?_; refine VD.c (.imin) (VD.c (.lss) (VD.c (.pickF rfl rfl) (VD.c (.assign rfl) ?_))); refine VD.go ?_; refine VC.ret ?_; exact VEnd.one rfl evT (pvE (by simp only [arr2] at *; simp [meetB, *]))
theorem sReason1_ok {a : ByteArray × ByteArray × ByteArray × (List ByteArray) × (Int × Int)} {b : ByteArray × ByteArray × ByteArray × (List ByteArray) × (Int × Int)} (ha : a.2.2.2.1.length < 1000000) (hb : b.2.2.2.1.length < 1000000) : VF Tryz.prog OA 96 [.v y32 a, .v y32 b] (B (decide (a.1 = b.1))) := by
  refine VF.enter Tryz.func96 rfl (fun _ _ => rfl) rfl ?_; show VC _ _ _ _ _ [(0, .v y32 a), (1, .v y32 b)] [] _; refine VC.seq (VC.text ?_); refine VO.new (.box) ?_; refine VO.new (.box) ?_; refine VO.c (.assign rfl) ?_; refine VO.go (VC.seq (VC.text ?_)); refine VO.c (.fa (.l .o)) ?_; refine VO.r (.ld vt9) ?_; refine VO.c (.fa (.l .o)) ?_; refine VO.r (.ld vt9) ?_; refine VO.c (.seql) (VO.c (.assign rfl) (VO.go ?_)); refine VC.ret ?_; exact VEnd.one rfl evT (pvE (by rfl))
theorem sReason2_ok {a : ByteArray × ByteArray × ByteArray × (List ByteArray) × (Int × Int)} {b : ByteArray × ByteArray × ByteArray × (List ByteArray) × (Int × Int)} (ha : a.2.2.2.1.length < 1000000) (hb : b.2.2.2.1.length < 1000000) : VF Tryz.prog OA 97 [.v y32 a, .v y32 b] (B (meetB a.2.2.2.2 b.2.2.2.2 && decide (a.2.1 = b.2.1))) := by
  refine VF.enter Tryz.func97 rfl (fun _ _ => rfl) rfl ?_; show VC _ _ _ _ _ [(0, .v y32 a), (1, .v y32 b)] [] _; refine VC.seq (VC.text ?_); refine VO.new (.box) ?_; refine VO.new (.box) ?_; refine VO.c (.assign rfl) ?_; refine VO.go (VC.seq (VC.text ?_)); refine VO.c (.fa (.r (.r (.r (.r .o))))) ?_; refine VO.r (.ld vt29) ?_; refine VO.c (.fa (.r (.r (.r (.r .o))))) ?_; refine VO.r (.ld vt29) ?_; refine VO.call rfl rfl (VF.call (sMeet_ok )) ?_; refine VO.c (.move rfl) ?_; refine VO.cg (r := meetB a.2.2.2.2 b.2.2.2.2) (w := true) [] trivial (fun _ => (.fa (.r (.l .o)))) ?_; refine VO.rg (r := meetB a.2.2.2.2 b.2.2.2.2) (w := true) [(11, .p .str a.2.1)] ⟨rfl, trivial⟩ (fun _ => (.ld vt9)) ?_; refine VO.cg (r := meetB a.2.2.2.2 b.2.2.2.2) (w := true) [] trivial (fun _ => (.fa (.r (.l .o)))) ?_; refine VO.rg (r := meetB a.2.2.2.2 b.2.2.2.2) (w := true) [(13, .p .str b.2.1)] ⟨rfl, trivial⟩ (fun _ => (.ld vt9)) ?_; refine VO.cg (r := meetB a.2.2.2.2 b.2.2.2.2) (w := true) [(12, St a.2.1), (14, St b.2.1)] ⟨rfl, rfl, trivial⟩ (fun _ => (.seql)) ?_; refine VO.c (.and) (VO.c (.assign rfl) (VO.go ?_)); refine VC.ret ?_; exact VEnd.one rfl evT (pvE (by rfl))
theorem sReason3_ok {a : ByteArray × ByteArray × ByteArray × (List ByteArray) × (Int × Int)} {b : ByteArray × ByteArray × ByteArray × (List ByteArray) × (Int × Int)} (ha : a.2.2.2.1.length < 1000000) (hb : b.2.2.2.1.length < 1000000) : VF Tryz.prog OA 99 [.v y32 a, .v y32 b] (B (meetB a.2.2.2.2 b.2.2.2.2 && commonB a.2.2.2.1 b.2.2.2.1)) := by
  refine VF.enter Tryz.func99 rfl (fun _ _ => rfl) rfl ?_; show VC _ _ _ _ _ [(0, .v y32 a), (1, .v y32 b)] [] _; refine VC.seq (VC.text ?_); refine VO.new (.box) ?_; refine VO.new (.box) ?_; refine VO.c (.assign rfl) ?_; refine VO.go (VC.seq (VC.text ?_)); refine VO.c (.fa (.r (.r (.r (.r .o))))) ?_; refine VO.r (.ld vt29) ?_; refine VO.c (.fa (.r (.r (.r (.r .o))))) ?_; refine VO.r (.ld vt29) ?_; refine VO.call rfl rfl (VF.call (sMeet_ok )) ?_; refine VO.c (.move rfl) ?_; refine VO.rg (r := meetB a.2.2.2.2 b.2.2.2.2) (w := true) [] trivial (fun _ => (.ld vt32)) ?_; refine VO.rg (r := meetB a.2.2.2.2 b.2.2.2.2) (w := true) [] trivial (fun _ => (.ld vt32)) ?_; refine VO.callg (r0 := meetB a.2.2.2.2 b.2.2.2.2) (w := true) [(11, .v y32 a), (12, .v y32 b)] ⟨rfl, rfl, trivial⟩ rfl rfl .same .refl rfl (fun _ => VF.call (sShares_ok ha hb)) ?_; refine VO.c (.and) (VO.c (.assign rfl) (VO.go ?_)); refine VC.ret ?_; exact VEnd.one rfl evT (pvE (by rfl))
theorem sReason4_ok {a : ByteArray × ByteArray × ByteArray × (List ByteArray) × (Int × Int)} {b : ByteArray × ByteArray × ByteArray × (List ByteArray) × (Int × Int)} (ha : a.2.2.2.1.length < 1000000) (hb : b.2.2.2.1.length < 1000000) : VF Tryz.prog OA 101 [.v y32 a, .v y32 b] (B (meetB a.2.2.2.2 b.2.2.2.2 && (hasB a.2.2.2.1 b.2.2.1 || hasB b.2.2.2.1 a.2.2.1))) := by
  refine VF.enter Tryz.func101 rfl (fun _ _ => rfl) rfl ?_; show VC _ _ _ _ _ [(0, .v y32 a), (1, .v y32 b)] [] _; refine VC.seq (VC.text ?_); refine VO.new (.box) ?_; refine VO.new (.box) ?_; refine VO.c (.assign rfl) ?_; refine VO.go (VC.seq (VC.text ?_)); refine VO.c (.fa (.r (.r (.r (.r .o))))) ?_; refine VO.r (.ld vt29) ?_; refine VO.c (.fa (.r (.r (.r (.r .o))))) ?_; refine VO.r (.ld vt29) ?_; refine VO.call rfl rfl (VF.call (sMeet_ok )) ?_; refine VO.c (.move rfl) ?_; refine VO.splitB (x := 10) rfl (fun g1_5 => ?_) (fun g1_5 => ?_)
  · refine VO.c (.fa (.r (.r (.r (.l .o))))) ?_; refine VO.r (.ld vt27) ?_; refine VO.c (.fa (.r (.r (.l .o)))) ?_; refine VO.r (.ld vt9) ?_; refine VO.call rfl rfl (VF.call (zContains_ok ha)) ?_; refine VO.c (.move rfl) ?_; refine VO.cg (r := hasB a.2.2.2.1 b.2.2.1) (w := false) [] trivial (fun _ => (.fa (.r (.r (.r (.l .o)))))) ?_; refine VO.rg (r := hasB a.2.2.2.1 b.2.2.1) (w := false) [(17, .p (.sl .str) b.2.2.2.1)] ⟨rfl, trivial⟩ (fun _ => (.ld vt27)) ?_; refine VO.cg (r := hasB a.2.2.2.1 b.2.2.1) (w := false) [] trivial (fun _ => (.fa (.r (.r (.l .o))))) ?_; refine VO.rg (r := hasB a.2.2.2.1 b.2.2.1) (w := false) [(19, .p .str a.2.2.1)] ⟨rfl, trivial⟩ (fun _ => (.ld vt9)) ?_; refine VO.callg (r0 := hasB a.2.2.2.1 b.2.2.1) (w := false) [(18, .v (.sl .str) b.2.2.2.1), (20, St a.2.2.1)] ⟨rfl, rfl, trivial⟩ rfl rfl .same .refl rfl (fun _ => VF.call (zContains_ok hb)) ?_; refine VO.c (.or) (VO.c (.pickT rfl rfl) (VO.c (.assign rfl) (VO.go ?_))); refine VC.ret ?_; exact VEnd.one rfl evT (pvE (by simp [*]))
  refine VO.skip (VO.skip (VO.skip (VO.skip ?_))); refine VO.skip (VO.skip (VO.skip (VO.skip ?_))); refine VO.skip (VO.skip (VO.skip (VO.skip ?_))); refine VO.c (.pickF rfl rfl) (VO.c (.assign rfl) (VO.go ?_)); refine VC.ret ?_; exact VEnd.one rfl evT (pvE (by simp [*]))
def reasonIx (a b : Permit) : Nat :=
  if decide (a.1 = b.1) = true then 0
  else if (meetB a.2.2.2.2 b.2.2.2.2 && decide (a.2.1 = b.2.1)) = true then 1
  else if (meetB a.2.2.2.2 b.2.2.2.2 && commonB a.2.2.2.1 b.2.2.2.1) = true then 2
  else if (meetB a.2.2.2.2 b.2.2.2.2 && (hasB a.2.2.2.1 b.2.2.1 || hasB b.2.2.2.1 a.2.2.1)) = true then 3
  else 4
def nameR : Nat → ByteArray
  | 0 => ⟨#[110, 97, 109, 101]⟩
  | 1 => ⟨#[99, 114, 101, 119]⟩
  | 2 => ⟨#[108, 111, 99, 107]⟩
  | 3 => ⟨#[103, 97, 116, 101]⟩
  | _ => ByteArray.empty
theorem meetB_ok {a b : Int × Int} (ha : spanE a = 0) (hb : spanE b = 0) : meetB a b = !(decide (a.2 ≤ b.1) || decide (b.2 ≤ a.1)) := by
  have h1 := spanE_ok ha; have h2 := spanE_ok hb; unfold meetB; by_cases h3 : a.2 ≤ b.1
  · have e1 : ¬ a = b := fun e => by subst e; omega
    simp [h3, e1]; omega
  by_cases h4 : b.2 ≤ a.1
  · have e1 : ¬ a = b := fun e => by subst e; omega
    simp [h4, e1]; omega
  simp [h3, h4]; by_cases e : a = b
  · exact .inl e
  right; omega
end Go.Proofs
namespace Go.Proofs
open Go.Fs
abbrev y84 : Ty := (.pair .str (.pair .fn (.int .i64)))
abbrev y123 : Ty := (.pair (.pair .str (.pair .fn (.int .i64))) (.pair (.pair .str (.pair .fn (.int .i64))) (.pair (.pair .str (.pair .fn (.int .i64))) (.pair .str (.pair .fn (.int .i64))))))
theorem vt82 : ValT Tryz.prog 82 .fn := valT_of (by kernel_rfl)
theorem vt84 : ValT Tryz.prog 84 y84 := valT_of (by kernel_rfl)
theorem vt123 : ValT Tryz.prog 123 y123 := valT_of (by kernel_rfl)
theorem zt84 : ZerT Tryz.prog 84 y84 := zerT_of (z := .agg #[.string ByteArray.empty, .nilFunc, .int .i64 0]) (by kernel_rfl) rfl rfl
theorem zt123 : ZerT Tryz.prog 123 y123 := zerT_of (z := .agg #[.string ByteArray.empty, .nilFunc, .int .i64 0, .string ByteArray.empty, .nilFunc, .int .i64 0, .string ByteArray.empty, .nilFunc, .int .i64 0, .string ByteArray.empty, .nilFunc, .int .i64 0]) (by kernel_rfl) rfl rfl
theorem bt84 : BldT Tryz.prog 84 y84 [(0, 1), (1, 1), (2, 1)] := bldT_of zt84 rfl (by kernel_rfl)
theorem bt123 : BldT Tryz.prog 123 y123 [(0, 3), (3, 3), (6, 3), (9, 3)] := bldT_of zt123 rfl (by kernel_rfl)
theorem sReasons_ok  : VF Tryz.prog OA 54 [] (.v y123 ((⟨#[110, 97, 109, 101]⟩, some 96, 9), (⟨#[99, 114, 101, 119]⟩, some 97, 15), (⟨#[108, 111, 99, 107]⟩, some 99, 33), (⟨#[103, 97, 116, 101]⟩, some 101, 33))) := by
  refine VF.enter Tryz.func54 rfl (fun _ _ => rfl) rfl ?_; show VC _ _ _ _ _ [] [] _; refine VC.seq (VC.text ?_); refine VO.cell (.alloc zt123) ?_; intro ww1; refine VO.go (VC.seq (VC.text ?_)); refine VO.c (.buildF (⟨#[110, 97, 109, 101]⟩, some 96, (9 : Int)) bt84 (.same (.fn (.same .nil)))) (VO.c (.buildF (⟨#[99, 114, 101, 119]⟩, some 97, (15 : Int)) bt84 (.same (.fn (.same .nil)))) (VO.c (.buildF (⟨#[108, 111, 99, 107]⟩, some 99, (33 : Int)) bt84 (.same (.fn (.same .nil)))) (VO.c (.buildF (⟨#[103, 97, 116, 101]⟩, some 101, (33 : Int)) bt84 (.same (.fn (.same .nil)))) ?_))); refine VO.c (.build ((⟨#[110, 97, 109, 101]⟩, some 96, (9 : Int)), (⟨#[99, 114, 101, 119]⟩, some 97, (15 : Int)), (⟨#[108, 111, 99, 107]⟩, some 99, (33 : Int)), (⟨#[103, 97, 116, 101]⟩, some 101, (33 : Int))) bt123) ?_; refine VO.setV (cs' := [St (⟨#[110, 97, 109, 101]⟩), .v .fn (some 96), I (9 : Int), St (⟨#[99, 114, 101, 119]⟩), .v .fn (some 97), I (15 : Int), St (⟨#[108, 111, 99, 107]⟩), .v .fn (some 99), I (33 : Int), St (⟨#[103, 97, 116, 101]⟩), .v .fn (some 101), I (33 : Int)]) vt123 .v ?_; refine VO.go ?_; refine VC.ret ?_; exact VEnd.one rfl (.cell (x := ((⟨#[110, 97, 109, 101]⟩, some 96, (9 : Int)), (⟨#[99, 114, 101, 119]⟩, some 97, (15 : Int)), (⟨#[108, 111, 99, 107]⟩, some 99, (33 : Int)), (⟨#[103, 97, 116, 101]⟩, some 101, (33 : Int)))) rfl m0 vt123 .refl) (pvE (by first | rfl | simp))
def reasonR : Nat → ByteArray × Option Nat × Int
  | 0 => (⟨#[110, 97, 109, 101]⟩, some 96, 9)
  | 1 => (⟨#[99, 114, 101, 119]⟩, some 97, 15)
  | 2 => (⟨#[108, 111, 99, 107]⟩, some 99, 33)
  | 3 => (⟨#[103, 97, 116, 101]⟩, some 101, 33)
  | _ => (ByteArray.empty, none, 0)
theorem reasonR_name (k : Nat) : (reasonR k).1 = nameR k := by
  rcases k with _ | _ | _ | _ | k <;> rfl
theorem sExcl_ok {a : ByteArray × ByteArray × ByteArray × (List ByteArray) × (Int × Int)} {b : ByteArray × ByteArray × ByteArray × (List ByteArray) × (Int × Int)} (ha : a.2.2.2.1.length < 1000000) (hb : b.2.2.2.1.length < 1000000) : VF Tryz.prog OA 26 [.v y32 a, .v y32 b] (.v y84 (reasonR (reasonIx a b))) := by
  refine VF.enter Tryz.func26 rfl (fun _ _ => rfl) rfl ?_; show VC _ _ _ _ _ [(0, .v y32 a), (1, .v y32 b)] [] _; refine VC.seq (VC.text ?_); refine VO.new (.box) ?_; refine VO.new (.box) ?_; refine VO.cell (.alloc zt84) ?_; intro ww2; refine VO.go (VC.seq (VC.seq (VC.text ?_))); refine VO.call rfl rfl (VF.call (sReasons_ok )) ?_; refine VO.c (.move rfl) ?_; refine VO.go (VC.block ?_); refine VC.unroll ?_; refine VC.seq (VC.text ?_); refine VO.c (.lss) ?_; refine VO.go (VC.seq ?_); refine VC.condT rfl ?_; refine VC.skip (VC.seq (VC.block (VC.seq (VC.text ?_)))); refine VO.c (.ixA 0 (τ' := y84) (dy := (⟨#[110, 97, 109, 101]⟩, some 96, 9)) (.l .o)) ?_; refine VO.cell (.alloc zt84) ?_; intro ww3; refine VO.setV (cs' := [St (⟨#[110, 97, 109, 101]⟩), .v .fn (some 96), I 9]) vt84 .v ?_; refine VO.shut [(6, .p y84 (⟨#[110, 97, 109, 101]⟩, some 96, 9))] (.cons rfl (.var m0 .refl) .nil) ?_; refine VO.go (VC.seq (VC.text ?_)); refine VO.c (.fa (τ' := .fn) (dy := some 96) (.r (.l .o))) ?_; refine VO.r (.ld vt82) ?_; refine VO.r (.ld vt32) ?_; refine VO.r (.ld vt32) ?_; refine VO.callF rfl rfl rfl (VF.call (sReason1_ok ha hb)) ?_; refine VO.go ?_; refine VC.condB rfl (fun c4 => ?_) (fun c4 => ?_)
  · try simp only [Bool.and_eq_true, Bool.or_eq_true, Bool.and_eq_false_iff, Bool.or_eq_false_iff, Bool.not_eq_true', Bool.not_eq_false', decide_eq_true_eq, decide_eq_false_iff_not] at c4
    refine VC.seq (VC.text ?_); refine VO.r (.ld vt84) ?_; refine VO.setV (cs' := [St (⟨#[110, 97, 109, 101]⟩), .v .fn (some 96), I 9]) vt84 .v ?_; refine VO.go ?_; refine VC.ret ?_; exact VEnd.one rfl (.cell (x := (⟨#[110, 97, 109, 101]⟩, some 96, 9)) rfl m0 vt84 .refl) (pvE (by cases h1 : meetB a.2.2.2.2 b.2.2.2.2 <;> simp_all [reasonIx] <;> rfl))
  try simp only [Bool.and_eq_true, Bool.or_eq_true, Bool.and_eq_false_iff, Bool.or_eq_false_iff, Bool.not_eq_true', Bool.not_eq_false', decide_eq_true_eq, decide_eq_false_iff_not] at c4
  refine VC.skip (VC.text ?_); refine VO.c (.add rfl rfl (by decide)) (VO.c (.move rfl) ?_); refine VO.nil ?_; refine VC.unroll ?_; refine VC.seq (VC.text ?_); refine VO.c (.lss) ?_; refine VO.go (VC.seq ?_); refine VC.condT rfl ?_; refine VC.skip (VC.seq (VC.block (VC.seq (VC.text ?_)))); refine VO.c (.ixA 1 (τ' := y84) (dy := (⟨#[99, 114, 101, 119]⟩, some 97, 15)) (.r (.l .o))) ?_; refine VO.cell (.alloc zt84) ?_; intro ww4; refine VO.setV (cs' := [St (⟨#[99, 114, 101, 119]⟩), .v .fn (some 97), I 15]) vt84 .v ?_; refine VO.shut [(6, .p y84 (⟨#[99, 114, 101, 119]⟩, some 97, 15))] (.cons rfl (.var m0 .refl) .nil) ?_; refine VO.go (VC.seq (VC.text ?_)); refine VO.c (.fa (τ' := .fn) (dy := some 97) (.r (.l .o))) ?_; refine VO.r (.ld vt82) ?_; refine VO.r (.ld vt32) ?_; refine VO.r (.ld vt32) ?_; refine VO.callF rfl rfl rfl (VF.call (sReason2_ok ha hb)) ?_; refine VO.go ?_; refine VC.condB rfl (fun c4 => ?_) (fun c4 => ?_)
  · try simp only [Bool.and_eq_true, Bool.or_eq_true, Bool.and_eq_false_iff, Bool.or_eq_false_iff, Bool.not_eq_true', Bool.not_eq_false', decide_eq_true_eq, decide_eq_false_iff_not] at c4
    refine VC.seq (VC.text ?_); refine VO.r (.ld vt84) ?_; refine VO.setV (cs' := [St (⟨#[99, 114, 101, 119]⟩), .v .fn (some 97), I 15]) vt84 .v ?_; refine VO.go ?_; refine VC.ret ?_; exact VEnd.one rfl (.cell (x := (⟨#[99, 114, 101, 119]⟩, some 97, 15)) rfl m0 vt84 .refl) (pvE (by cases h1 : meetB a.2.2.2.2 b.2.2.2.2 <;> simp_all [reasonIx] <;> rfl))
  try simp only [Bool.and_eq_true, Bool.or_eq_true, Bool.and_eq_false_iff, Bool.or_eq_false_iff, Bool.not_eq_true', Bool.not_eq_false', decide_eq_true_eq, decide_eq_false_iff_not] at c4
  refine VC.skip (VC.text ?_); refine VO.c (.add rfl rfl (by decide)) (VO.c (.move rfl) ?_); refine VO.nil ?_; refine VC.unroll ?_; refine VC.seq (VC.text ?_); refine VO.c (.lss) ?_; refine VO.go (VC.seq ?_); refine VC.condT rfl ?_; refine VC.skip (VC.seq (VC.block (VC.seq (VC.text ?_)))); refine VO.c (.ixA 2 (τ' := y84) (dy := (⟨#[108, 111, 99, 107]⟩, some 99, 33)) (.r (.r (.l .o)))) ?_; refine VO.cell (.alloc zt84) ?_; intro ww5; refine VO.setV (cs' := [St (⟨#[108, 111, 99, 107]⟩), .v .fn (some 99), I 33]) vt84 .v ?_; refine VO.shut [(6, .p y84 (⟨#[108, 111, 99, 107]⟩, some 99, 33))] (.cons rfl (.var m0 .refl) .nil) ?_; refine VO.go (VC.seq (VC.text ?_)); refine VO.c (.fa (τ' := .fn) (dy := some 99) (.r (.l .o))) ?_; refine VO.r (.ld vt82) ?_; refine VO.r (.ld vt32) ?_; refine VO.r (.ld vt32) ?_; refine VO.callF rfl rfl rfl (VF.call (sReason3_ok ha hb)) ?_; refine VO.go ?_; refine VC.condB rfl (fun c4 => ?_) (fun c4 => ?_)
  · try simp only [Bool.and_eq_true, Bool.or_eq_true, Bool.and_eq_false_iff, Bool.or_eq_false_iff, Bool.not_eq_true', Bool.not_eq_false', decide_eq_true_eq, decide_eq_false_iff_not] at c4
    refine VC.seq ?_; refine VC.keep [(2, .p y32 a), (3, .p y32 b), (4, .raw ww2), (6, .p y84 (⟨#[108, 111, 99, 107]⟩, some 99, 33)), (7, .v y123 ((⟨#[110, 97, 109, 101]⟩, some 96, 9), (⟨#[99, 114, 101, 119]⟩, some 97, 15), (⟨#[108, 111, 99, 107]⟩, some 99, 33), (⟨#[103, 97, 116, 101]⟩, some 101, 33))), (8, I (2 : Int))] ⟨rfl, rfl, rfl, rfl, rfl, rfl, trivial⟩ ?_; refine VC.text ?_; refine VO.r (.ld vt84) ?_; refine VO.setV (cs' := [St (⟨#[108, 111, 99, 107]⟩), .v .fn (some 99), I 33]) vt84 .v ?_; refine VO.go ?_; refine VC.ret ?_; exact VEnd.one rfl (.cell (x := (⟨#[108, 111, 99, 107]⟩, some 99, 33)) rfl m0 vt84 .refl) (pvE (by cases h1 : meetB a.2.2.2.2 b.2.2.2.2 <;> simp_all [reasonIx] <;> rfl))
  try simp only [Bool.and_eq_true, Bool.or_eq_true, Bool.and_eq_false_iff, Bool.or_eq_false_iff, Bool.not_eq_true', Bool.not_eq_false', decide_eq_true_eq, decide_eq_false_iff_not] at c4
  refine VC.skip ?_; refine VC.keep [(2, .p y32 a), (3, .p y32 b), (4, .raw ww2), (7, .v y123 ((⟨#[110, 97, 109, 101]⟩, some 96, 9), (⟨#[99, 114, 101, 119]⟩, some 97, 15), (⟨#[108, 111, 99, 107]⟩, some 99, 33), (⟨#[103, 97, 116, 101]⟩, some 101, 33))), (8, I (2 : Int))] ⟨rfl, rfl, rfl, rfl, rfl, trivial⟩ ?_; refine VC.text ?_; refine VO.c (.add rfl rfl (by decide)) (VO.c (.move rfl) ?_); refine VO.nil ?_; refine VC.unroll ?_; refine VC.seq (VC.text ?_); refine VO.c (.lss) ?_; refine VO.go (VC.seq ?_); refine VC.condT rfl ?_; refine VC.skip (VC.seq (VC.block (VC.seq (VC.text ?_)))); refine VO.c (.ixA 3 (τ' := y84) (dy := (⟨#[103, 97, 116, 101]⟩, some 101, 33)) (.r (.r (.r .o)))) ?_; refine VO.cell (.alloc zt84) ?_; intro ww6; refine VO.setV (cs' := [St (⟨#[103, 97, 116, 101]⟩), .v .fn (some 101), I 33]) vt84 .v ?_; refine VO.shut [(6, .p y84 (⟨#[103, 97, 116, 101]⟩, some 101, 33))] (.cons rfl (.var m0 .refl) .nil) ?_; refine VO.go (VC.seq (VC.text ?_)); refine VO.c (.fa (τ' := .fn) (dy := some 101) (.r (.l .o))) ?_; refine VO.r (.ld vt82) ?_; refine VO.r (.ld vt32) ?_; refine VO.r (.ld vt32) ?_; refine VO.callF rfl rfl rfl (VF.call (sReason4_ok ha hb)) ?_; refine VO.go ?_; refine VC.condB rfl (fun c4 => ?_) (fun c4 => ?_)
  · try simp only [Bool.and_eq_true, Bool.or_eq_true, Bool.and_eq_false_iff, Bool.or_eq_false_iff, Bool.not_eq_true', Bool.not_eq_false', decide_eq_true_eq, decide_eq_false_iff_not] at c4
    refine VC.seq (VC.text ?_); refine VO.r (.ld vt84) ?_; refine VO.setV (cs' := [St (⟨#[103, 97, 116, 101]⟩), .v .fn (some 101), I 33]) vt84 .v ?_; refine VO.go ?_; refine VC.ret ?_; exact VEnd.one rfl (.cell (x := (⟨#[103, 97, 116, 101]⟩, some 101, 33)) rfl m0 vt84 .refl) (pvE (by cases h1 : meetB a.2.2.2.2 b.2.2.2.2 <;> simp_all [reasonIx] <;> rfl))
  try simp only [Bool.and_eq_true, Bool.or_eq_true, Bool.and_eq_false_iff, Bool.or_eq_false_iff, Bool.not_eq_true', Bool.not_eq_false', decide_eq_true_eq, decide_eq_false_iff_not] at c4
  refine VC.skip (VC.text ?_); refine VO.c (.add rfl rfl (by decide)) (VO.c (.move rfl) ?_); refine VO.nil ?_; refine VC.unroll ?_; refine VC.seq (VC.text ?_); refine VO.c (.lss) ?_; refine VO.go (VC.seq ?_); refine VC.condF rfl ?_; refine VC.exit (VC.seq (VC.text ?_)); refine VO.c (.build (ByteArray.empty, none, 0) bt84) ?_; refine VO.setV (cs' := [St ByteArray.empty, .v .fn none, I 0]) vt84 .v ?_; refine VO.go ?_; refine VC.ret ?_; exact VEnd.one rfl (.cell (x := (ByteArray.empty, none, 0)) rfl m0 vt84 .refl) (pvE (by cases h1 : meetB a.2.2.2.2 b.2.2.2.2 <;> simp_all [reasonIx] <;> rfl))
theorem sExclude_ok {a : ByteArray × ByteArray × ByteArray × (List ByteArray) × (Int × Int)} {b : ByteArray × ByteArray × ByteArray × (List ByteArray) × (Int × Int)} (ha : a.2.2.2.1.length < 1000000) (hb : b.2.2.2.1.length < 1000000) : VF Tryz.prog OA 12 [.v y32 a, .v y32 b] (.tup [St (if firstE [permE a, permE b] = 0 then nameR (reasonIx a b) else ByteArray.empty), I (firstE [permE a, permE b])]) := by
  refine VF.enter Tryz.func12 rfl (fun _ _ => rfl) rfl ?_; show VC _ _ _ _ _ [(0, .v y32 a), (1, .v y32 b)] [] _; refine VC.seq (VC.text ?_); refine VO.new (.box) ?_; refine VO.new (.box) ?_; refine VO.c (.assign rfl) (VO.c (.assign rfl) ?_); refine VO.go (VC.seq (VC.seq (VC.drawn ?_))); refine VD.r [] (.ld vt32) (.inl rfl) ?_; refine VD.call rfl rfl (VF.call (sPermit_ok ha)) ?_; refine VD.r [] (.ld vt32) (.inl rfl) ?_; refine VD.call rfl rfl (VF.call (sPermit_ok hb)) ?_; refine VD.new (.lit [permE a, permE b] el118) ?_; refine VD.callO rfl rfl (VF.call (sFirst_ok (by simp))) ?_; refine VD.nw [11] (VD.c (.assign rfl) ?_); refine VD.go (VC.seq (VC.text ?_)); refine VO.c (.move rfl) (VO.c (.neq) (VO.go ?_)); refine VC.condD rfl (fun c2 => ?_) (fun c2 => ?_)
  · refine VC.seq (VC.text ?_); refine VO.c (.move rfl) (VO.c (.assign rfl) (VO.c (.assign rfl) (VO.go ?_))); refine VC.ret ?_; exact VEnd.two rfl evT evT (pvE (by exact (if_neg c2).symm)) (pvI (by rfl))
  refine VC.skip (VC.seq (VC.text ?_)); refine VO.r (.ld vt32) ?_; refine VO.r (.ld vt32) ?_; refine VO.call rfl rfl (VF.call (sExcl_ok ha hb)) ?_; refine VO.c (.fld (.l .o)) (VO.c (.assign rfl) (VO.c (.assign rfl) (VO.go ?_))); refine VC.ret ?_; exact VEnd.two rfl evT evT (pvE (by rw [if_pos (Decidable.not_not.1 c2), reasonR_name])) (pvI (by exact (Decidable.not_not.1 c2).symm))
end Go.Proofs
namespace Go.Proofs
open Go.Fs
theorem zt31 : ZerT Tryz.prog 31 y31 := zerT_of (z := .agg #[.string ByteArray.empty, .string ByteArray.empty, .string ByteArray.empty, .slice none 0 0, .int .i64 0, .int .i64 0]) (by kernel_rfl) rfl rfl
theorem any_all {α : Type} {F : α → Bool} {l : List α} {j : Nat} (hj : j < l.length) : (l.drop j).all F = (F l[j] && (l.drop (j + 1)).all F) := by
  rw [List.drop_eq_getElem_cons hj, List.all_cons]
def shortW (l : List ByteArray) : Bool := l.all fun w => decide (w.size ≤ 60)
theorem rShort_ok {l : List ByteArray} (hl : l.length < 1000000) : VF Tryz.prog OA 14 [.v (.sl .str) l] (B (shortW l)) := by
  refine VF.enter Tryz.func14 rfl (fun _ _ => rfl) rfl ?_; show VC _ _ _ _ _ [(0, .v (.sl .str) l)] [] _; refine VC.seq (VC.text ?_); refine VO.c (.assign rfl) ?_; refine VO.go (VC.seq (VC.seq (VC.text ?_))); refine VO.c (.assign rfl) ?_; refine VO.go (VC.block ?_); refine VC.keep [(0, .v (.sl .str) l), (3, I ((0 : Nat) : Int))] ⟨rfl, rfl, trivial⟩ ?_; refine VC.loop (I := fun kk ff ss => ∃ (j : Nat), kk = l.length - j ∧ ff = [(0, .v (.sl .str) l), (3, I ((j : Nat) : Int))] ∧ ss = [] ∧ (j ≤ l.length) ∧ (shortW l = shortW (l.drop j))) ?_ _ _ _ ⟨0, rfl, rfl, rfl, Nat.zero_le _, (by rfl)⟩; rintro kk ff ss ⟨j, hk0, rfl, rfl, hj, hi⟩; refine VC.seq (VC.seq (VC.text ?_)); refine VO.c (.move rfl) (VO.c (.move rfl) ?_); refine VO.r (.len el27) ?_; refine VO.c (.lss) (VO.go ?_); refine VC.condD rfl (fun c2 => ?_) (fun c2 => ?_)
  · refine VC.skip (VC.seq (VC.block (VC.seq (VC.text ?_)))); refine VO.c (.move rfl) (VO.c (.move rfl) (VO.c (.ix (j := j) rfl rfl el27 (by omega)) ?_)); refine VO.r (.ld vt9) ?_; refine VO.r (.lenS) ?_; refine VO.c (.gtr) (VO.go ?_); refine VC.condD rfl (fun c4 => ?_) (fun c4 => ?_)
    · refine VC.seq (VC.text ?_); refine VO.c (.assign rfl) (VO.go ?_); refine VC.ret ?_; exact VEnd.one rfl evT (pvE (by rw [hi, shortW, any_all (by omega), decide_eq_false (by omega)] <;> rfl))
    refine VC.skip (VC.text ?_); refine VO.c (.move rfl) (VO.c (.add rfl rfl (by omega)) (VO.c (.assign rfl) ?_)); refine VO.nil ?_; refine ⟨_, [(0, .v (.sl .str) l), (3, I (((j + 1) : Nat) : Int))], ?_, ⟨rfl, rfl, trivial⟩, (j + 1), rfl, rfl, rfl, (by omega), (by rw [hi, shortW, any_all (by omega), decide_eq_true (by omega)] <;> rfl)⟩; omega
  refine VC.exit (VC.seq (VC.text ?_)); refine VO.c (.assign rfl) (VO.go ?_); refine VC.ret ?_; exact VEnd.one rfl evT (pvE (by rw [hi, shortW, List.drop_eq_nil_of_le (by omega)] <;> rfl))
def shortP (p : Permit) : Bool := !((decide (9 < (p.2.2.2.1.length : Int)) || !shortW p.2.2.2.1) || !shortW [p.1, p.2.1, p.2.2.1]) && !(decide (spanE p.2.2.2.2 = 0) && decide (40 < p.2.2.2.2.2 - p.2.2.2.2.1))
def shortPs (l : List Permit) : Bool := decide (l.length ≤ 8 ∨ l.length = 65 ∨ l.length = 64) && l.all shortP
theorem shortPs_f {l : List Permit} {j : Nat} (hj : j < l.length) (h : shortP l[j] = false) : false = shortPs l := by
  symm
  unfold shortPs; rw [Bool.and_eq_false_iff]; right; rw [List.all_eq_false]; exact ⟨l[j], List.getElem_mem _, by rw [h]; decide⟩
theorem rShortP_ok {l : List (ByteArray × ByteArray × ByteArray × (List ByteArray) × (Int × Int))} : VF Tryz.prog OA 4 [.v y22 l] (B (shortPs l)) := by
  refine VF.enter Tryz.func4 rfl (fun _ _ => rfl) rfl ?_; show VC _ _ _ _ _ [(0, .v y22 l)] [] _; refine VC.seq (VC.text ?_); refine VO.c (.assign rfl) ?_; refine VO.go (VC.seq (VC.seq (VC.text ?_))); refine VO.c (.move rfl) ?_; refine VO.r (.len el22) ?_; refine VO.c (.gtr) (VO.c (.move rfl) ?_); refine VO.cg (r := decide ((8 : Int) < ((l.length : Nat) : Int))) (w := true) [] trivial (fun _ => (.move rfl)) ?_; refine VO.rg (r := decide ((8 : Int) < ((l.length : Nat) : Int))) (w := true) [(9, .v y22 l)] ⟨rfl, trivial⟩ (fun _ => (.len el22)) ?_; refine VO.cg (r := decide ((8 : Int) < ((l.length : Nat) : Int))) (w := true) [(10, I ((l.length : Nat) : Int))] ⟨rfl, trivial⟩ (fun _ => (.neq)) ?_; refine VO.c (.and) (VO.c (.move rfl) ?_); refine VO.cg (r := ((decide ((8 : Int) < ((l.length : Nat) : Int))) && (decide (((l.length : Nat) : Int) ≠ (65 : Int))))) (w := true) [] trivial (fun _ => (.move rfl)) ?_; refine VO.rg (r := ((decide ((8 : Int) < ((l.length : Nat) : Int))) && (decide (((l.length : Nat) : Int) ≠ (65 : Int))))) (w := true) [(14, .v y22 l)] ⟨rfl, trivial⟩ (fun _ => (.len el22)) ?_; refine VO.cg (r := ((decide ((8 : Int) < ((l.length : Nat) : Int))) && (decide (((l.length : Nat) : Int) ≠ (65 : Int))))) (w := true) [(15, I ((l.length : Nat) : Int))] ⟨rfl, trivial⟩ (fun _ => (.neq)) ?_; refine VO.c (.and) (VO.go ?_); refine VC.condB rfl (fun c1 => ?_) (fun c1 => ?_)
  · try simp only [Bool.and_eq_true, Bool.or_eq_true, Bool.and_eq_false_iff, Bool.or_eq_false_iff, Bool.not_eq_true', Bool.not_eq_false', decide_eq_true_eq, decide_eq_false_iff_not] at c1
    refine VC.seq (VC.text ?_); refine VO.c (.assign rfl) (VO.go ?_); refine VC.ret ?_; exact VEnd.one rfl evT (pvE (by first | (symm; rw [shortPs, decide_eq_false (by omega)]; rfl) | exact shortPs_f (j := j) (by omega) (by rcases g7_10 with h | h <;> simp [shortP, h]) | exact shortPs_f (j := j) (by omega) (by simp [shortP, *]) | (rw [hf, List.drop_eq_nil_of_le (by omega)]; rfl)))
  try simp only [Bool.and_eq_true, Bool.or_eq_true, Bool.and_eq_false_iff, Bool.or_eq_false_iff, Bool.not_eq_true', Bool.not_eq_false', decide_eq_true_eq, decide_eq_false_iff_not] at c1
  refine VC.skip (VC.seq (VC.seq (VC.text ?_))); refine VO.c (.assign rfl) ?_; refine VO.go (VC.block ?_); refine VC.keep [(0, .v y22 l), (3, I ((0 : Nat) : Int))] ⟨rfl, rfl, trivial⟩ ?_; refine VC.loop (I := fun kk ff ss => ∃ (j : Nat), kk = l.length - j ∧ ff = [(0, .v y22 l), (3, I ((j : Nat) : Int))] ∧ ss = [] ∧ (j ≤ l.length) ∧ (l.length ≤ 8 ∨ l.length = 65 ∨ l.length = 64) ∧ (shortPs l = (l.drop j).all shortP)) ?_ _ _ _ ⟨0, rfl, rfl, rfl, Nat.zero_le _, (by omega), (by rw [shortPs, decide_eq_true (by omega)]; rfl)⟩; rintro kk ff ss ⟨j, hk0, rfl, rfl, hj, h0, hf⟩; refine VC.seq (VC.seq (VC.text ?_)); refine VO.c (.move rfl) (VO.c (.move rfl) ?_); refine VO.r (.len el22) ?_; refine VO.c (.lss) (VO.go ?_); refine VC.condD rfl (fun c4 => ?_) (fun c4 => ?_)
  · refine VC.skip (VC.seq (VC.block (VC.seq (VC.text ?_)))); refine VO.c (.move rfl) (VO.c (.move rfl) (VO.c (.ix (j := j) rfl rfl el22 (by omega)) ?_)); refine VO.r (.ld vt31) ?_; refine VO.cell (.alloc zt31) ?_; intro ww1; refine VO.setV (cs' := [St ((l[j]).1), St ((l[j]).2.1), St ((l[j]).2.2.1), .v (.sl .str) ((l[j]).2.2.2.1), I (((l[j]).2.2.2.2).1), I (((l[j]).2.2.2.2).2)]) vt31 .v ?_; refine VO.shut [(4, .p y31 (l[j]))] (.cons rfl (.var m0 .refl) .nil) ?_; refine VO.go (VC.seq (VC.text ?_)); refine VO.c (.fa (.r (.r (.r (.l .o))))) ?_; refine VO.r (.ld vt27) ?_; refine VO.r (.len el27) ?_; refine VO.c (.gtr) (VO.c (.move rfl) ?_); refine VO.cg (r := decide ((9 : Int) < ((((l[j]).2.2.2.1).length : Nat) : Int))) (w := false) [] trivial (fun _ => (.fa (.r (.r (.r (.l .o)))))) ?_; refine VO.rg (r := decide ((9 : Int) < ((((l[j]).2.2.2.1).length : Nat) : Int))) (w := false) [(33, .p (.sl .str) ((l[j]).2.2.2.1))] ⟨rfl, trivial⟩ (fun _ => (.ld vt27)) ?_; refine VO.callg (r0 := decide ((9 : Int) < ((((l[j]).2.2.2.1).length : Nat) : Int))) (w := false) [(34, .v (.sl .str) ((l[j]).2.2.2.1))] ⟨rfl, trivial⟩ rfl rfl .same .refl rfl (fun hgd => have g7_4 : ¬ ((9 : Int) < ((((l[j]).2.2.2.1).length : Nat) : Int)) := (by simpa using hgd); VF.call (rShort_ok (by omega))) ?_; refine VO.cg (r := decide ((9 : Int) < ((((l[j]).2.2.2.1).length : Nat) : Int))) (w := false) [(35, B (shortW ((l[j]).2.2.2.1)))] ⟨rfl, trivial⟩ (fun _ => (.not)) ?_; refine VO.c (.or) (VO.c (.move rfl) ?_); refine VO.splitB (x := 38) rfl (fun g7_10 => ?_) (fun g7_10 => ?_)
    · try simp only [Bool.and_eq_true, Bool.or_eq_true, Bool.and_eq_false_iff, Bool.or_eq_false_iff, Bool.not_eq_true', Bool.not_eq_false', decide_eq_true_eq, decide_eq_false_iff_not] at g7_10
      refine VO.skip (VO.skip (VO.skip (VO.skip ?_))); refine VO.skip (VO.skip (VO.skip (VO.skip ?_))); refine VO.skip (VO.c (.pickT rfl rfl) (VO.c (.move rfl) (VO.skip ?_))); refine VO.skip (VO.skip (VO.skip (VO.skip ?_))); refine VO.skip (VO.skip (VO.skip (VO.skip ?_))); refine VO.skip (VO.skip (VO.skip (VO.skip ?_))); refine VO.skip (VO.c (.pickT rfl rfl) (VO.go ?_)); refine VC.condT rfl ?_; refine VC.seq ?_; refine VC.keep [(0, .v y22 l), (3, I ((j : Nat) : Int))] ⟨rfl, rfl, trivial⟩ ?_; refine VC.text ?_; refine VO.c (.assign rfl) (VO.go ?_); refine VC.ret ?_; exact VEnd.one rfl evT (pvE (by first | (symm; rw [shortPs, decide_eq_false (by omega)]; rfl) | exact shortPs_f (j := j) (by omega) (by rcases g7_10 with h | h <;> simp [shortP, h]) | exact shortPs_f (j := j) (by omega) (by simp [shortP, *]) | (rw [hf, List.drop_eq_nil_of_le (by omega)]; rfl)))
    try simp only [Bool.and_eq_true, Bool.or_eq_true, Bool.and_eq_false_iff, Bool.or_eq_false_iff, Bool.not_eq_true', Bool.not_eq_false', decide_eq_true_eq, decide_eq_false_iff_not] at g7_10
    refine VO.c (.fa (.l .o)) ?_; refine VO.r (.ld vt9) ?_; refine VO.c (.fa (.r (.l .o))) ?_; refine VO.r (.ld vt9) ?_; refine VO.c (.fa (.r (.r (.l .o)))) ?_; refine VO.r (.ld vt9) ?_; refine VO.new (.lit [(l[j]).1, (l[j]).2.1, (l[j]).2.2.1] el27) ?_; refine VO.call rfl rfl (VF.call (rShort_ok (by simp))) ?_; refine VO.c (.not) (VO.c (.pickF rfl rfl) (VO.c (.move rfl) ?_)); refine VO.splitB (x := 49) rfl (fun g7_21 => ?_) (fun g7_21 => ?_)
    · try simp only [Bool.and_eq_true, Bool.or_eq_true, Bool.and_eq_false_iff, Bool.or_eq_false_iff, Bool.not_eq_true', Bool.not_eq_false', decide_eq_true_eq, decide_eq_false_iff_not] at g7_21
      refine VO.skip (VO.skip (VO.skip (VO.skip ?_))); refine VO.skip (VO.skip (VO.skip (VO.skip ?_))); refine VO.skip (VO.skip (VO.skip (VO.skip ?_))); refine VO.skip (VO.skip (VO.c (.pickT rfl rfl) (VO.go ?_))); refine VC.condT rfl ?_; refine VC.seq ?_; refine VC.keep [(0, .v y22 l), (3, I ((j : Nat) : Int))] ⟨rfl, rfl, trivial⟩ ?_; refine VC.text ?_; refine VO.c (.assign rfl) (VO.go ?_); refine VC.ret ?_; exact VEnd.one rfl evT (pvE (by first | (symm; rw [shortPs, decide_eq_false (by omega)]; rfl) | exact shortPs_f (j := j) (by omega) (by rcases g7_10 with h | h <;> simp [shortP, h]) | exact shortPs_f (j := j) (by omega) (by simp [shortP, *]) | (rw [hf, List.drop_eq_nil_of_le (by omega)]; rfl)))
    try simp only [Bool.and_eq_true, Bool.or_eq_true, Bool.and_eq_false_iff, Bool.or_eq_false_iff, Bool.not_eq_true', Bool.not_eq_false', decide_eq_true_eq, decide_eq_false_iff_not] at g7_21
    refine VO.c (.fa (.r (.r (.r (.r .o))))) ?_; refine VO.r (.ld vt29) ?_; refine VO.call rfl rfl (VF.call (rSpan_ok )) ?_; refine VO.c (.eql) (VO.c (.move rfl) ?_); refine VO.cg (r := decide (spanE ((l[j]).2.2.2.2) = (0 : Int))) (w := true) [] trivial (fun _ => (.fa (.r (.r (.r (.r (k := 0) .o)))))) ?_; refine VO.cg (r := decide (spanE ((l[j]).2.2.2.2) = (0 : Int))) (w := true) [(55, .p y29 ((l[j]).2.2.2.2))] ⟨rfl, trivial⟩ (fun _ => (.fa (.r (k := 0) .o))) ?_; refine VO.rg (r := decide (spanE ((l[j]).2.2.2.2) = (0 : Int))) (w := true) [(56, .p (.int .i64) (((l[j]).2.2.2.2).2))] ⟨rfl, trivial⟩ (fun _ => (.ld vt3)) ?_; refine VO.cg (r := decide (spanE ((l[j]).2.2.2.2) = (0 : Int))) (w := true) [] trivial (fun _ => (.fa (.r (.r (.r (.r (k := 0) .o)))))) ?_; refine VO.cg (r := decide (spanE ((l[j]).2.2.2.2) = (0 : Int))) (w := true) [(58, .p y29 ((l[j]).2.2.2.2))] ⟨rfl, trivial⟩ (fun _ => (.fa (.l .o))) ?_; refine VO.rg (r := decide (spanE ((l[j]).2.2.2.2) = (0 : Int))) (w := true) [(59, .p (.int .i64) (((l[j]).2.2.2.2).1))] ⟨rfl, trivial⟩ (fun _ => (.ld vt3)) ?_; refine VO.cg (r := decide (spanE ((l[j]).2.2.2.2) = (0 : Int))) (w := true) [(57, I (((l[j]).2.2.2.2).2)), (60, I (((l[j]).2.2.2.2).1))] ⟨rfl, rfl, trivial⟩ (fun hgd => have g7_26 : spanE ((l[j]).2.2.2.2) = (0 : Int) := (by simpa using hgd); (.sub rfl rfl (by have h := spanE_ok g7_26; omega))) ?_; refine VO.cg (r := decide (spanE ((l[j]).2.2.2.2) = (0 : Int))) (w := true) [(61, I (((l[j]).2.2.2.2).2 - ((l[j]).2.2.2.2).1))] ⟨rfl, trivial⟩ (fun _ => (.gtr)) ?_; refine VO.c (.and) (VO.c (.pickF rfl rfl) (VO.go ?_)); refine VC.condB rfl (fun c7 => ?_) (fun c7 => ?_)
    · try simp only [Bool.and_eq_true, Bool.or_eq_true, Bool.and_eq_false_iff, Bool.or_eq_false_iff, Bool.not_eq_true', Bool.not_eq_false', decide_eq_true_eq, decide_eq_false_iff_not] at c7
      refine VC.seq ?_; refine VC.keep [(0, .v y22 l), (3, I ((j : Nat) : Int))] ⟨rfl, rfl, trivial⟩ ?_; refine VC.text ?_; refine VO.c (.assign rfl) (VO.go ?_); refine VC.ret ?_; exact VEnd.one rfl evT (pvE (by first | (symm; rw [shortPs, decide_eq_false (by omega)]; rfl) | exact shortPs_f (j := j) (by omega) (by rcases g7_10 with h | h <;> simp [shortP, h]) | exact shortPs_f (j := j) (by omega) (by simp [shortP, *]) | (rw [hf, List.drop_eq_nil_of_le (by omega)]; rfl)))
    try simp only [Bool.and_eq_true, Bool.or_eq_true, Bool.and_eq_false_iff, Bool.or_eq_false_iff, Bool.not_eq_true', Bool.not_eq_false', decide_eq_true_eq, decide_eq_false_iff_not] at c7
    have hz : shortP l[j] = true := by simp_all [shortP]
    refine VC.skip ?_; refine VC.keep [(0, .v y22 l), (3, I ((j : Nat) : Int))] ⟨rfl, rfl, trivial⟩ ?_; refine VC.text ?_; refine VO.c (.move rfl) (VO.c (.add rfl rfl (by omega)) (VO.c (.assign rfl) ?_)); refine VO.nil ?_; refine ⟨_, [(0, .v y22 l), (3, I (((j + 1) : Nat) : Int))], ?_, ⟨rfl, rfl, trivial⟩, (j + 1), rfl, rfl, rfl, (by omega), (by exact h0), (by rw [hf, any_all (by omega), hz] <;> rfl)⟩; omega
  refine VC.exit (VC.seq (VC.text ?_)); refine VO.c (.assign rfl) (VO.go ?_); refine VC.ret ?_; exact VEnd.one rfl evT (pvE (by first | (symm; rw [shortPs, decide_eq_false (by omega)]; rfl) | exact shortPs_f (j := j) (by omega) (by rcases g7_10 with h | h <;> simp [shortP, h]) | exact shortPs_f (j := j) (by omega) (by simp [shortP, *]) | (rw [hf, List.drop_eq_nil_of_le (by omega)]; rfl)))
end Go.Proofs
namespace Go.Proofs
open Go.Fs
def Asc (l : List ByteArray) : Prop := l.Pairwise fun a b => ltS a b = true
theorem asc_nil : Asc [] := List.Pairwise.nil
theorem Asc.tail {a : ByteArray} {l : List ByteArray} (h : Asc (a :: l)) : Asc l := (List.pairwise_cons.1 h).2
theorem Asc.head {a x : ByteArray} {l : List ByteArray} (h : Asc (a :: l)) (hx : x ∈ l) : ltS a x = true := (List.pairwise_cons.1 h).1 x hx
theorem Asc.not {a : ByteArray} {l : List ByteArray} (h : Asc (a :: l)) : a ∉ l := fun hm => by
  have := h.head hm; rw [ltS_irr] at this; cases this
theorem asc_ext : ∀ {a b : List ByteArray}, Asc a → Asc b → (∀ x, x ∈ a ↔ x ∈ b) → a = b
  | [], [], _, _, _ => rfl
  | [], y :: b, _, _, h => by have := (h y).2 List.mem_cons_self; cases this
  | x :: a, [], _, _, h => by have := (h x).1 List.mem_cons_self; cases this
  | x :: a, y :: b, ha, hb, h => by
    have e : x = y := by
      have h1 := (h x).1 List.mem_cons_self; have h2 := (h y).2 List.mem_cons_self; rcases List.mem_cons.1 h1 with h1 | h1
      · exact h1
      rcases List.mem_cons.1 h2 with h2 | h2
      · exact h2.symm
      have h3 := hb.head h1; have h4 := ha.head h2; rw [ltS_asym h3] at h4; cases h4
    subst e; rw [asc_ext ha.tail hb.tail fun z => ?_]; constructor
    · intro hz; rcases List.mem_cons.1 ((h z).1 (List.mem_cons_of_mem _ hz)) with e | hz'
      · subst e; exact absurd hz ha.not
      exact hz'
    intro hz; rcases List.mem_cons.1 ((h z).2 (List.mem_cons_of_mem _ hz)) with e | hz'
    · subst e; exact absurd hz hb.not
    exact hz'
def insE (w : ByteArray) : List ByteArray → List ByteArray
  | [] => [w]
  | x :: l => if ltS w x = true then w :: x :: l else x :: insE w l
def putE (l : List ByteArray) (w : ByteArray) : List ByteArray := if hasB l w = true then l else insE w l
theorem hasB_mem {l : List ByteArray} {w : ByteArray} : hasB l w = true ↔ w ∈ l := by
  unfold hasB; rw [List.any_eq_true]; constructor
  · rintro ⟨x, hx, he⟩; have := of_decide_eq_true he; subst this; exact hx
  exact fun h => ⟨w, h, decide_eq_true rfl⟩
theorem mem_insE {w x : ByteArray} : ∀ {l : List ByteArray}, x ∈ insE w l ↔ x = w ∨ x ∈ l
  | [] => by simp [insE]
  | y :: l => by
    unfold insE; by_cases h : ltS w y = true
    · rw [if_pos h]; simp
    rw [if_neg h, List.mem_cons, mem_insE (l := l), List.mem_cons]; constructor
    · rintro (h | h | h)
      · exact .inr (.inl h)
      · exact .inl h
      exact .inr (.inr h)
    rintro (h | h | h)
    · exact .inr (.inl h)
    · exact .inl h
    exact .inr (.inr h)
theorem insE_asc {w : ByteArray} : ∀ {l : List ByteArray}, Asc l → w ∉ l → Asc (insE w l)
  | [], _, _ => List.pairwise_cons.2 ⟨fun _ h => (by cases h), List.Pairwise.nil⟩
  | y :: l, ha, hw => by
    unfold insE; by_cases h : ltS w y = true
    · rw [if_pos h]; refine List.pairwise_cons.2 ⟨fun x hx => ?_, ha⟩; rcases List.mem_cons.1 hx with e | hx
      · subst e; exact h
      exact ltS_trans h (ha.head hx)
    rw [if_neg h]; refine List.pairwise_cons.2 ⟨fun x hx => ?_, insE_asc ha.tail fun hm => hw (List.mem_cons_of_mem _ hm)⟩; rcases mem_insE.1 hx with e | hx
    · subst e; have h1 := leS_eq (p := x) (q := y); have h2 : ¬ x = y := fun e => hw (e ▸ List.mem_cons_self)
      have h3 : ltS x y = false := by simpa using h
      rw [h3, decide_eq_false h2] at h1; simpa using h1.symm
    exact ha.head hx
theorem putE_asc {l : List ByteArray} {w : ByteArray} (h : Asc l) : Asc (putE l w) := by
  unfold putE; by_cases hh : hasB l w = true
  · rw [if_pos hh]; exact h
  rw [if_neg hh]; exact insE_asc h fun hm => hh (hasB_mem.2 hm)
theorem mem_putE {l : List ByteArray} {w x : ByteArray} : x ∈ putE l w ↔ x = w ∨ x ∈ l := by
  unfold putE; by_cases hh : hasB l w = true
  · rw [if_pos hh]; constructor
    · exact .inr
    rintro (h | h)
    · subst h; exact hasB_mem.1 hh
    exact h
  rw [if_neg hh]; exact mem_insE
def setE (l : List ByteArray) : List ByteArray := l.foldl putE []
theorem foldl_putE : ∀ (l a : List ByteArray), Asc a → Asc (l.foldl putE a) ∧ ∀ x, x ∈ l.foldl putE a ↔ x ∈ l ∨ x ∈ a
  | [], a, ha => ⟨ha, fun x => by simp⟩
  | w :: l, a, ha => by
    obtain ⟨h1, h2⟩ := foldl_putE l (putE a w) (putE_asc ha); refine ⟨h1, fun x => ?_⟩; rw [List.foldl_cons, h2, mem_putE, List.mem_cons]; constructor
    · rintro (h | h | h)
      · exact .inl (.inr h)
      · exact .inl (.inl h)
      exact .inr h
    rintro ((h | h) | h)
    · exact .inr (.inl h)
    · exact .inl h
    exact .inr (.inr h)
theorem setE_asc (l : List ByteArray) : Asc (setE l) := (foldl_putE l [] asc_nil).1
theorem mem_setE {l : List ByteArray} {x : ByteArray} : x ∈ setE l ↔ x ∈ l := by
  have := (foldl_putE l [] asc_nil).2 x; simpa [setE] using this
theorem setE_eq {l m : List ByteArray} (ha : Asc m) (hm : ∀ x, x ∈ m ↔ x ∈ l) : m = setE l := asc_ext ha (setE_asc l) fun x => (hm x).trans mem_setE.symm
theorem asc_len : ∀ {a b : List ByteArray}, Asc a → (∀ x ∈ a, x ∈ b) → a.length ≤ b.length
  | [], _, _, _ => Nat.zero_le _
  | x :: a, b, ha, h => by
    have hx := h x List.mem_cons_self
    have h1 := asc_len (a := a) (b := b.filter fun y => decide (y ≠ x)) ha.tail fun y hy => by
      have hne : y ≠ x := fun e => by subst e; exact ha.not hy
      exact List.mem_filter.2 ⟨h y (List.mem_cons_of_mem _ hy), decide_eq_true hne⟩
    have h2 : (b.filter fun y => decide (y ≠ x)).length < b.length := List.length_filter_lt_length_iff_exists.2 ⟨x, hx, by simp⟩; simp only [List.length_cons]; omega
abbrev Season := (Int × Int) × Int
def hasT (s : Int × Int) (t : Int) : Bool := decide (s.1 ≤ t) && decide (t < s.2)
def atE (l : List Permit) (t : Int) : List Permit := l.filter fun p => hasT p.2.2.2.2 t
def outE (l : List Permit) (t : Int) : List ByteArray := setE ((atE l t).map fun p => p.2.2.1)
def permittedE : List Season → Int → Int
  | [], _ => 0
  | s :: r, t => if hasT s.1 t = true then s.2 else permittedE r t
def overE (l : List Permit) (ss : List Season) (t : Int) : Bool := decide (permittedE ss t < ((outE l t).length : Int))
def overIn (l : List Permit) (ss : List Season) (s : Int × Int) : Prop := ∃ t, s.1 ≤ t ∧ t < s.2 ∧ overE l ss t = true
def ticksE (l : List Permit) (ss : List Season) (s : Int × Int) : List Int := s.1 :: (l.map (fun p => p.2.2.2.2.1) ++ ss.flatMap fun x => [x.1.1, x.1.2])
def crowdedE (l : List Permit) (ss : List Season) (s : Int × Int) : Bool := (ticksE l ss s).any fun t => hasT s t && overE l ss t
theorem last_le {t : Int} : ∀ (l : List Int) (x : Int), x ∈ l → x ≤ t → ∃ y ∈ l, y ≤ t ∧ ∀ z ∈ l, z ≤ t → z ≤ y
  | [], _, hx, _ => by cases hx
  | a :: l, x, hx, hxt => by
    by_cases hl : ∃ z ∈ l, z ≤ t
    · obtain ⟨z, hz, hzt⟩ := hl; obtain ⟨y, h1, h2, h3⟩ := last_le l z hz hzt; by_cases ha : a ≤ t ∧ y ≤ a
      · refine ⟨a, List.mem_cons_self, ha.1, fun w hw hwt => ?_⟩; rcases List.mem_cons.1 hw with e | hw
        · omega
        have := h3 w hw hwt; omega
      refine ⟨y, List.mem_cons_of_mem _ h1, h2, fun w hw hwt => ?_⟩; rcases List.mem_cons.1 hw with e | hw
      · subst e; omega
      exact h3 w hw hwt
    rcases List.mem_cons.1 hx with e | hx
    · subst e; refine ⟨x, List.mem_cons_self, hxt, fun w hw hwt => ?_⟩; rcases List.mem_cons.1 hw with e | hw
      · omega
      exact absurd ⟨w, hw, hwt⟩ hl
    exact absurd ⟨x, hx, hxt⟩ hl
theorem permitted_same {t u : Int} : ∀ (ss : List Season), (∀ x ∈ ss, hasT x.1 t = hasT x.1 u) → permittedE ss t = permittedE ss u
  | [], _ => rfl
  | s :: r, h => by
    unfold permittedE; rw [h s List.mem_cons_self, permitted_same r fun x hx => h x (List.mem_cons_of_mem _ hx)]
theorem out_len {l : List Permit} {t u : Int} (h : ∀ p ∈ l, hasT p.2.2.2.2 t = true → hasT p.2.2.2.2 u = true) : (outE l t).length ≤ (outE l u).length := by
  refine asc_len (setE_asc _) fun x hx => ?_; rw [outE, mem_setE] at hx ⊢; obtain ⟨p, hp, he⟩ := List.mem_map.1 hx; obtain ⟨h1, h2⟩ := List.mem_filter.1 hp; exact List.mem_map.2 ⟨p, List.mem_filter.2 ⟨h1, h p h1 h2⟩, he⟩
theorem hasT_iff {s : Int × Int} {t : Int} : hasT s t = true ↔ s.1 ≤ t ∧ t < s.2 := by simp [hasT]
theorem crowded_iff {l : List Permit} {ss : List Season} {s : Int × Int} : crowdedE l ss s = true ↔ overIn l ss s := by
  unfold crowdedE; rw [List.any_eq_true]; constructor
  · rintro ⟨t, _, h⟩; rw [Bool.and_eq_true] at h; have h1 := hasT_iff.1 h.1; exact ⟨t, h1.1, h1.2, h.2⟩
  rintro ⟨t, h1, h2, h3⟩; obtain ⟨u, u1, u2, u3⟩ := last_le (t := t) (ticksE l ss s) s.1 List.mem_cons_self h1; have hs := u3 s.1 List.mem_cons_self h1; refine ⟨u, u1, ?_⟩; rw [Bool.and_eq_true]; refine ⟨hasT_iff.2 ⟨hs, by omega⟩, ?_⟩; unfold overE at h3 ⊢; have h3 := of_decide_eq_true h3; refine decide_eq_true ?_
  have e1 : permittedE ss t = permittedE ss u := permitted_same ss fun x hx => by
    have m1 : x.1.1 ∈ ticksE l ss s := List.mem_cons_of_mem _ (List.mem_append_right _ (List.mem_flatMap.2 ⟨x, hx, by simp⟩)); have m2 : x.1.2 ∈ ticksE l ss s := List.mem_cons_of_mem _ (List.mem_append_right _ (List.mem_flatMap.2 ⟨x, hx, by simp⟩)); have k1 := u3 _ m1; have k2 := u3 _ m2; unfold hasT; have a1 : decide (x.1.1 ≤ t) = decide (x.1.1 ≤ u) := decide_eq_decide.2 ⟨fun h => k1 h, fun h => by omega⟩
    have a2 : decide (t < x.1.2) = decide (u < x.1.2) := decide_eq_decide.2 ⟨fun h => by omega, fun h => by
      by_cases hh : x.1.2 ≤ t
      · have := k2 hh; omega
      omega⟩
    rw [a1, a2]
  have e2 : (outE l t).length ≤ (outE l u).length := out_len fun p hp hh => by
    have k1 := u3 p.2.2.2.2.1 (List.mem_cons_of_mem _ (List.mem_append_left _ (List.mem_map.2 ⟨p, hp, rfl⟩))); have h4 := hasT_iff.1 hh; exact hasT_iff.2 ⟨k1 h4.1, by omega⟩
  omega
end Go.Proofs
namespace Go.Proofs
open Go.Fs
theorem setE_len : ∀ l : List ByteArray, (setE l).length ≤ l.length := fun l => by
  suffices h : ∀ (l a : List ByteArray), (l.foldl putE a).length ≤ a.length + l.length by simpa [setE] using h l []
  intro l
  induction l with
  | nil => intro a; simp
  | cons w l ih =>
    intro a; have h1 := ih (putE a w)
    have h2 : (putE a w).length ≤ a.length + 1 := by
      unfold putE; by_cases hh : hasB a w = true
      · rw [if_pos hh]; omega
      rw [if_neg hh]
      have : ∀ b : List ByteArray, (insE w b).length = b.length + 1 := fun b => by
        induction b with
        | nil => rfl
        | cons x b ih => unfold insE; split <;> simp [*]
      rw [this]; omega
    simp only [List.foldl_cons, List.length_cons]; omega
theorem outE_len {l : List Permit} {t : Int} : (outE l t).length ≤ l.length := by
  unfold outE; refine Nat.le_trans (setE_len _) ?_; rw [List.length_map]; exact List.length_filter_le _ _
theorem permitted_drop {l : List Season} {j : Nat} {t : Int} (h : j < l.length) : permittedE (l.drop j) t = if hasT l[j].1 t = true then l[j].2 else permittedE (l.drop (j + 1)) t := by
  rw [List.drop_eq_getElem_cons h] <;> rfl
end Go.Proofs
namespace Go.Proofs
open Go.Fs
theorem sHas_ok {s : Int × Int} {t : Int} : VF Tryz.prog OA 86 [.v y29 s, I t] (B (hasT s t)) := by
  refine VF.enter Tryz.func86 rfl (fun _ _ => rfl) rfl ?_; show VC _ _ _ _ _ [(0, .v y29 s), (1, I t)] [] _; refine VC.seq (VC.text ?_); refine VO.new (.box) ?_; refine VO.c (.assign rfl) ?_; refine VO.go (VC.seq (VC.text ?_)); refine VO.c (.fa (.l .o)) ?_; refine VO.r (.ld vt3) ?_; refine VO.c (.move rfl) (VO.c (.leq) (VO.c (.move rfl) ?_)); refine VO.cg (r := decide (s.1 ≤ t)) (w := true) [] trivial (fun _ => (.move rfl)) ?_; refine VO.cg (r := decide (s.1 ≤ t)) (w := true) [] trivial (fun _ => (.fa (.r (k := 0) .o))) ?_; refine VO.rg (r := decide (s.1 ≤ t)) (w := true) [(11, .p (.int .i64) s.2)] ⟨rfl, trivial⟩ (fun _ => (.ld vt3)) ?_; refine VO.cg (r := decide (s.1 ≤ t)) (w := true) [(10, I t), (12, I s.2)] ⟨rfl, rfl, trivial⟩ (fun _ => (.lss)) ?_; refine VO.c (.and) (VO.c (.assign rfl) (VO.go ?_)); refine VC.ret ?_; exact VEnd.one rfl evT (pvE (by rfl))
theorem sPermitted_ok {l : List ((Int × Int) × Int)} {t : Int} (hl : l.length < 1000000) : VF Tryz.prog OA 105 [.v y46 l, I t] (I (permittedE l t)) := by
  refine VF.enter Tryz.func105 rfl (fun _ _ => rfl) rfl ?_; show VC _ _ _ _ _ [(0, .v y46 l), (1, I t)] [] _; refine VC.seq (VC.text ?_); refine VO.c (.assign rfl) ?_; refine VO.go (VC.seq (VC.seq (VC.text ?_))); refine VO.c (.move rfl) ?_; refine VO.r (.len el46) ?_; refine VO.c (.move rfl) ?_; refine VO.go (VC.block ?_); refine VC.keep [(1, I t), (7, .v y46 l), (8, I ((l.length : Nat) : Int)), (9, I ((0 : Nat) : Int))] ⟨rfl, rfl, rfl, rfl, trivial⟩ ?_; refine VC.loop (I := fun kk ff ss => ∃ (j : Nat), kk = l.length - j ∧ ff = [(1, I t), (7, .v y46 l), (8, I ((l.length : Nat) : Int)), (9, I ((j : Nat) : Int))] ∧ ss = [] ∧ (j ≤ l.length) ∧ (permittedE l t = permittedE (l.drop j) t)) ?_ _ _ _ ⟨0, rfl, rfl, rfl, Nat.zero_le _, (by rfl)⟩; rintro kk ff ss ⟨j, hk0, rfl, rfl, hj, hw⟩; refine VC.seq (VC.text ?_); refine VO.c (.lss) ?_; refine VO.go (VC.seq ?_); refine VC.condD rfl (fun c2 => ?_) (fun c2 => ?_)
  · refine VC.skip (VC.seq (VC.block (VC.seq (VC.text ?_)))); refine VO.c (.ix (j := j) rfl rfl el46 (by omega)) ?_; refine VO.r (.ld vt45) ?_; refine VO.cell (.alloc zt45) ?_; intro ww1; refine VO.setV (cs' := [I (((l[j]).1).1), I (((l[j]).1).2), I ((l[j]).2)]) vt45 .v ?_; refine VO.shut [(6, .p y45 (l[j]))] (.cons rfl (.var m0 .refl) .nil) ?_; refine VO.go (VC.seq (VC.text ?_)); refine VO.c (.fa (.l .o)) ?_; refine VO.r (.ld vt29) ?_; refine VO.c (.move rfl) ?_; refine VO.call rfl rfl (VF.call (sHas_ok )) ?_; refine VO.go ?_; refine VC.condB rfl (fun c4 => ?_) (fun c4 => ?_)
    · refine VC.seq (VC.text ?_); refine VO.c (.fa (.r .o)) ?_; refine VO.r (.ld vt3) ?_; refine VO.c (.assign rfl) (VO.go ?_); refine VC.ret ?_; exact VEnd.one rfl evT (pvI (by rw [hw, permitted_drop (by omega), if_pos c4]))
    refine VC.skip (VC.text ?_); refine VO.c (.add rfl rfl (by omega)) (VO.c (.move rfl) ?_); refine VO.nil ?_; refine ⟨_, [(1, I t), (7, .v y46 l), (8, I ((l.length : Nat) : Int)), (9, I (((j + 1) : Nat) : Int))], ?_, ⟨rfl, rfl, rfl, rfl, trivial⟩, (j + 1), rfl, rfl, rfl, (by omega), (by rw [hw, permitted_drop (by omega), if_neg (by rw [c4]; decide)])⟩; omega
  refine VC.exit (VC.seq (VC.text ?_)); refine VO.c (.assign rfl) (VO.go ?_); refine VC.ret ?_; exact VEnd.one rfl evT (pvI (by rw [hw, List.drop_eq_nil_of_le (by omega)] <;> rfl))
end Go.Proofs
namespace Go.Proofs
open Go.Fs
def clashE (l : List Permit) (p : Permit) : Int := firstE (l.map fun o => (reasonR (reasonIx o p)).2.2)
def issueE (l : List Permit) (ss : List Season) (p : Permit) : Int := if clashE l p ≠ 0 then clashE l p else if crowdedE (l ++ [p]) ss p.2.2.2.2 = true then 21 else 0
end Go.Proofs
namespace Go.Fs
variable {P : Program} {h : Heap} {S : List Nat} {σ : Sto} {t : Tr} {fl : VL} {x : Operand} {T e : TypeId} {τ : Ty}
theorem FreshO.alloc0 (hZ : ZerT P e (.sl τ)) : FreshO P fl (.alloc e) (.var [.raw (.slice none 0 0)]) :=
  ⟨rfl, fun h S t hs hok hS => by
    obtain ⟨z, h1, h2, h3⟩ := hZ.zero; obtain ⟨z1, z2⟩ := zero_rep h S (.sl τ); obtain ⟨a1, a2⟩ := af_cells (u := z) (by rw [h2]; exact z2); refine ⟨fun k => .pointer (some ⟨k, 0, none⟩), .row e z.cells.toList true false, fun _ => rfl, fun S' hN hm => ?_, fun H _ _ _ _ _ => ?_⟩
    · exact ⟨h.next, e, _, rfl, hm, by rw [Heap.get_push, if_pos rfl], by rw [h2]; exact ⟨_, _, rfl, rfl, rfl⟩, a2⟩
    show (match (P.info? e).bind (·.zero) with | some z => if af z then fsBox e z H else none | none => none) = _; rw [h1]; simp only [a1, if_true]; unfold fsBox
    rw [if_pos a2]⟩
def arr2B (P : Program) (T e : TypeId) : Bool := match P.underlying T with
  | some (.array n e') => Nat.beq n 2 && Nat.beq e' e && (match P.info? e with | some i => Nat.beq i.size 1 | none => false)
  | _ => false
theorem ReadV.arr2 {k : IntKind} {a c : Int} (e : TypeId) (hb : arr2B P T e = true := by kernel_rfl) (hx : evV fl x = some (.p (.pair (.int k) (.int k)) (a, c)) := by rfl) : ReadV P fl σ (.slice T x none none none) (.v (.sl (.int k)) [a, c]) :=
  ⟨rfl, fun h S t hs _ => by
    have hp : RepP h S (.pair (.int k) (.int k)) (evalO t x) (a, c) := hs x (by simp [Op.operands]) _ hx; obtain ⟨b, o, e', rs, own, more, h1, h2, h3, h4, h5⟩ := hp; have h4 : o + 2 ≤ rs.length := h4; have h5 : RepC h S (.int k) (((rs.drop o).take 2).take 1) a ∧ RepC h S (.int k) (((rs.drop o).take 2).drop 1) c := h5; refine ⟨.slice (some ⟨b, o, none⟩) 2 1, SlV.rep (.inr ⟨b, o, 1, rfl, .inr ⟨h2, e', rs, own, more, h3, h4, fun i hi => ?_⟩⟩), fun H _ _ _ _ _ _ => ?_⟩
    · have hi : i < 2 := hi; rcases i with _ | _ | i
      · have := h5.1; rw [List.take_take] at this; exact this
      · have := h5.2; rw [List.drop_take, List.drop_drop] at this; exact this
      omega
    show (fsSlice P T (evalO t x) none none none H).map _ = _; rw [h1]; unfold arr2B at hb; split at hb
    · rename_i n e2 hu; obtain ⟨b1, b2⟩ := band hb; obtain ⟨b3, b4⟩ := band b1; obtain rfl := nbeq b3; obtain rfl := nbeq b4; split at b2
      · rename_i i hi; have hsz := nbeq b2; unfold fsSlice; simp only [hu, hi, boundOf, Nat.zero_mul, Nat.add_zero]; rfl
      cases b2
    cases hb⟩
end Go.Fs
