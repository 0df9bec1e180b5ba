/- Parts of the proof: an evaluator of the model, what it is sound for, and contracts of functions. No condition. -/
import Derived.Test.YtligdjefbiebjaaGreatDoorP5
import Derived.Sort.Walk0
set_option linter.all false
namespace Go.Proofs
open Go.Fs
set_option linter.unusedVariables false
abbrev y29 : Ty := (.pair (.int .i64) (.int .i64))
theorem vt9 : ValT Tryz.prog 9 .str := valT_of (by kernel_rfl)
theorem vt29 : ValT Tryz.prog 29 y29 := valT_of (by kernel_rfl)
theorem el27 : ElT Tryz.prog 27 9 .str := elT_of (by kernel_rfl)
theorem gWhen_ok {c : Bool} {e : Int} : VF Tryz.prog OA 189 [B c, I e] (I (whenE c e)) := by
  refine VF.enter Tryz.func189 rfl (fun _ _ => rfl) rfl ?_
  show VC _ _ _ _ _ [(0, B c), (1, I e)] [] _
  refine VC.seq (VC.text ?_)
  refine VO.c (.assign rfl) ?_
  refine VO.go (VC.seq (VC.seq (VC.text ?_)))
  refine VO.c (.move rfl) ?_
  refine VO.go ?_
  refine VC.condB rfl (fun c1 => ?_) (fun c1 => ?_)
  · subst c1
    refine VC.seq (VC.text ?_)
    refine VO.c (.move rfl) ?_
    refine VO.c (.assign rfl) ?_
    refine VO.go ?_
    refine VC.ret ?_
    exact VEnd.one rfl evT (pvI (by rfl))
  subst c1
  refine VC.skip (VC.seq (VC.text ?_))
  refine VO.c (.assign rfl) ?_
  refine VO.go ?_
  refine VC.ret ?_
  exact VEnd.one rfl evT (pvI (by rfl))
def spanE (p : Int × Int) : Int := if p.1 < 0 ∨ p.2 ≤ p.1 ∨ 100000 < p.2 then 14 else 0
theorem whenE_span {p : Int × Int} : whenE (decide (p.1 < 0) || decide (p.2 ≤ p.1) || decide (100000 < p.2)) 14 = spanE p := by
  unfold whenE spanE
  by_cases h1 : p.1 < 0 <;> by_cases h2 : p.2 ≤ p.1 <;> by_cases h3 : 100000 < p.2 <;> simp [h1, h2, h3]
theorem gSpan_ok {p : Int × Int} : VF Tryz.prog OA 154 [.v y29 p] (I (spanE p)) := by
  refine VF.enter Tryz.func154 rfl (fun _ _ => rfl) rfl ?_
  show VC _ _ _ _ _ [(0, .v y29 p)] [] _
  refine VC.seq (VC.text ?_)
  refine VO.new (.box) ?_
  refine VO.c (.assign rfl) ?_
  refine VO.go (VC.seq (VC.text ?_))
  refine VO.c (.fa (.l .o)) ?_
  refine VO.r (.ld vt3) ?_
  refine VO.c (.lss) ?_
  refine VO.c (.move rfl) ?_
  refine VO.cg (r := decide (p.1 < (0 : Int))) (w := false) [] trivial (fun hgd => have g1_3 : ¬ (p.1 < (0 : Int)) := (by simpa using hgd); (.fa (.l .o))) ?_
  refine VO.rg (r := decide (p.1 < (0 : Int))) (w := false) [(7, .p (.int .i64) p.1)] ⟨rfl, trivial⟩ (fun hgd => have g1_3 : ¬ (p.1 < (0 : Int)) := (by simpa using hgd); (.ld vt3)) ?_
  refine VO.cg (r := decide (p.1 < (0 : Int))) (w := false) [] trivial (fun hgd => have g1_3 : ¬ (p.1 < (0 : Int)) := (by simpa using hgd); (.fa (.r .o))) ?_
  refine VO.rg (r := decide (p.1 < (0 : Int))) (w := false) [(9, .p (.int .i64) p.2)] ⟨rfl, trivial⟩ (fun hgd => have g1_3 : ¬ (p.1 < (0 : Int)) := (by simpa using hgd); (.ld vt3)) ?_
  refine VO.cg (r := decide (p.1 < (0 : Int))) (w := false) [(8, I p.1), (10, I p.2)] ⟨rfl, rfl, trivial⟩ (fun hgd => have g1_3 : ¬ (p.1 < (0 : Int)) := (by simpa using hgd); (.geq)) ?_
  refine VO.c (.or) ?_
  refine VO.c (.move rfl) ?_
  refine VO.cg (r := ((decide (p.1 < (0 : Int))) || (decide (p.2 ≤ p.1)))) (w := false) [] trivial (fun hgd => have g1_10 : ((decide (p.1 < (0 : Int))) || (decide (p.2 ≤ p.1))) = false := (by simpa using hgd); (.fa (.r .o))) ?_
  refine VO.rg (r := ((decide (p.1 < (0 : Int))) || (decide (p.2 ≤ p.1)))) (w := false) [(14, .p (.int .i64) p.2)] ⟨rfl, trivial⟩ (fun hgd => have g1_10 : ((decide (p.1 < (0 : Int))) || (decide (p.2 ≤ p.1))) = false := (by simpa using hgd); (.ld vt3)) ?_
  refine VO.cg (r := ((decide (p.1 < (0 : Int))) || (decide (p.2 ≤ p.1)))) (w := false) [(15, I p.2)] ⟨rfl, trivial⟩ (fun hgd => have g1_10 : ((decide (p.1 < (0 : Int))) || (decide (p.2 ≤ p.1))) = false := (by simpa using hgd); (.gtr)) ?_
  refine VO.c (.or) ?_
  refine VO.call rfl rfl (VF.call (gWhen_ok )) ?_
  refine VO.c (.assign rfl) ?_
  refine VO.go ?_
  refine VC.ret ?_
  exact VEnd.one rfl evT (pvI (by exact whenE_span))
theorem sSpan_ok {p : Int × Int} : VF Tryz.prog OA 97 [.v y29 p] (I (spanE p)) := by
  refine VF.enter Tryz.func97 rfl (fun _ _ => rfl) rfl ?_
  show VC _ _ _ _ _ [(0, .v y29 p)] [] _
  refine VC.seq (VC.text ?_)
  refine VO.new (.box) ?_
  refine VO.c (.assign rfl) ?_
  refine VO.go (VC.seq (VC.text ?_))
  refine VO.r (.ld vt29) ?_
  refine VO.call rfl rfl (VF.call (gSpan_ok )) ?_
  refine VO.c (.neq) ?_
  refine VO.call rfl rfl (VF.call (sWhen_ok )) ?_
  refine VO.c (.assign rfl) ?_
  refine VO.go ?_
  refine VC.ret ?_
  exact VEnd.one rfl evT (pvI (by unfold whenE spanE; split <;> simp))
theorem rSpan_ok {p : Int × Int} : VF Tryz.prog OA 82 [.v y29 p] (I (spanE p)) := by
  refine VF.enter Tryz.func82 rfl (fun _ _ => rfl) rfl ?_
  show VC _ _ _ _ _ [(0, .v y29 p)] [] _
  refine VC.seq (VC.text ?_)
  refine VO.new (.box) ?_
  refine VO.c (.assign rfl) ?_
  refine VO.go (VC.seq (VC.seq (VC.text ?_)))
  refine VO.c (.fa (.l .o)) ?_
  refine VO.r (.ld vt3) ?_
  refine VO.c (.lss) ?_
  refine VO.c (.move rfl) ?_
  refine VO.cg (r := decide (p.1 < (0 : Int))) (w := false) [] trivial (fun hgd => have g1_3 : ¬ (p.1 < (0 : Int)) := (by simpa using hgd); (.fa (.r .o))) ?_
  refine VO.rg (r := decide (p.1 < (0 : Int))) (w := false) [(7, .p (.int .i64) p.2)] ⟨rfl, trivial⟩ (fun hgd => have g1_3 : ¬ (p.1 < (0 : Int)) := (by simpa using hgd); (.ld vt3)) ?_
  refine VO.cg (r := decide (p.1 < (0 : Int))) (w := false) [] trivial (fun hgd => have g1_3 : ¬ (p.1 < (0 : Int)) := (by simpa using hgd); (.fa (.l .o))) ?_
  refine VO.rg (r := decide (p.1 < (0 : Int))) (w := false) [(9, .p (.int .i64) p.1)] ⟨rfl, trivial⟩ (fun hgd => have g1_3 : ¬ (p.1 < (0 : Int)) := (by simpa using hgd); (.ld vt3)) ?_
  refine VO.cg (r := decide (p.1 < (0 : Int))) (w := false) [(8, I p.2), (10, I p.1)] ⟨rfl, rfl, trivial⟩ (fun hgd => have g1_3 : ¬ (p.1 < (0 : Int)) := (by simpa using hgd); (.leq)) ?_
  refine VO.c (.or) ?_
  refine VO.c (.move rfl) ?_
  refine VO.cg (r := ((decide (p.1 < (0 : Int))) || (decide (p.2 ≤ p.1)))) (w := false) [] trivial (fun hgd => have g1_10 : ((decide (p.1 < (0 : Int))) || (decide (p.2 ≤ p.1))) = false := (by simpa using hgd); (.fa (.r .o))) ?_
  refine VO.rg (r := ((decide (p.1 < (0 : Int))) || (decide (p.2 ≤ p.1)))) (w := false) [(14, .p (.int .i64) p.2)] ⟨rfl, trivial⟩ (fun hgd => have g1_10 : ((decide (p.1 < (0 : Int))) || (decide (p.2 ≤ p.1))) = false := (by simpa using hgd); (.ld vt3)) ?_
  refine VO.cg (r := ((decide (p.1 < (0 : Int))) || (decide (p.2 ≤ p.1)))) (w := false) [(15, I p.2)] ⟨rfl, trivial⟩ (fun hgd => have g1_10 : ((decide (p.1 < (0 : Int))) || (decide (p.2 ≤ p.1))) = false := (by simpa using hgd); (.gtr)) ?_
  refine VO.c (.or) ?_
  refine VO.go ?_
  refine VC.condB rfl (fun c1 => ?_) (fun c1 => ?_)
  · try simp only [Bool.and_eq_true, Bool.or_eq_true, Bool.and_eq_false_iff, Bool.or_eq_false_iff, Bool.not_eq_true', Bool.not_eq_false', decide_eq_true_eq, decide_eq_false_iff_not] at c1
    refine VC.seq (VC.text ?_)
    refine VO.c (.assign rfl) ?_
    refine VO.go ?_
    refine VC.ret ?_
    exact VEnd.one rfl evT (pvI (by simp only [spanE, ← Bool.decide_or, decide_eq_true_eq, decide_eq_false_iff_not, Bool.or_eq_true, Bool.or_eq_false_iff] at *; first | rw [if_pos (by omega)] | rw [if_neg (by omega)]))
  try simp only [Bool.and_eq_true, Bool.or_eq_true, Bool.and_eq_false_iff, Bool.or_eq_false_iff, Bool.not_eq_true', Bool.not_eq_false', decide_eq_true_eq, decide_eq_false_iff_not] at c1
  refine VC.skip (VC.seq (VC.text ?_))
  refine VO.c (.assign rfl) ?_
  refine VO.go ?_
  refine VC.ret ?_
  exact VEnd.one rfl evT (pvI (by simp only [spanE, ← Bool.decide_or, decide_eq_true_eq, decide_eq_false_iff_not, Bool.or_eq_true, Bool.or_eq_false_iff] at *; first | rw [if_pos (by omega)] | rw [if_neg (by omega)]))
theorem sNm_ok {s : ByteArray} : VF Tryz.prog OA 93 [St s] (I (whenE (!nameB s) 8)) := by
  refine VF.enter Tryz.func93 rfl (fun _ _ => rfl) rfl ?_
  show VC _ _ _ _ _ [(0, St s)] [] _
  refine VC.seq (VC.text ?_)
  refine VO.c (.assign rfl) ?_
  refine VO.go (VC.seq (VC.text ?_))
  refine VO.c (.move rfl) ?_
  refine VO.call rfl rfl (VF.call (gName_ok )) ?_
  refine VO.c (.not) ?_
  refine VO.call rfl rfl (VF.call (sWhen_ok )) ?_
  refine VO.c (.assign rfl) ?_
  refine VO.go ?_
  refine VC.ret ?_
  exact VEnd.one rfl evT (pvI (by rfl))
def wst {α β : Type} (e : β → α → Int) (nx : β → α → β) : β → List α → Int × β
  | s, [] => (0, s)
  | s, x :: r => if e s x = 0 then wst e nx (nx s x) r else (e s x, nx s x)
theorem wst_drop {α β : Type} {e : β → α → Int} {nx : β → α → β} {s : β} {l : List α} {j : Nat} (hj : j < l.length) : wst e nx s (l.drop j) = if e s l[j] = 0 then wst e nx (nx s l[j]) (l.drop (j + 1)) else (e s l[j], nx s l[j]) := by
  rw [List.drop_eq_getElem_cons hj] <;> rfl
theorem wst_end {α β : Type} {e : β → α → Int} {nx : β → α → β} {s : β} {l : List α} {j : Nat} (hj : l.length ≤ j) : wst e nx s (l.drop j) = (0, s) := by rw [List.drop_eq_nil_of_le hj] <;> rfl
theorem sWorstG {l : List ByteArray} {f : PV} {β : Type} {e : β → ByteArray → Int} {nx : β → ByteArray → β} {γ : β → Sto} {s0 : β} (hl : l.length < 1000000) (hown : ∀ s, own (γ s) = own (γ s0)) (hflat : ∀ s, ((γ s).all fun c => c.2.flat) = true)
    (hf : ∀ s x, VCallG Tryz.prog OA f [.v .str x] (γ s) (fun r g => r = I (e s x) ∧ g = γ (nx s x))) : VFG Tryz.prog OA 96 [.v (.sl .str) l, f] (γ s0) (fun r g => r = I (wst e nx s0 l).1 ∧ g = γ (wst e nx s0 l).2) := by
  refine VFG.enter Tryz.func96 rfl (fun _ _ => rfl) rfl ?_
  show VC _ _ _ _ _ [(0, .v (.sl .str) l), (1, f)] _ _
  refine VC.seq (VC.text ?_)
  refine VO.c (.assign rfl) ?_
  refine VO.go (VC.seq (VC.seq (VC.text ?_)))
  refine VO.c (.move rfl) ?_
  refine VO.r (.len el27) ?_
  refine VO.c (.move rfl) ?_
  refine VO.go (VC.block ?_)
  refine VC.keep [(1, f), (8, .v (.sl .str) l), (9, I ((l.length : Nat) : Int)), (10, I ((0 : Nat) : Int))] ⟨rfl, rfl, rfl, rfl, trivial⟩ ?_
  refine VC.loop (I := fun kk ff ss => ∃ (j : Nat) (s : β), kk = l.length - j ∧ ff = [(1, f), (8, .v (.sl .str) l), (9, I ((l.length : Nat) : Int)), (10, I ((j : Nat) : Int))] ∧ ss = γ s ∧ (j ≤ l.length) ∧ (wst e nx s0 l = wst e nx s (l.drop j))) ?_ _ _ _ ⟨0, s0, rfl, rfl, rfl, Nat.zero_le _, rfl⟩
  rintro kk ff ss ⟨j, s, hk0, rfl, rfl, hj, hw⟩
  refine VC.seq (VC.text ?_)
  refine VO.c (.lss) ?_
  refine VO.go (VC.seq ?_)
  refine VC.condD rfl (fun c2 => ?_) (fun c2 => ?_)
  · refine VC.skip (VC.seq (VC.block (VC.seq (VC.text ?_))))
    refine VO.c (.ix (j := j) rfl rfl el27 (by omega)) ?_
    refine VO.r (.ld vt9) ?_
    refine VO.c (.assign rfl) ?_
    refine VO.go (VC.seq (VC.text ?_))
    refine VO.c (.move rfl) ?_
    refine VO.c (.move rfl) ?_
    refine VO.callG (γ s) (List.append_nil _) rfl rfl (hf s _) ?_
    rintro r g ⟨rfl, rfl⟩
    rw [List.append_nil]
    refine VO.c (.assign rfl) ?_
    refine VO.go (VC.seq (VC.text ?_))
    refine VO.c (.move rfl) ?_
    refine VO.c (.neq) ?_
    refine VO.go ?_
    rw [wst_drop (by omega)] at hw
    refine VC.condD rfl (fun c5 => ?_) (fun c5 => ?_)
    · rw [if_neg c5] at hw
      refine VC.seq (VC.text ?_)
      refine VO.c (.move rfl) ?_
      refine VO.c (.assign rfl) ?_
      refine VO.go ?_
      refine VC.ret ?_
      refine VEndG.one (P := Tryz.prog) (fn := Tryz.f96) (γ := γ s0) (Q := fun r g => r = I (wst e nx s0 l).1 ∧ g = γ (wst e nx s0 l).2) rfl evT ?_ (hown _) (hflat _)
      exact ⟨by rw [hw], by rw [hw]⟩
    rw [if_pos (by simpa using c5)] at hw
    refine VC.skip (VC.text ?_)
    refine VO.c (.add rfl rfl (by omega)) ?_
    refine VO.c (.move rfl) ?_
    refine VO.nil ?_
    refine ⟨_, [(1, f), (8, .v (.sl .str) l), (9, I ((l.length : Nat) : Int)), (10, I (((j + 1) : Nat) : Int))], ?_, ⟨rfl, rfl, rfl, rfl, trivial⟩, (j + 1), _, rfl, rfl, rfl, (by omega), hw⟩
    omega
  rw [wst_end (by omega)] at hw
  refine VC.exit (VC.seq (VC.text ?_))
  refine VO.c (.assign rfl) ?_
  refine VO.go ?_
  refine VC.ret ?_
  refine VEndG.one (P := Tryz.prog) (fn := Tryz.f96) (γ := γ s0) (Q := fun r g => r = I (wst e nx s0 l).1 ∧ g = γ (wst e nx s0 l).2) rfl evT ?_ (hown _) (hflat _)
  exact ⟨by rw [hw], by rw [hw]⟩
end Go.Proofs
namespace Go.Proofs
open Go.Fs
set_option linter.unusedVariables false
abbrev y31 : Ty := (.pair .str (.pair .str (.pair .str (.pair (.sl .str) (.pair (.int .i64) (.int .i64))))))
abbrev y35 : Ty := (.pair .str (.pair .str (.pair .str (.pair (.sl .str) (.pair (.int .i64) (.int .i64))))))
theorem vt27 : ValT Tryz.prog 27 (.sl .str) := valT_of (by kernel_rfl)
theorem zt9 : ZerT Tryz.prog 9 .str := zerT_of (z := .string ByteArray.empty) (by kernel_rfl) rfl rfl
def lockE (last s : ByteArray) : Int := firstE [whenE (!nameB s) 8, whenE (!ltS last s) 11]
theorem sLock_ok {s : ByteArray} {w_last : Value} {last : ByteArray} : VFG Tryz.prog OA 95 [St s, .raw w_last] [(w_last, .var [St last])] (fun r g => r = I (lockE last s) ∧ g = [(w_last, .var [St s])]) := by
  refine VFG.enter Tryz.func95 rfl (fun _ _ => rfl) rfl ?_
  show VC _ _ _ _ _ [(0, St s), (1, .raw w_last)] [(w_last, .var [St last])] _
  refine VC.seq (VC.text ?_)
  refine VO.c (.assign rfl) ?_
  refine VO.go (VC.seq (VC.drawn ?_))
  refine VD.c (.move rfl) ?_
  refine VD.call rfl rfl (VF.call (sNm_ok )) ?_
  refine VD.c (.move rfl) ?_
  refine VD.r [(w_last, .var [St last])] (.ldV m0 vt9) (.inr ⟨rfl, rfl⟩) ?_
  refine VD.c (.sleq) ?_
  refine VD.call rfl rfl (VF.call (sWhen_ok )) ?_
  refine VD.nw [] ?_
  refine VD.new (.lit [whenE (!nameB s) 8, whenE (!ltS last s) (11 : Int)] el204) ?_
  refine VD.callO rfl rfl (VF.call (sFirst_ok (by simp))) ?_
  refine VD.c (.assign rfl) ?_
  refine VD.go (VC.seq (VC.text ?_))
  refine VO.c (.move rfl) ?_
  refine VO.setV (cs' := [St s]) vt9 .v ?_
  refine VO.go (VC.seq (VC.text ?_))
  refine VO.c (.move rfl) ?_
  refine VO.c (.assign rfl) ?_
  refine VO.go ?_
  refine VC.ret ?_
  refine VEndG.one (P := Tryz.prog) (fn := Tryz.f95) (γ := [(w_last, .var [St last])]) (Q := fun r g => r = I (lockE last s) ∧ g = [(w_last, .var [St s])]) rfl evT ?_ rfl rfl
  exact ⟨pvI (by rfl), by rfl⟩
def locksE (last : ByteArray) (l : List ByteArray) : Int := (wst lockE (fun _ s => s) last l).1
def permE (p : ByteArray × ByteArray × ByteArray × List ByteArray × Int × Int) : Int :=
  firstE [whenE (!nameB p.1) 8, whenE (!nameB p.2.1) 8, whenE (!nameB p.2.2.1) 8, whenE (decide (8 < (p.2.2.2.1.length : Int))) 5, locksE ByteArray.empty p.2.2.2.1, spanE p.2.2.2.2]
theorem firstE_app : ∀ xs ys : List Int, firstE (xs ++ ys) = if firstE xs = 0 then firstE ys else firstE xs
  | [], ys => by simp [firstE]
  | x :: xs, ys => by
    have e1 : firstE (x :: xs ++ ys) = if x = 0 then firstE (xs ++ ys) else x := rfl
    have e2 : firstE (x :: xs) = if x = 0 then firstE xs else x := rfl
    by_cases h : x = 0
    · rw [if_pos h] at e1 e2
      rw [e1, e2]
      exact firstE_app xs ys
    rw [if_neg h] at e1 e2
    rw [e1, e2, if_neg h]
variable {p : ByteArray × ByteArray × ByteArray × List ByteArray × Int × Int}
theorem firstE_one {x : Int} : firstE [x] = x := by
  simp only [firstE]
  by_cases h : x = 0 <;> simp [h]
theorem firstE_two {x y : Int} : firstE [x, y] = if x = 0 then y else x := by
  show (if x = 0 then firstE [y] else x) = _
  rw [firstE_one]
theorem permE_s {a b c d : Int} (ha : a = whenE (!nameB p.1) 8) (hb : b = whenE (!nameB p.2.1) 8) (hc : c = whenE (!nameB p.2.2.1) 8) (hd : d = whenE (decide (8 < (p.2.2.2.1.length : Int))) 5) :
    permE p = if firstE [a, b, c, d] = 0 then (if locksE ByteArray.empty p.2.2.2.1 = 0 then spanE p.2.2.2.2 else locksE ByteArray.empty p.2.2.2.1) else firstE [a, b, c, d] := by
  subst ha hb hc hd
  show firstE ([_, _, _, _] ++ [_, _]) = _
  rw [firstE_app, firstE_two]
theorem permE_r {a b c : Int} (ha : a = whenE (!nameB p.1) 8) (hb : b = whenE (!nameB p.2.1) 8) (hc : c = whenE (!nameB p.2.2.1) 8) :
    permE p = if firstE [a, b, c] = 0 then (if 8 < (p.2.2.2.1.length : Int) then 5 else if locksE ByteArray.empty p.2.2.2.1 = 0 then spanE p.2.2.2.2 else locksE ByteArray.empty p.2.2.2.1) else firstE [a, b, c] := by
  rw [permE_s ha hb hc rfl, show firstE [a, b, c, whenE (decide (8 < (p.2.2.2.1.length : Int))) 5] = firstE ([a, b, c] ++ [whenE (decide (8 < (p.2.2.2.1.length : Int))) 5]) from rfl, firstE_app, firstE_one]
  generalize firstE [a, b, c] = F
  by_cases h1 : F = 0 <;> by_cases h2 : 8 < (p.2.2.2.1.length : Int) <;> simp [h1, h2, whenE]
def prevL (l : List ByteArray) (i : Nat) : ByteArray := if i = 0 then ByteArray.empty else l.getD (i - 1) ByteArray.empty
theorem prevL_succ {l : List ByteArray} {i : Nat} (hi : i < l.length) : prevL l (i + 1) = l[i] := by simp [prevL, hi]
theorem prevL_pos {l : List ByteArray} {i : Nat} (h0 : i ≠ 0) (hi : i - 1 < l.length) : prevL l i = l[i - 1] := by simp [prevL, h0, hi]
theorem prevL_int {l : List ByteArray} {i : Nat} (h0 : 0 < (i : Int)) (h : ((i : Int) - 1).toNat < l.length) : prevL l i = l[((i : Int) - 1).toNat] := by
  rw [prevL_pos (by omega) (by omega)]
  simp only [show ((i : Int) - 1).toNat = i - 1 by omega]
theorem locksE_drop {last : ByteArray} {l : List ByteArray} {i : Nat} (hi : i < l.length) : locksE last (l.drop i) = if lockE last l[i] = 0 then locksE l[i] (l.drop (i + 1)) else lockE last l[i] := by
  unfold locksE
  rw [wst_drop hi]
  by_cases h : lockE last l[i] = 0 <;> simp [h]
theorem locksE_end {last : ByteArray} {l : List ByteArray} {i : Nat} (hi : l.length ≤ i) : locksE last (l.drop i) = 0 := by
  unfold locksE
  rw [wst_end hi]
theorem lockE_name {last s : ByteArray} (h : nameB s = false) : lockE last s = 8 := by simp [lockE, h, whenE, firstE]
theorem lockE_ord {last s : ByteArray} (h : nameB s = true) : lockE last s = if ltS last s = true then 0 else 11 := by
  cases h2 : ltS last s <;> simp [lockE, h, h2, whenE, firstE]
theorem nameB_size {s : ByteArray} (h : nameB s = true) : s.size ≠ 0 := (of_decide_eq_true h).1
theorem nameE_name {s : ByteArray} (h : whenE (!nameB s) 8 ≠ 0) : nameB s = false := by
  cases h2 : nameB s with
  | false => rfl
  | true => rw [h2] at h; exact absurd rfl h
theorem nameE_ok {s : ByteArray} (h : whenE (!nameB s) 8 = 0) : nameB s = true := by
  cases h2 : nameB s with
  | true => rfl
  | false => rw [h2] at h; cases h
theorem sPermit_ok {p : ByteArray × ByteArray × ByteArray × (List ByteArray) × (Int × Int)} (hl : p.2.2.2.1.length < 1000000) : VF Tryz.prog OA 22 [.v y35 p] (I (permE p)) := by
  refine VF.enter Tryz.func22 rfl (fun _ _ => rfl) rfl ?_
  show VC _ _ _ _ _ [(0, .v y35 p)] [] _
  refine VC.seq (VC.text ?_)
  refine VO.new (.box) ?_
  refine VO.c (.assign rfl) ?_
  refine VO.go (VC.seq (VC.seq (VC.drawn ?_)))
  refine VD.c (.fa (.l .o)) ?_
  refine VD.r [] (.ld vt9) (.inl rfl) ?_
  refine VD.call rfl rfl (VF.call (sNm_ok )) ?_
  refine VD.c (.fa (.r (.l .o))) ?_
  refine VD.r [] (.ld vt9) (.inl rfl) ?_
  refine VD.call rfl rfl (VF.call (sNm_ok )) ?_
  refine VD.nw [] ?_
  refine VD.c (.fa (.r (.r (.l .o)))) ?_
  refine VD.r [] (.ld vt9) (.inl rfl) ?_
  refine VD.call rfl rfl (VF.call (sNm_ok )) ?_
  refine VD.c (.fa (.r (.r (.r (.l .o))))) ?_
  refine VD.r [] (.ld vt27) (.inl rfl) ?_
  refine VD.r [] (.len el27) (.inl rfl) ?_
  refine VD.c (.gtr) ?_
  refine VD.nw [] ?_
  refine VD.call rfl rfl (VF.call (sWhen_ok )) ?_
  refine VD.new (.lit [whenE (!nameB p.1) 8, whenE (!nameB p.2.1) 8, whenE (!nameB p.2.2.1) 8, whenE (decide ((8 : Int) < ((p.2.2.2.1.length : Nat) : Int))) (5 : Int)] el204) ?_
  refine VD.callO rfl rfl (VF.call (sFirst_ok (by simp))) ?_
  refine VD.c (.assign rfl) ?_
  refine VD.go (VC.seq (VC.text ?_))
  refine VO.c (.move rfl) ?_
  refine VO.c (.neq) ?_
  refine VO.go ?_
  refine VC.condD rfl (fun c2 => ?_) (fun c2 => ?_)
  · refine VC.seq (VC.text ?_)
    refine VO.c (.move rfl) ?_
    refine VO.c (.assign rfl) ?_
    refine VO.go ?_
    refine VC.ret ?_
    exact VEnd.one rfl evT (pvI (by rw [permE_s rfl rfl rfl rfl, if_neg c2]))
  refine VC.skip (VC.seq (VC.text ?_))
  refine VO.cell (.alloc zt9) ?_
  intro ww1
  refine VO.setV (cs' := [St ByteArray.empty]) vt9 .v ?_
  refine VO.go (VC.seq (VC.text ?_))
  refine VO.c (.func) ?_
  refine VO.c (.assign rfl) ?_
  refine VO.go (VC.seq (VC.seq (VC.text ?_)))
  refine VO.c (.fa (.r (.r (.r (.l .o))))) ?_
  refine VO.r (.ld vt27) ?_
  refine VO.c (.move rfl) ?_
  refine VO.callG [(ww1, .var [St ByteArray.empty])] rfl rfl rfl (VFG.call (sWorstG (e := lockE) (nx := fun _ s => s) (γ := fun s => [(ww1, .var [St s])]) (s0 := ByteArray.empty) hl (fun _ => rfl) (fun _ => rfl) (fun s x => VFG.clo sLock_ok))) ?_
  rintro _ _ ⟨rfl, rfl⟩
  show VO _ _ _ _ _ _ [(ww1, .var [St ((wst lockE (fun _ s => s) ByteArray.empty p.2.2.2.1).2)])] _
  refine VO.c (.assign rfl) ?_
  refine VO.go (VC.seq (VC.text ?_))
  refine VO.c (.move rfl) ?_
  refine VO.c (.neq) ?_
  refine VO.go ?_
  refine VC.condD rfl (fun c7 => ?_) (fun c7 => ?_)
  · refine VC.seq ?_
    refine VC.keep [(1, .p y35 p), (6, I (locksE ByteArray.empty p.2.2.2.1))] ⟨rfl, rfl, trivial⟩ ?_
    refine VC.text ?_
    refine VO.c (.move rfl) ?_
    refine VO.c (.assign rfl) ?_
    refine VO.go ?_
    refine VC.ret ?_
    exact VEnd.one rfl evT (pvI (by rw [permE_s rfl rfl rfl rfl, if_pos (by simpa using c2), if_neg (show locksE _ _ ≠ 0 from c7)]))
  refine VC.skip (VC.seq ?_)
  refine VC.keep [(1, .p y35 p)] ⟨rfl, trivial⟩ ?_
  refine VC.text ?_
  refine VO.c (.fa (.r (.r (.r (.r .o))))) ?_
  refine VO.r (.ld vt29) ?_
  refine VO.call rfl rfl (VF.call (sSpan_ok )) ?_
  refine VO.c (.assign rfl) ?_
  refine VO.go ?_
  refine VC.ret ?_
  exact VEnd.one rfl evT (pvI (by rw [permE_s rfl rfl rfl rfl, if_pos (by simpa using c2), if_pos (show locksE _ _ = 0 from Decidable.not_not.1 c7)]))
theorem rPermit_ok {p : ByteArray × ByteArray × ByteArray × (List ByteArray) × (Int × Int)} (hl : p.2.2.2.1.length < 1000000) : VF Tryz.prog OA 20 [.v y31 p] (I (permE p)) := by
  refine VF.enter Tryz.func20 rfl (fun _ _ => rfl) rfl ?_
  show VC _ _ _ _ _ [(0, .v y31 p)] [] _
  refine VC.seq (VC.text ?_)
  refine VO.new (.box) ?_
  refine VO.c (.assign rfl) ?_
  refine VO.go (VC.seq (VC.seq (VC.drawn ?_)))
  refine VD.c (.fa (.l .o)) ?_
  refine VD.r [] (.ld vt9) (.inl rfl) ?_
  refine VD.call rfl rfl (VF.call (rNameE_ok )) ?_
  refine VD.c (.fa (.r (.l .o))) ?_
  refine VD.r [] (.ld vt9) (.inl rfl) ?_
  refine VD.call rfl rfl (VF.call (rNameE_ok )) ?_
  refine VD.nw [] ?_
  refine VD.c (.fa (.r (.r (.l .o)))) ?_
  refine VD.r [] (.ld vt9) (.inl rfl) ?_
  refine VD.call rfl rfl (VF.call (rNameE_ok )) ?_
  refine VD.new (.lit [whenE (!nameB p.1) 8, whenE (!nameB p.2.1) 8, whenE (!nameB p.2.2.1) 8] el39) ?_
  refine VD.callO rfl rfl (VF.call (rFirst_ok (by simp))) ?_
  refine VD.c (.assign rfl) ?_
  refine VD.go (VC.seq (VC.text ?_))
  refine VO.c (.move rfl) ?_
  refine VO.c (.neq) ?_
  refine VO.go ?_
  refine VC.condD rfl (fun c2 => ?_) (fun c2 => ?_)
  · refine VC.seq (VC.text ?_)
    refine VO.c (.move rfl) ?_
    refine VO.c (.assign rfl) ?_
    refine VO.go ?_
    refine VC.ret ?_
    exact VEnd.one rfl evT (pvI (by rw [permE_r rfl rfl rfl, if_neg c2]))
  refine VC.skip (VC.seq (VC.seq (VC.text ?_)))
  refine VO.c (.fa (.r (.r (.r (.l .o))))) ?_
  refine VO.r (.ld vt27) ?_
  refine VO.r (.len el27) ?_
  refine VO.c (.gtr) ?_
  refine VO.go ?_
  refine VC.condD rfl (fun c4 => ?_) (fun c4 => ?_)
  · refine VC.seq (VC.text ?_)
    refine VO.c (.assign rfl) ?_
    refine VO.go ?_
    refine VC.ret ?_
    exact VEnd.one rfl evT (pvI (by rw [permE_r rfl rfl rfl, if_pos (by simpa using c2), if_pos c4]))
  have hp : permE p = if locksE ByteArray.empty p.2.2.2.1 = 0 then spanE p.2.2.2.2 else locksE ByteArray.empty p.2.2.2.1 := by rw [permE_r rfl rfl rfl, if_pos (by simpa using c2), if_neg c4]
  refine VC.skip (VC.seq (VC.seq (VC.text ?_)))
  refine VO.c (.assign rfl) ?_
  refine VO.go (VC.block ?_)
  refine VC.keep [(1, .p y31 p), (4, I ((0 : Nat) : Int))] ⟨rfl, rfl, trivial⟩ ?_
  refine VC.loop (I := fun kk ff ss => ∃ (i : Nat), kk = p.2.2.2.1.length - i ∧ ff = [(1, .p y31 p), (4, I ((i : Nat) : Int))] ∧ ss = [] ∧ (i ≤ p.2.2.2.1.length) ∧ (locksE ByteArray.empty p.2.2.2.1 = locksE (prevL p.2.2.2.1 i) (p.2.2.2.1.drop i))) ?_ _ _ _ ⟨0, rfl, rfl, rfl, Nat.zero_le _, (by rfl)⟩
  rintro kk ff ss ⟨i, hk0, rfl, rfl, hi, hq⟩
  refine VC.seq (VC.seq (VC.text ?_))
  refine VO.c (.move rfl) ?_
  refine VO.c (.fa (.r (.r (.r (.l .o))))) ?_
  refine VO.r (.ld vt27) ?_
  refine VO.r (.len el27) ?_
  refine VO.c (.lss) ?_
  refine VO.go ?_
  refine VC.condD rfl (fun c7 => ?_) (fun c7 => ?_)
  · refine VC.skip (VC.seq (VC.block (VC.seq (VC.seq (VC.text ?_)))))
    refine VO.c (.fa (.r (.r (.r (.l .o))))) ?_
    refine VO.r (.ld vt27) ?_
    refine VO.c (.move rfl) ?_
    refine VO.c (.ix (j := i) rfl rfl el27 (by omega)) ?_
    refine VO.r (.ld vt9) ?_
    refine VO.call rfl rfl (VF.call (rNameE_ok )) ?_
    refine VO.c (.assign rfl) ?_
    refine VO.go (VC.seq (VC.text ?_))
    refine VO.c (.move rfl) ?_
    refine VO.c (.neq) ?_
    refine VO.go ?_
    refine VC.condD rfl (fun c10 => ?_) (fun c10 => ?_)
    · have hv : locksE ByteArray.empty p.2.2.2.1 = 8 := by rw [hq, locksE_drop (by omega), lockE_name (nameE_name c10), if_neg (by decide)]
      refine VC.seq (VC.text ?_)
      refine VO.c (.move rfl) ?_
      refine VO.c (.assign rfl) ?_
      refine VO.go ?_
      refine VC.ret ?_
      exact VEnd.one rfl evT (pvI (by rw [hp, hv, if_neg (by decide)]; rw [nameE_name c10] <;> rfl))
    have hn := nameE_ok (by simpa using c10)
    refine VC.skip (VC.seq (VC.drawn ?_))
    refine VD.c (.move rfl) ?_
    refine VD.c (.gtr) ?_
    refine VD.c (.move rfl) ?_
    refine VD.splitD (x := 42) rfl (fun g12_2 => ?_) (fun g12_2 => ?_)
    · refine VD.c (.fa (.r (.r (.r (.l .o))))) ?_
      refine VD.r [] (.ld vt27) (.inl rfl) ?_
      refine VD.nw [] ?_
      refine VD.c (.move rfl) ?_
      refine VD.c (.ix (j := i) rfl rfl el27 (by omega)) ?_
      refine VD.r [] (.ld vt9) (.inl rfl) ?_
      refine VD.c (.fa (.r (.r (.r (.l .o))))) ?_
      refine VD.r [] (.ld vt27) (.inl rfl) ?_
      refine VD.c (.move rfl) ?_
      refine VD.c (.sub rfl rfl (by omega)) ?_
      refine VD.nw [] ?_
      refine VD.c (.ixZ (k := (((i : Nat) : Int) - (1 : Int))) rfl rfl el27 (by omega) (by omega)) ?_
      refine VD.r [] (.ld vt9) (.inl rfl) ?_
      refine VD.c (.sleq) ?_
      refine VD.c (.pickT rfl rfl) ?_
      refine VD.go ?_
      refine VC.condB rfl (fun c12 => ?_) (fun c12 => ?_)
      · try simp only [Bool.and_eq_true, Bool.or_eq_true, Bool.and_eq_false_iff, Bool.or_eq_false_iff, Bool.not_eq_true', Bool.not_eq_false', decide_eq_true_eq, decide_eq_false_iff_not] at c12
        refine VC.seq (VC.text ?_)
        refine VO.c (.assign rfl) ?_
        refine VO.go ?_
        refine VC.ret ?_
        exact VEnd.one rfl evT (pvI (by rw [hp, hq, locksE_drop (by omega), lockE_ord hn, prevL_int g12_2 (by omega), c12] <;> rfl))
      try simp only [Bool.and_eq_true, Bool.or_eq_true, Bool.and_eq_false_iff, Bool.or_eq_false_iff, Bool.not_eq_true', Bool.not_eq_false', decide_eq_true_eq, decide_eq_false_iff_not] at c12
      have hz : lockE (prevL p.2.2.2.1 i) p.2.2.2.1[i] = 0 := by rw [lockE_ord hn, prevL_int g12_2 (by omega), c12] <;> rfl
      refine VC.skip (VC.text ?_)
      refine VO.c (.move rfl) ?_
      refine VO.c (.add rfl rfl (by omega)) ?_
      refine VO.c (.assign rfl) ?_
      refine VO.nil ?_
      refine ⟨_, [(1, .p y31 p), (4, I (((i + 1) : Nat) : Int))], ?_, ⟨rfl, rfl, trivial⟩, (i + 1), rfl, rfl, rfl, (by omega), (by rw [hq, locksE_drop (by omega), if_pos hz, prevL_succ (by omega)])⟩
      omega
    have hz : lockE (prevL p.2.2.2.1 i) p.2.2.2.1[i] = 0 := by rw [lockE_ord hn, if_pos]; rw [show prevL p.2.2.2.1 i = ByteArray.empty from if_pos (by omega)]; exact ltS_full (nameB_size hn)
    refine VD.skip ?_
    refine VD.skip ?_
    refine VD.nw [] ?_
    refine VD.skip ?_
    refine VD.skip ?_
    refine VD.skip ?_
    refine VD.skip ?_
    refine VD.skip ?_
    refine VD.skip ?_
    refine VD.skip ?_
    refine VD.nw [] ?_
    refine VD.skip ?_
    refine VD.skip ?_
    refine VD.skip ?_
    refine VD.c (.pickF rfl rfl) ?_
    refine VD.go ?_
    refine VC.condF rfl ?_
    refine VC.skip (VC.text ?_)
    refine VO.c (.move rfl) ?_
    refine VO.c (.add rfl rfl (by omega)) ?_
    refine VO.c (.assign rfl) ?_
    refine VO.nil ?_
    refine ⟨_, [(1, .p y31 p), (4, I (((i + 1) : Nat) : Int))], ?_, ⟨rfl, rfl, trivial⟩, (i + 1), rfl, rfl, rfl, (by omega), (by rw [hq, locksE_drop (by omega), if_pos hz, prevL_succ (by omega)])⟩
    omega
  refine VC.exit (VC.seq (VC.text ?_))
  refine VO.c (.fa (.r (.r (.r (.r .o))))) ?_
  refine VO.r (.ld vt29) ?_
  refine VO.call rfl rfl (VF.call (rSpan_ok )) ?_
  refine VO.c (.assign rfl) ?_
  refine VO.go ?_
  refine VC.ret ?_
  exact VEnd.one rfl evT (pvI (by rw [hp, hq, locksE_end (by omega), if_pos rfl]))
end Go.Proofs
namespace Go.Proofs
open Go.Fs
set_option linter.unusedVariables false
abbrev y22 : Ty := (.sl (.pair .str (.pair .str (.pair .str (.pair (.sl .str) (.pair (.int .i64) (.int .i64)))))))
abbrev y23 : Ty := (.sl (.pair (.pair (.int .i64) (.int .i64)) (.int .i64)))
abbrev y43 : Ty := (.sl (.pair .str (.pair .str (.pair .str (.pair (.sl .str) (.pair (.int .i64) (.int .i64)))))))
abbrev y47 : Ty := (.sl (.pair (.pair (.int .i64) (.int .i64)) (.int .i64)))
abbrev y94 : Ty := (.pair (.pair (.int .i64) (.int .i64)) (.int .i64))
theorem vt31 : ValT Tryz.prog 31 y31 := valT_of (by kernel_rfl)
theorem vt35 : ValT Tryz.prog 35 y35 := valT_of (by kernel_rfl)
theorem vt94 : ValT Tryz.prog 94 y94 := valT_of (by kernel_rfl)
theorem el22 : ElT Tryz.prog 22 31 y31 := elT_of (by kernel_rfl)
theorem el23 : ElT Tryz.prog 23 149 (.pair (.pair (.int .i64) (.int .i64)) (.int .i64)) := elT_of (by kernel_rfl)
theorem el43 : ElT Tryz.prog 43 35 y35 := elT_of (by kernel_rfl)
theorem el47 : ElT Tryz.prog 47 94 y94 := elT_of (by kernel_rfl)
theorem zt35 : ZerT Tryz.prog 35 y35 := zerT_of (z := .agg #[.string ByteArray.empty, .string ByteArray.empty, .string ByteArray.empty, .slice none 0 0, .int .i64 0, .int .i64 0]) (by kernel_rfl) rfl rfl
theorem zt94 : ZerT Tryz.prog 94 y94 := zerT_of (z := .agg #[.int .i64 0, .int .i64 0, .int .i64 0]) (by kernel_rfl) rfl rfl
theorem worstE_drop {α : Type} {f : α → Int} {l : List α} {j : Nat} (hj : j < l.length) : firstE ((l.drop j).map f) = if f l[j] = 0 then firstE ((l.drop (j + 1)).map f) else f l[j] := by
  rw [List.drop_eq_getElem_cons hj] <;> rfl
theorem worstE_end {α : Type} {f : α → Int} {l : List α} {j : Nat} (hj : l.length ≤ j) : firstE ((l.drop j).map f) = 0 := by rw [List.drop_eq_nil_of_le hj] <;> rfl
theorem sWorstP_ok {F : ByteArray × ByteArray × ByteArray × List ByteArray × Int × Int → Int} {l : List (ByteArray × ByteArray × ByteArray × (List ByteArray) × (Int × Int))} {f : PV} (hl : l.length < 1000000) (hf : ∀ x ∈ l, VCall Tryz.prog OA f [.v y35 x] (I (F x))) : VF Tryz.prog OA 98 [.v y43 l, f] (I (firstE (l.map F))) := by
  refine VF.enter Tryz.func98 rfl (fun _ _ => rfl) rfl ?_
  show VC _ _ _ _ _ [(0, .v y43 l), (1, f)] [] _
  refine VC.seq (VC.text ?_)
  refine VO.c (.assign rfl) ?_
  refine VO.go (VC.seq (VC.seq (VC.text ?_)))
  refine VO.c (.move rfl) ?_
  refine VO.r (.len el43) ?_
  refine VO.c (.move rfl) ?_
  refine VO.go (VC.block ?_)
  refine VC.keep [(1, f), (8, .v y43 l), (9, I ((l.length : Nat) : Int)), (10, I ((0 : Nat) : Int))] ⟨rfl, rfl, rfl, rfl, trivial⟩ ?_
  refine VC.loop (I := fun kk ff ss => ∃ (j : Nat), kk = l.length - j ∧ ff = [(1, f), (8, .v y43 l), (9, I ((l.length : Nat) : Int)), (10, I ((j : Nat) : Int))] ∧ ss = [] ∧ (j ≤ l.length) ∧ (firstE (l.map F) = firstE ((l.drop j).map F))) ?_ _ _ _ ⟨0, rfl, rfl, rfl, Nat.zero_le _, (by rfl)⟩
  rintro kk ff ss ⟨j, hk0, rfl, rfl, hj, hw⟩
  refine VC.seq (VC.text ?_)
  refine VO.c (.lss) ?_
  refine VO.go (VC.seq ?_)
  refine VC.condD rfl (fun c2 => ?_) (fun c2 => ?_)
  · refine VC.skip (VC.seq (VC.block (VC.seq (VC.text ?_))))
    refine VO.c (.ix (j := j) rfl rfl el43 (by omega)) ?_
    refine VO.r (.ld vt35) ?_
    refine VO.cell (.alloc zt35) ?_
    intro ww1
    refine VO.setV (cs' := [St ((l[j]).1), St ((l[j]).2.1), St ((l[j]).2.2.1), .v (.sl .str) ((l[j]).2.2.2.1), I (((l[j]).2.2.2.2).1), I (((l[j]).2.2.2.2).2)]) vt35 .v ?_
    refine VO.shut [(6, .p y35 (l[j]))] (.cons rfl (.var m0 .refl) .nil) ?_
    refine VO.go (VC.seq (VC.text ?_))
    refine VO.c (.move rfl) ?_
    refine VO.r (.ld vt35) ?_
    refine VO.call rfl rfl ((hf _ (List.getElem_mem _)) ) ?_
    refine VO.c (.assign rfl) ?_
    refine VO.go (VC.seq (VC.text ?_))
    refine VO.c (.move rfl) ?_
    refine VO.c (.neq) ?_
    refine VO.go ?_
    refine VC.condD rfl (fun c5 => ?_) (fun c5 => ?_)
    · refine VC.seq (VC.text ?_)
      refine VO.c (.move rfl) ?_
      refine VO.c (.assign rfl) ?_
      refine VO.go ?_
      refine VC.ret ?_
      exact VEnd.one rfl evT (pvI (by rw [hw, worstE_drop (by omega), if_neg c5]))
    refine VC.skip (VC.text ?_)
    refine VO.c (.add rfl rfl (by omega)) ?_
    refine VO.c (.move rfl) ?_
    refine VO.nil ?_
    refine ⟨_, [(1, f), (8, .v y43 l), (9, I ((l.length : Nat) : Int)), (10, I (((j + 1) : Nat) : Int))], ?_, ⟨rfl, rfl, rfl, rfl, trivial⟩, (j + 1), rfl, rfl, rfl, (by omega), (by rw [hw, worstE_drop (by omega), if_pos (by simpa using c5)])⟩
    omega
  refine VC.exit (VC.seq (VC.text ?_))
  refine VO.c (.assign rfl) ?_
  refine VO.go ?_
  refine VC.ret ?_
  exact VEnd.one rfl evT (pvI (by rw [hw, worstE_end (by omega)]))
def PermOk (l : List (ByteArray × ByteArray × ByteArray × List ByteArray × Int × Int)) : Prop := ∀ p ∈ l, p.2.2.2.1.length < 1000000
def permsE (l : List (ByteArray × ByteArray × ByteArray × List ByteArray × Int × Int)) : Int := if 64 < (l.length : Int) then 5 else firstE (l.map permE)
theorem sPermits_ok {l : List (ByteArray × ByteArray × ByteArray × (List ByteArray) × (Int × Int))} (hl : l.length < 1000000) (hp : PermOk l) : VF Tryz.prog OA 23 [.v y43 l] (I (permsE l)) := by
  refine VF.enter Tryz.func23 rfl (fun _ _ => rfl) rfl ?_
  show VC _ _ _ _ _ [(0, .v y43 l)] [] _
  refine VC.seq (VC.text ?_)
  refine VO.c (.assign rfl) ?_
  refine VO.go (VC.seq (VC.seq (VC.text ?_)))
  refine VO.c (.move rfl) ?_
  refine VO.r (.len el43) ?_
  refine VO.c (.gtr) ?_
  refine VO.go ?_
  refine VC.condD rfl (fun c1 => ?_) (fun c1 => ?_)
  · refine VC.seq (VC.text ?_)
    refine VO.c (.assign rfl) ?_
    refine VO.go ?_
    refine VC.ret ?_
    exact VEnd.one rfl evT (pvI (by rw [permsE, if_pos c1]))
  refine VC.skip (VC.seq (VC.text ?_))
  refine VO.c (.move rfl) ?_
  refine VO.call rfl rfl (VF.call (sWorstP_ok (F := permE) hl (fun _ m => VF.call (sPermit_ok (hp _ m))))) ?_
  refine VO.c (.assign rfl) ?_
  refine VO.go ?_
  refine VC.ret ?_
  exact VEnd.one rfl evT (pvI (by rw [permsE, if_neg c1]))
theorem rPermits_ok {l : List (ByteArray × ByteArray × ByteArray × (List ByteArray) × (Int × Int))} (hl : l.length < 1000000) (hp : PermOk l) : VF Tryz.prog OA 25 [.v y22 l] (I (permsE l)) := by
  refine VF.enter Tryz.func25 rfl (fun _ _ => rfl) rfl ?_
  show VC _ _ _ _ _ [(0, .v y22 l)] [] _
  refine VC.seq (VC.text ?_)
  refine VO.c (.assign rfl) ?_
  refine VO.go (VC.seq (VC.seq (VC.text ?_)))
  refine VO.c (.move rfl) ?_
  refine VO.r (.len el22) ?_
  refine VO.c (.gtr) ?_
  refine VO.go ?_
  refine VC.condD rfl (fun c1 => ?_) (fun c1 => ?_)
  · refine VC.seq (VC.text ?_)
    refine VO.c (.assign rfl) ?_
    refine VO.go ?_
    refine VC.ret ?_
    exact VEnd.one rfl evT (pvI (by rw [permsE, if_pos c1]))
  refine VC.skip (VC.seq (VC.seq (VC.text ?_)))
  refine VO.c (.assign rfl) ?_
  refine VO.go (VC.block ?_)
  refine VC.keep [(0, .v y22 l), (3, I ((0 : Nat) : Int))] ⟨rfl, rfl, trivial⟩ ?_
  refine VC.loop (I := fun kk ff ss => ∃ (j : Nat), kk = l.length - j ∧ ff = [(0, .v y22 l), (3, I ((j : Nat) : Int))] ∧ ss = [] ∧ (j ≤ l.length) ∧ (permsE l = firstE ((l.drop j).map permE))) ?_ _ _ _ ⟨0, rfl, rfl, rfl, Nat.zero_le _, (by exact if_neg c1)⟩
  rintro kk ff ss ⟨j, hk0, rfl, rfl, hj, hw⟩
  refine VC.seq (VC.seq (VC.text ?_))
  refine VO.c (.move rfl) ?_
  refine VO.c (.move rfl) ?_
  refine VO.r (.len el22) ?_
  refine VO.c (.lss) ?_
  refine VO.go ?_
  refine VC.condD rfl (fun c4 => ?_) (fun c4 => ?_)
  · refine VC.skip (VC.seq (VC.block (VC.seq (VC.text ?_))))
    refine VO.c (.move rfl) ?_
    refine VO.c (.move rfl) ?_
    refine VO.c (.ix (j := j) rfl rfl el22 (by omega)) ?_
    refine VO.r (.ld vt31) ?_
    refine VO.call rfl rfl (VF.call (rPermit_ok (hp _ (List.getElem_mem _)))) ?_
    refine VO.c (.assign rfl) ?_
    refine VO.go (VC.seq (VC.text ?_))
    refine VO.c (.move rfl) ?_
    refine VO.c (.neq) ?_
    refine VO.go ?_
    refine VC.condD rfl (fun c7 => ?_) (fun c7 => ?_)
    · refine VC.seq (VC.text ?_)
      refine VO.c (.move rfl) ?_
      refine VO.c (.assign rfl) ?_
      refine VO.go ?_
      refine VC.ret ?_
      exact VEnd.one rfl evT (pvI (by rw [hw, worstE_drop (by omega), if_neg c7]))
    refine VC.skip (VC.text ?_)
    refine VO.c (.move rfl) ?_
    refine VO.c (.add rfl rfl (by omega)) ?_
    refine VO.c (.assign rfl) ?_
    refine VO.nil ?_
    refine ⟨_, [(0, .v y22 l), (3, I (((j + 1) : Nat) : Int))], ?_, ⟨rfl, rfl, trivial⟩, (j + 1), rfl, rfl, rfl, (by omega), (by rw [hw, worstE_drop (by omega), if_pos (by simpa using c7)])⟩
    omega
  refine VC.exit (VC.seq (VC.text ?_))
  refine VO.c (.assign rfl) ?_
  refine VO.go ?_
  refine VC.ret ?_
  exact VEnd.one rfl evT (pvI (by rw [hw, worstE_end (by omega)]))
def seasonE (e : Int) (s : (Int × Int) × Int) : Int := firstE [spanE s.1, rangeE s.2 0 16, whenE (decide (s.1.1 < e)) 11]
def ssE (e : Int) (l : List ((Int × Int) × Int)) : Int := (wst seasonE (fun _ s => s.1.2) e l).1
def seasE (l : List ((Int × Int) × Int)) : Int := if 8 < (l.length : Int) then 5 else ssE 0 l
def endP (l : List ((Int × Int) × Int)) (j : Nat) : Int := if j = 0 then 0 else (l.getD (j - 1) ((0, 0), 0)).1.2
theorem endP_succ {l : List ((Int × Int) × Int)} {j : Nat} (hj : j < l.length) : endP l (j + 1) = l[j].1.2 := by simp [endP, hj]
theorem endP_int {l : List ((Int × Int) × Int)} {i : Nat} (h0 : 0 < (i : Int)) (h : ((i : Int) - 1).toNat < l.length) : endP l i = l[((i : Int) - 1).toNat].1.2 := by
  have e : ((i : Int) - 1).toNat = i - 1 := by omega
  have h' : i - 1 < l.length := by omega
  rw [endP, if_neg (by omega)]
  simp only [e]
  simp [h']
theorem ssE_drop {e : Int} {l : List ((Int × Int) × Int)} {j : Nat} (hj : j < l.length) : ssE e (l.drop j) = if seasonE e l[j] = 0 then ssE l[j].1.2 (l.drop (j + 1)) else seasonE e l[j] := by
  unfold ssE
  rw [wst_drop hj]
  by_cases h : seasonE e l[j] = 0 <;> simp [h]
theorem ssE_end {e : Int} {l : List ((Int × Int) × Int)} {j : Nat} (hj : l.length ≤ j) : ssE e (l.drop j) = 0 := by
  unfold ssE
  rw [wst_end hj]
theorem sSeas_ok {l : List ((Int × Int) × Int)} (hl : l.length < 1000000) : VF Tryz.prog OA 26 [.v y47 l] (I (seasE l)) := by
  refine VF.enter Tryz.func26 rfl (fun _ _ => rfl) rfl ?_
  show VC _ _ _ _ _ [(0, .v y47 l)] [] _
  refine VC.seq (VC.text ?_)
  refine VO.c (.assign rfl) ?_
  refine VO.go (VC.seq (VC.seq (VC.text ?_)))
  refine VO.c (.move rfl) ?_
  refine VO.r (.len el47) ?_
  refine VO.c (.gtr) ?_
  refine VO.go ?_
  refine VC.condD rfl (fun c1 => ?_) (fun c1 => ?_)
  · refine VC.seq (VC.text ?_)
    refine VO.c (.assign rfl) ?_
    refine VO.go ?_
    refine VC.ret ?_
    exact VEnd.one rfl evT (pvI (by rw [seasE, if_pos c1]))
  refine VC.skip (VC.seq (VC.text ?_))
  refine VO.c (.assign rfl) ?_
  refine VO.go (VC.seq (VC.seq (VC.text ?_)))
  refine VO.c (.move rfl) ?_
  refine VO.r (.len el47) ?_
  refine VO.c (.move rfl) ?_
  refine VO.go (VC.block ?_)
  refine VC.keep [(3, I (endP l 0)), (10, .v y47 l), (11, I ((l.length : Nat) : Int)), (12, I ((0 : Nat) : Int))] ⟨rfl, rfl, rfl, rfl, trivial⟩ ?_
  refine VC.loop (I := fun kk ff ss => ∃ (j : Nat), kk = l.length - j ∧ ff = [(3, I (endP l j)), (10, .v y47 l), (11, I ((l.length : Nat) : Int)), (12, I ((j : Nat) : Int))] ∧ ss = [] ∧ (j ≤ l.length) ∧ (seasE l = ssE (endP l j) (l.drop j))) ?_ _ _ _ ⟨0, rfl, rfl, rfl, Nat.zero_le _, (by exact if_neg c1)⟩
  rintro kk ff ss ⟨j, hk0, rfl, rfl, hj, hw⟩
  refine VC.seq (VC.text ?_)
  refine VO.c (.lss) ?_
  refine VO.go (VC.seq ?_)
  refine VC.condD rfl (fun c5 => ?_) (fun c5 => ?_)
  · refine VC.skip (VC.seq (VC.block (VC.seq (VC.text ?_))))
    refine VO.c (.ix (j := j) rfl rfl el47 (by omega)) ?_
    refine VO.r (.ld vt94) ?_
    refine VO.cell (.alloc zt94) ?_
    intro ww2
    refine VO.setV (cs' := [I (((l[j]).1).1), I (((l[j]).1).2), I ((l[j]).2)]) vt94 .v ?_
    refine VO.shut [(5, .p y94 (l[j]))] (.cons rfl (.var m0 .refl) .nil) ?_
    refine VO.go (VC.seq (VC.seq (VC.drawn ?_)))
    refine VD.c (.fa (.l .o)) ?_
    refine VD.r [] (.ld vt29) (.inl rfl) ?_
    refine VD.call rfl rfl (VF.call (sSpan_ok )) ?_
    refine VD.c (.fa (.r .o)) ?_
    refine VD.r [] (.ld vt3) (.inl rfl) ?_
    refine VD.call rfl rfl (VF.call (sWithin_ok )) ?_
    refine VD.nw [] ?_
    refine VD.c (.fa (.l .o)) ?_
    refine VD.c (.fa (.l .o)) ?_
    refine VD.r [] (.ld vt3) (.inl rfl) ?_
    refine VD.c (.move rfl) ?_
    refine VD.c (.lss) ?_
    refine VD.call rfl rfl (VF.call (sWhen_ok )) ?_
    refine VD.new (.lit [spanE ((l[j]).1), rangeE ((l[j]).2) (0 : Int) (16 : Int), whenE (decide (((l[j]).1).1 < endP l j)) (11 : Int)] el204) ?_
    refine VD.nw [28] ?_
    refine VD.callO rfl rfl (VF.call (sFirst_ok (by simp))) ?_
    refine VD.c (.assign rfl) ?_
    refine VD.go (VC.seq (VC.text ?_))
    refine VO.c (.move rfl) ?_
    refine VO.c (.neq) ?_
    refine VO.go ?_
    refine VC.condD rfl (fun c8 => ?_) (fun c8 => ?_)
    · refine VC.seq (VC.text ?_)
      refine VO.c (.move rfl) ?_
      refine VO.c (.assign rfl) ?_
      refine VO.go ?_
      refine VC.ret ?_
      exact VEnd.one rfl evT (pvI (by rw [hw, ssE_drop (by omega)]; exact (if_neg c8).symm))
    refine VC.skip (VC.text ?_)
    refine VO.c (.fa (.l .o)) ?_
    refine VO.c (.fa (.r .o)) ?_
    refine VO.r (.ld vt3) ?_
    refine VO.c (.assign rfl) ?_
    refine VO.nil (VC.text ?_)
    refine VO.c (.add rfl rfl (by omega)) ?_
    refine VO.c (.move rfl) ?_
    refine VO.nil ?_
    refine ⟨_, [(3, I (endP l (j + 1))), (10, .v y47 l), (11, I ((l.length : Nat) : Int)), (12, I (((j + 1) : Nat) : Int))], ?_, ⟨slE rfl (by exact (endP_succ (l := l) (j := j) (by omega)).symm), rfl, rfl, rfl, trivial⟩, (j + 1), rfl, rfl, rfl, (by omega), (by rw [hw, ssE_drop (by omega), if_pos (show seasonE _ _ = 0 from Decidable.not_not.1 c8), endP_succ (l := l) (j := j) (by omega)])⟩
    omega
  refine VC.exit (VC.seq (VC.text ?_))
  refine VO.c (.assign rfl) ?_
  refine VO.go ?_
  refine VC.ret ?_
  exact VEnd.one rfl evT (pvI (by rw [hw, ssE_end (by omega)]))
theorem seasonE_two {e : Int} {s : (Int × Int) × Int} (h : ¬ firstE [spanE s.1, rangeE s.2 0 16] ≠ 0) : seasonE e s = whenE (decide (s.1.1 < e)) 11 := by
  show firstE ([_, _] ++ [_]) = _
  rw [firstE_app, if_pos (Decidable.not_not.1 h), firstE_one]
theorem seasonE_bad {e : Int} {s : (Int × Int) × Int} (h : firstE [spanE s.1, rangeE s.2 0 16] ≠ 0) : seasonE e s = firstE [spanE s.1, rangeE s.2 0 16] := by
  show firstE ([_, _] ++ [_]) = _
  rw [firstE_app, if_neg h]
theorem spanE_ok {p : Int × Int} (h : spanE p = 0) : 0 ≤ p.1 ∧ p.1 < p.2 ∧ p.2 ≤ 100000 := by
  unfold spanE at h
  by_cases h1 : p.1 < 0 ∨ p.2 ≤ p.1 ∨ 100000 < p.2
  · rw [if_pos h1] at h; cases h
  omega
theorem seasonE_span {s : (Int × Int) × Int} (h : ¬ firstE [spanE s.1, rangeE s.2 0 16] ≠ 0) : 0 ≤ s.1.1 := by
  have h := Decidable.not_not.1 h
  rw [firstE_two] at h
  by_cases h1 : spanE s.1 = 0
  · exact (spanE_ok h1).1
  rw [if_neg h1] at h; exact absurd h h1
theorem rSeas_ok {l : List ((Int × Int) × Int)} (hl : l.length < 1000000) : VF Tryz.prog OA 28 [.v y23 l] (I (seasE l)) := by
  refine VF.enter Tryz.func28 rfl (fun _ _ => rfl) rfl ?_
  show VC _ _ _ _ _ [(0, .v y23 l)] [] _
  refine VC.seq (VC.text ?_)
  refine VO.c (.assign rfl) ?_
  refine VO.go (VC.seq (VC.seq (VC.text ?_)))
  refine VO.c (.move rfl) ?_
  refine VO.r (.len el23) ?_
  refine VO.c (.gtr) ?_
  refine VO.go ?_
  refine VC.condD rfl (fun c1 => ?_) (fun c1 => ?_)
  · refine VC.seq (VC.text ?_)
    refine VO.c (.assign rfl) ?_
    refine VO.go ?_
    refine VC.ret ?_
    exact VEnd.one rfl evT (pvI (by rw [seasE, if_pos c1]))
  refine VC.skip (VC.seq (VC.seq (VC.text ?_)))
  refine VO.c (.assign rfl) ?_
  refine VO.go (VC.block ?_)
  refine VC.keep [(0, .v y23 l), (3, I ((0 : Nat) : Int))] ⟨rfl, rfl, trivial⟩ ?_
  refine VC.loop (I := fun kk ff ss => ∃ (j : Nat), kk = l.length - j ∧ ff = [(0, .v y23 l), (3, I ((j : Nat) : Int))] ∧ ss = [] ∧ (j ≤ l.length) ∧ (seasE l = ssE (endP l j) (l.drop j))) ?_ _ _ _ ⟨0, rfl, rfl, rfl, Nat.zero_le _, (by exact if_neg c1)⟩
  rintro kk ff ss ⟨j, hk0, rfl, rfl, hj, hw⟩
  refine VC.seq (VC.seq (VC.text ?_))
  refine VO.c (.move rfl) ?_
  refine VO.c (.move rfl) ?_
  refine VO.r (.len el23) ?_
  refine VO.c (.lss) ?_
  refine VO.go ?_
  refine VC.condD rfl (fun c4 => ?_) (fun c4 => ?_)
  · refine VC.skip (VC.seq (VC.block (VC.seq (VC.seq (VC.drawn ?_)))))
    refine VD.c (.move rfl) ?_
    refine VD.c (.move rfl) ?_
    refine VD.c (.ix (j := j) rfl rfl el23 (by omega)) ?_
    refine VD.c (.fa (.l .o)) ?_
    refine VD.r [] (.ld vt29) (.inl rfl) ?_
    refine VD.call rfl rfl (VF.call (rSpan_ok )) ?_
    refine VD.nw [] ?_
    refine VD.c (.move rfl) ?_
    refine VD.c (.move rfl) ?_
    refine VD.c (.ix (j := j) rfl rfl el23 (by omega)) ?_
    refine VD.c (.fa (.r .o)) ?_
    refine VD.r [] (.ld vt3) (.inl rfl) ?_
    refine VD.call rfl rfl (VF.call (rCheckRange_ok )) ?_
    refine VD.new (.lit [spanE ((l[j]).1), rangeE ((l[j]).2) (0 : Int) (16 : Int)] el39) ?_
    refine VD.nw [26] ?_
    refine VD.callO rfl rfl (VF.call (rFirst_ok (by simp))) ?_
    refine VD.c (.assign rfl) ?_
    refine VD.go (VC.seq (VC.text ?_))
    refine VO.c (.move rfl) ?_
    refine VO.c (.neq) ?_
    refine VO.go ?_
    refine VC.condD rfl (fun c7 => ?_) (fun c7 => ?_)
    · refine VC.seq (VC.text ?_)
      refine VO.c (.move rfl) ?_
      refine VO.c (.assign rfl) ?_
      refine VO.go ?_
      refine VC.ret ?_
      exact VEnd.one rfl evT (pvI (by rw [hw, ssE_drop (by omega), seasonE_bad c7, if_neg c7]))
    refine VC.skip (VC.seq (VC.drawn ?_))
    refine VD.c (.move rfl) ?_
    refine VD.c (.gtr) ?_
    refine VD.c (.move rfl) ?_
    refine VD.splitD (x := 33) rfl (fun g9_2 => ?_) (fun g9_2 => ?_)
    · refine VD.c (.move rfl) ?_
      refine VD.c (.move rfl) ?_
      refine VD.nw [] ?_
      refine VD.c (.ix (j := j) rfl rfl el23 (by omega)) ?_
      refine VD.c (.fa (.l .o)) ?_
      refine VD.c (.fa (.l .o)) ?_
      refine VD.r [] (.ld vt3) (.inl rfl) ?_
      refine VD.c (.move rfl) ?_
      refine VD.c (.move rfl) ?_
      refine VD.c (.sub rfl rfl (by omega)) ?_
      refine VD.nw [] ?_
      refine VD.c (.ixZ (k := (((j : Nat) : Int) - (1 : Int))) rfl rfl el23 (by omega) (by omega)) ?_
      refine VD.c (.fa (.l .o)) ?_
      refine VD.c (.fa (.r .o)) ?_
      refine VD.r [] (.ld vt3) (.inl rfl) ?_
      refine VD.c (.lss) ?_
      refine VD.c (.pickT rfl rfl) ?_
      refine VD.go ?_
      refine VC.condD rfl (fun c9 => ?_) (fun c9 => ?_)
      · refine VC.seq ?_
        refine VC.keep [(0, .v y23 l), (3, I ((j : Nat) : Int))] ⟨rfl, rfl, trivial⟩ ?_
        refine VC.text ?_
        refine VO.c (.assign rfl) ?_
        refine VO.go ?_
        refine VC.ret ?_
        exact VEnd.one rfl evT (pvI (by rw [hw, ssE_drop (by omega), seasonE_two c7, endP_int g9_2 (by omega), decide_eq_true (by simpa using c9)] <;> rfl))
      have hz : seasonE (endP l j) l[j] = 0 := by rw [seasonE_two c7, endP_int g9_2 (by omega), decide_eq_false (by simpa using c9)] <;> rfl
      refine VC.skip ?_
      refine VC.keep [(0, .v y23 l), (3, I ((j : Nat) : Int))] ⟨rfl, rfl, trivial⟩ ?_
      refine VC.text ?_
      refine VO.c (.move rfl) ?_
      refine VO.c (.add rfl rfl (by omega)) ?_
      refine VO.c (.assign rfl) ?_
      refine VO.nil ?_
      refine ⟨_, [(0, .v y23 l), (3, I (((j + 1) : Nat) : Int))], ?_, ⟨rfl, rfl, trivial⟩, (j + 1), rfl, rfl, rfl, (by omega), (by rw [hw, ssE_drop (by omega), if_pos hz, endP_succ (by omega)])⟩
      omega
    have hz : seasonE (endP l j) l[j] = 0 := by rw [seasonE_two c7, show endP l j = 0 from if_pos (by omega), decide_eq_false (by have := seasonE_span c7; omega)] <;> rfl
    refine VD.skip ?_
    refine VD.skip ?_
    refine VD.nw [] ?_
    refine VD.skip ?_
    refine VD.skip ?_
    refine VD.skip ?_
    refine VD.skip ?_
    refine VD.skip ?_
    refine VD.skip ?_
    refine VD.skip ?_
    refine VD.nw [] ?_
    refine VD.skip ?_
    refine VD.skip ?_
    refine VD.skip ?_
    refine VD.skip ?_
    refine VD.skip ?_
    refine VD.c (.pickF rfl rfl) ?_
    refine VD.go ?_
    refine VC.condF rfl ?_
    refine VC.skip ?_
    refine VC.keep [(0, .v y23 l), (3, I ((j : Nat) : Int))] ⟨rfl, rfl, trivial⟩ ?_
    refine VC.text ?_
    refine VO.c (.move rfl) ?_
    refine VO.c (.add rfl rfl (by omega)) ?_
    refine VO.c (.assign rfl) ?_
    refine VO.nil ?_
    refine ⟨_, [(0, .v y23 l), (3, I (((j + 1) : Nat) : Int))], ?_, ⟨rfl, rfl, trivial⟩, (j + 1), rfl, rfl, rfl, (by omega), (by rw [hw, ssE_drop (by omega), if_pos hz, endP_succ (by omega)])⟩
    omega
  refine VC.exit (VC.seq (VC.text ?_))
  refine VO.c (.assign rfl) ?_
  refine VO.go ?_
  refine VC.ret ?_
  exact VEnd.one rfl evT (pvI (by rw [hw, ssE_end (by omega)]))
end Go.Proofs
namespace Go.Proofs
open Go.Fs
set_option linter.unusedVariables false
abbrev y128 : Ty := (.pair (.int .i64) (.int .i64))
theorem vt128 : ValT Tryz.prog 128 y128 := valT_of (by kernel_rfl)
theorem zt128 : ZerT Tryz.prog 128 y128 := zerT_of (z := .agg #[.int .i64 0, .int .i64 0]) (by kernel_rfl) rfl rfl
theorem bt128 : BldT Tryz.prog 128 y128 [(0, 1), (1, 1)] := bldT_of zt128 rfl (by kernel_rfl)
def idxG {α : Type} (F : α → Bool) : List α → Int → Int
  | [], _ => -1
  | x :: l, k => if F x = true then k else idxG F l (k + 1)
theorem idxG_drop {α : Type} {F : α → Bool} {l : List α} {j : Nat} (hj : j < l.length) : idxG F (l.drop j) (j : Nat) = if F l[j] = true then ((j : Nat) : Int) else idxG F (l.drop (j + 1)) ((j + 1 : Nat) : Int) := by
  rw [List.drop_eq_getElem_cons hj] <;> rfl
theorem idxG_end {α : Type} {F : α → Bool} {l : List α} {j : Nat} {k : Int} (hj : l.length ≤ j) : idxG F (l.drop j) k = -1 := by rw [List.drop_eq_nil_of_le hj] <;> rfl
theorem idxG_any {α : Type} {F : α → Bool} : ∀ {l : List α} {k : Int}, 0 ≤ k → ((0 ≤ idxG F l k) ↔ l.any F = true)
  | [], k, _ => by simp [idxG]
  | x :: l, k, h => by
    unfold idxG
    rw [List.any_cons]
    by_cases hx : F x = true
    · rw [if_pos hx, hx]; simp [h]
    rw [if_neg hx, idxG_any (l := l) (by omega)]; simp [hx]
theorem zIndexF_ok {F : ByteArray → Bool} {l : List ByteArray} {f : PV} (hl : l.length < 1000000) (hf : ∀ x ∈ l, VCall Tryz.prog OA f [.v .str x] (B (F x))) : VF Tryz.prog OA 171 [.v (.sl .str) l, f] (I (idxG F l 0)) := by
  refine VF.enter Tryz.func171 rfl (fun _ _ => rfl) rfl ?_
  show VC _ _ _ _ _ [(0, .v (.sl .str) l), (1, f)] [] _
  refine VC.seq (VC.text ?_)
  refine VO.c (.assign rfl) ?_
  refine VO.go (VC.seq (VC.seq (VC.text ?_)))
  refine VO.c (.move rfl) ?_
  refine VO.r (.len el27) ?_
  refine VO.c (.move rfl) ?_
  refine VO.go (VC.block ?_)
  refine VC.keep [(0, .v (.sl .str) l), (1, f), (7, I ((l.length : Nat) : Int)), (8, I ((0 : Nat) : Int))] ⟨rfl, rfl, rfl, rfl, trivial⟩ ?_
  refine VC.loop (I := fun kk ff ss => ∃ (j : Nat), kk = l.length - j ∧ ff = [(0, .v (.sl .str) l), (1, f), (7, I ((l.length : Nat) : Int)), (8, I ((j : Nat) : Int))] ∧ ss = [] ∧ (j ≤ l.length) ∧ (idxG F l 0 = idxG F (l.drop j) (j : Nat))) ?_ _ _ _ ⟨0, rfl, rfl, rfl, Nat.zero_le _, (by rfl)⟩
  rintro kk ff ss ⟨j, hk0, rfl, rfl, hj, hi⟩
  refine VC.seq (VC.text ?_)
  refine VO.c (.lss) ?_
  refine VO.go (VC.seq ?_)
  refine VC.condD rfl (fun c2 => ?_) (fun c2 => ?_)
  · refine VC.skip (VC.seq (VC.block (VC.seq (VC.text ?_))))
    refine VO.c (.move rfl) ?_
    refine VO.c (.assign rfl) ?_
    refine VO.go (VC.seq (VC.text ?_))
    refine VO.c (.move rfl) ?_
    refine VO.c (.move rfl) ?_
    refine VO.c (.move rfl) ?_
    refine VO.c (.ix (j := j) rfl rfl el27 (by omega)) ?_
    refine VO.r (.ld vt9) ?_
    refine VO.call rfl rfl ((hf _ (List.getElem_mem _)) ) ?_
    refine VO.go ?_
    refine VC.condB rfl (fun c4 => ?_) (fun c4 => ?_)
    · refine VC.seq (VC.text ?_)
      refine VO.c (.move rfl) ?_
      refine VO.c (.assign rfl) ?_
      refine VO.go ?_
      refine VC.ret ?_
      exact VEnd.one rfl evT (pvI (by rw [hi, idxG_drop (by omega), if_pos c4]))
    refine VC.skip (VC.text ?_)
    refine VO.c (.add rfl rfl (by omega)) ?_
    refine VO.c (.move rfl) ?_
    refine VO.nil ?_
    refine ⟨_, [(0, .v (.sl .str) l), (1, f), (7, I ((l.length : Nat) : Int)), (8, I (((j + 1) : Nat) : Int))], ?_, ⟨rfl, rfl, rfl, rfl, trivial⟩, (j + 1), rfl, rfl, rfl, (by omega), (by rw [hi, idxG_drop (by omega), if_neg (by rw [c4]; decide)])⟩
    omega
  refine VC.exit (VC.seq (VC.text ?_))
  refine VO.c (.assign rfl) ?_
  refine VO.go ?_
  refine VC.ret ?_
  exact VEnd.one rfl evT (pvI (by rw [hi, idxG_end (by omega)]))
theorem zContainsF_ok {F : ByteArray → Bool} {l : List ByteArray} {f : PV} (hl : l.length < 1000000) (hf : ∀ x ∈ l, VCall Tryz.prog OA f [.v .str x] (B (F x))) : VF Tryz.prog OA 136 [.v (.sl .str) l, f] (B (l.any F)) := by
  refine VF.enter Tryz.func136 rfl (fun _ _ => rfl) rfl ?_
  show VC _ _ _ _ _ [(0, .v (.sl .str) l), (1, f)] [] _
  refine VC.seq (VC.text ?_)
  refine VO.c (.assign rfl) ?_
  refine VO.go (VC.seq (VC.text ?_))
  refine VO.c (.move rfl) ?_
  refine VO.c (.move rfl) ?_
  refine VO.call rfl rfl (VF.call (zIndexF_ok (F := F) hl hf)) ?_
  refine VO.c (.geq) ?_
  refine VO.c (.assign rfl) ?_
  refine VO.go ?_
  refine VC.ret ?_
  exact VEnd.one rfl evT (pvE (by have h9 := idxG_any (F := F) (l := l) (k := 0) (by omega); cases h8 : l.any F <;> simp_all))
theorem zIndex_ok {l : List ByteArray} {v : ByteArray} (hl : l.length < 1000000) : VF Tryz.prog OA 163 [.v (.sl .str) l, St v] (I (idxG (fun x => decide (v = x)) l 0)) := by
  refine VF.enter Tryz.func163 rfl (fun _ _ => rfl) rfl ?_
  show VC _ _ _ _ _ [(0, .v (.sl .str) l), (1, St v)] [] _
  refine VC.seq (VC.text ?_)
  refine VO.c (.assign rfl) ?_
  refine VO.go (VC.seq (VC.seq (VC.text ?_)))
  refine VO.c (.move rfl) ?_
  refine VO.r (.len el27) ?_
  refine VO.c (.move rfl) ?_
  refine VO.go (VC.block ?_)
  refine VC.keep [(0, .v (.sl .str) l), (1, St v), (7, I ((l.length : Nat) : Int)), (8, I ((0 : Nat) : Int))] ⟨rfl, rfl, rfl, rfl, trivial⟩ ?_
  refine VC.loop (I := fun kk ff ss => ∃ (j : Nat), kk = l.length - j ∧ ff = [(0, .v (.sl .str) l), (1, St v), (7, I ((l.length : Nat) : Int)), (8, I ((j : Nat) : Int))] ∧ ss = [] ∧ (j ≤ l.length) ∧ (idxG (fun x => decide (v = x)) l 0 = idxG (fun x => decide (v = x)) (l.drop j) (j : Nat))) ?_ _ _ _ ⟨0, rfl, rfl, rfl, Nat.zero_le _, (by rfl)⟩
  rintro kk ff ss ⟨j, hk0, rfl, rfl, hj, hi⟩
  refine VC.seq (VC.text ?_)
  refine VO.c (.lss) ?_
  refine VO.go (VC.seq ?_)
  refine VC.condD rfl (fun c2 => ?_) (fun c2 => ?_)
  · refine VC.skip (VC.seq (VC.block (VC.seq (VC.text ?_))))
    refine VO.c (.move rfl) ?_
    refine VO.c (.assign rfl) ?_
    refine VO.go (VC.seq (VC.text ?_))
    refine VO.c (.move rfl) ?_
    refine VO.c (.move rfl) ?_
    refine VO.c (.move rfl) ?_
    refine VO.c (.ix (j := j) rfl rfl el27 (by omega)) ?_
    refine VO.r (.ld vt9) ?_
    refine VO.c (.seql) ?_
    refine VO.go ?_
    refine VC.condD rfl (fun c4 => ?_) (fun c4 => ?_)
    · refine VC.seq (VC.text ?_)
      refine VO.c (.move rfl) ?_
      refine VO.c (.assign rfl) ?_
      refine VO.go ?_
      refine VC.ret ?_
      exact VEnd.one rfl evT (pvI (by rw [hi, idxG_drop (by omega), if_pos (by simpa using c4)]))
    refine VC.skip (VC.text ?_)
    refine VO.c (.add rfl rfl (by omega)) ?_
    refine VO.c (.move rfl) ?_
    refine VO.nil ?_
    refine ⟨_, [(0, .v (.sl .str) l), (1, St v), (7, I ((l.length : Nat) : Int)), (8, I (((j + 1) : Nat) : Int))], ?_, ⟨rfl, rfl, rfl, rfl, trivial⟩, (j + 1), rfl, rfl, rfl, (by omega), (by rw [hi, idxG_drop (by omega), if_neg (by simpa using c4)])⟩
    omega
  refine VC.exit (VC.seq (VC.text ?_))
  refine VO.c (.assign rfl) ?_
  refine VO.go ?_
  refine VC.ret ?_
  exact VEnd.one rfl evT (pvI (by rw [hi, idxG_end (by omega)]))
def hasB (l : List ByteArray) (v : ByteArray) : Bool := l.any fun x => decide (x = v)
theorem hasB_comm {l : List ByteArray} {v : ByteArray} : (l.any fun x => decide (v = x)) = hasB l v := by
  unfold hasB
  congr 1
  funext x
  exact decide_eq_decide.2 ⟨Eq.symm, Eq.symm⟩
theorem zContains_ok {l : List ByteArray} {v : ByteArray} (hl : l.length < 1000000) : VF Tryz.prog OA 122 [.v (.sl .str) l, St v] (B (hasB l v)) := by
  refine VF.enter Tryz.func122 rfl (fun _ _ => rfl) rfl ?_
  show VC _ _ _ _ _ [(0, .v (.sl .str) l), (1, St v)] [] _
  refine VC.seq (VC.text ?_)
  refine VO.c (.assign rfl) ?_
  refine VO.go (VC.seq (VC.text ?_))
  refine VO.c (.move rfl) ?_
  refine VO.c (.move rfl) ?_
  refine VO.call rfl rfl (VF.call (zIndex_ok hl)) ?_
  refine VO.c (.geq) ?_
  refine VO.c (.assign rfl) ?_
  refine VO.go ?_
  refine VC.ret ?_
  exact VEnd.one rfl evT (pvE (by have h9 := idxG_any (F := fun x => decide (v = x)) (l := l) (k := 0) (by omega); rw [hasB_comm] at h9; cases h8 : hasB l v <;> simp_all))
def commonB (a b : List ByteArray) : Bool := a.any fun x => hasB b x
abbrev Permit := ByteArray × ByteArray × ByteArray × List ByteArray × Int × Int
theorem sShares1_ok {s : ByteArray} {o : ByteArray × ByteArray × ByteArray × (List ByteArray) × (Int × Int)} (ho : o.2.2.2.1.length < 1000000) : VF Tryz.prog OA 214 [St s, .p y35 o] (B (hasB o.2.2.2.1 s)) := by
  refine VF.enter Tryz.func214 rfl (fun _ _ => rfl) rfl ?_
  show VC _ _ _ _ _ [(0, St s), (1, .p y35 o)] [] _
  refine VC.seq (VC.text ?_)
  refine VO.c (.assign rfl) ?_
  refine VO.go (VC.seq (VC.text ?_))
  refine VO.c (.fa (.r (.r (.r (.l .o))))) ?_
  refine VO.r (.ld vt27) ?_
  refine VO.c (.move rfl) ?_
  refine VO.call rfl rfl (VF.call (zContains_ok ho)) ?_
  refine VO.c (.assign rfl) ?_
  refine VO.go ?_
  refine VC.ret ?_
  exact VEnd.one rfl evT (pvE (by rfl))
theorem sShares_ok {p : ByteArray × ByteArray × ByteArray × (List ByteArray) × (Int × Int)} {o : ByteArray × ByteArray × ByteArray × (List ByteArray) × (Int × Int)} (hp : p.2.2.2.1.length < 1000000) (ho : o.2.2.2.1.length < 1000000) : VF Tryz.prog OA 187 [.v y35 p, .v y35 o] (B (commonB p.2.2.2.1 o.2.2.2.1)) := by
  refine VF.enter Tryz.func187 rfl (fun _ _ => rfl) rfl ?_
  show VC _ _ _ _ _ [(0, .v y35 p), (1, .v y35 o)] [] _
  refine VC.seq (VC.text ?_)
  refine VO.new (.box) ?_
  refine VO.new (.box) ?_
  refine VO.c (.assign rfl) ?_
  refine VO.go (VC.seq (VC.text ?_))
  refine VO.c (.fa (.r (.r (.r (.l .o))))) ?_
  refine VO.r (.ld vt27) ?_
  refine VO.c (.func) ?_
  refine VO.call rfl rfl (VF.call (zContainsF_ok (F := fun s => hasB o.2.2.2.1 s) hp (fun _ _ => VF.clo (sShares1_ok ho)))) ?_
  refine VO.c (.assign rfl) ?_
  refine VO.go ?_
  refine VC.ret ?_
  exact VEnd.one rfl evT (pvE (by rfl))
theorem sEnds_ok {s : Int × Int} : VF Tryz.prog OA 190 [.v y29 s] (.v y128 s) := by
  refine VF.enter Tryz.func190 rfl (fun _ _ => rfl) rfl ?_
  show VC _ _ _ _ _ [(0, .v y29 s)] [] _
  refine VC.seq (VC.text ?_)
  refine VO.new (.box) ?_
  refine VO.cell (.alloc zt128) ?_
  intro ww1
  refine VO.go (VC.seq (VC.text ?_))
  refine VO.c (.fa (.l .o)) ?_
  refine VO.r (.ld vt3) ?_
  refine VO.c (.fa (.r .o)) ?_
  refine VO.r (.ld vt3) ?_
  refine VO.c (.build (s.1, s.2) bt128) ?_
  refine VO.setV (cs' := [I s.1, I s.2]) vt128 .v ?_
  refine VO.go ?_
  refine VC.ret ?_
  exact VEnd.one rfl (.cell (x := (s.1, s.2)) rfl m0 vt128 .refl) (pvE (by first | rfl | simp))
def meetB (a b : Int × Int) : Bool := decide (a = b) || decide (max a.1 b.1 < min a.2 b.2)
theorem arr2 {a b : Int × Int} : ([a.1, a.2] = [b.1, b.2]) ↔ a = b := by
  obtain ⟨a1, a2⟩ := a
  obtain ⟨b1, b2⟩ := b
  simp
theorem sMeet_ok {a : Int × Int} {b : Int × Int} : VF Tryz.prog OA 185 [.v y29 a, .v y29 b] (B (meetB a b)) := by
  refine VF.enter Tryz.func185 rfl (fun _ _ => rfl) rfl ?_
  show VC _ _ _ _ _ [(0, .v y29 a), (1, .v y29 b)] [] _
  refine VC.seq (VC.text ?_)
  refine VO.new (.box) ?_
  refine VO.new (.box) ?_
  refine VO.c (.assign rfl) ?_
  refine VO.go (VC.seq (VC.drawn ?_))
  refine VD.r [] (.ld vt29) (.inl rfl) ?_
  refine VD.call rfl rfl (VF.call (sEnds_ok )) ?_
  refine VD.r [] (.ld vt29) (.inl rfl) ?_
  refine VD.call rfl rfl (VF.call (sEnds_ok )) ?_
  refine VD.c (.arrCmp (xs := [a.1, a.2]) (ys := [b.1, b.2]) (.inl ⟨rfl, rfl⟩) rfl rfl rfl rfl (by kernel_rfl) rfl) ?_
  refine VD.c (.move rfl) ?_
  refine VD.nw [] ?_
  refine VD.splitD (x := 10) rfl (fun g1_5 => ?_) (fun g1_5 => ?_)
  · refine VD.skip ?_
    refine VD.skip ?_
    refine VD.skip ?_
    refine VD.skip ?_
    refine VD.skip ?_
    refine VD.skip ?_
    refine VD.nw [] ?_
    refine VD.skip ?_
    refine VD.skip ?_
    refine VD.skip ?_
    refine VD.skip ?_
    refine VD.skip ?_
    refine VD.c (.pickT rfl rfl) ?_
    refine VD.c (.assign rfl) ?_
    refine VD.go ?_
    refine VC.ret ?_
    exact VEnd.one rfl evT (pvE (by simp only [arr2] at *; simp [meetB, *]))
  refine VD.c (.fa (.l .o)) ?_
  refine VD.r [] (.ld vt3) (.inl rfl) ?_
  refine VD.c (.fa (.l .o)) ?_
  refine VD.r [] (.ld vt3) (.inl rfl) ?_
  refine VD.r [] (.max) (.inl rfl) ?_
  refine VD.c (.fa (.r .o)) ?_
  refine VD.nw [] ?_
  refine VD.r [] (.ld vt3) (.inl rfl) ?_
  refine VD.c (.fa (.r .o)) ?_
  refine VD.r [] (.ld vt3) (.inl rfl) ?_
  refine VD.r [] (.min) (.inl rfl) ?_
  refine VD.c (.lss) ?_
  refine VD.c (.pickF rfl rfl) ?_
  refine VD.c (.assign rfl) ?_
  refine VD.go ?_
  refine VC.ret ?_
  exact VEnd.one rfl evT (pvE (by simp only [arr2] at *; simp [meetB, *]))
theorem sReason1_ok {a : ByteArray × ByteArray × ByteArray × (List ByteArray) × (Int × Int)} {b : ByteArray × ByteArray × ByteArray × (List ByteArray) × (Int × Int)} (ha : a.2.2.2.1.length < 1000000) (hb : b.2.2.2.1.length < 1000000) : VF Tryz.prog OA 183 [.v y35 a, .v y35 b] (B (decide (a.1 = b.1))) := by
  refine VF.enter Tryz.func183 rfl (fun _ _ => rfl) rfl ?_
  show VC _ _ _ _ _ [(0, .v y35 a), (1, .v y35 b)] [] _
  refine VC.seq (VC.text ?_)
  refine VO.new (.box) ?_
  refine VO.new (.box) ?_
  refine VO.c (.assign rfl) ?_
  refine VO.go (VC.seq (VC.text ?_))
  refine VO.c (.fa (.l .o)) ?_
  refine VO.r (.ld vt9) ?_
  refine VO.c (.fa (.l .o)) ?_
  refine VO.r (.ld vt9) ?_
  refine VO.c (.seql) ?_
  refine VO.c (.assign rfl) ?_
  refine VO.go ?_
  refine VC.ret ?_
  exact VEnd.one rfl evT (pvE (by rfl))
theorem sReason2_ok {a : ByteArray × ByteArray × ByteArray × (List ByteArray) × (Int × Int)} {b : ByteArray × ByteArray × ByteArray × (List ByteArray) × (Int × Int)} (ha : a.2.2.2.1.length < 1000000) (hb : b.2.2.2.1.length < 1000000) : VF Tryz.prog OA 184 [.v y35 a, .v y35 b] (B (meetB a.2.2.2.2 b.2.2.2.2 && decide (a.2.1 = b.2.1))) := by
  refine VF.enter Tryz.func184 rfl (fun _ _ => rfl) rfl ?_
  show VC _ _ _ _ _ [(0, .v y35 a), (1, .v y35 b)] [] _
  refine VC.seq (VC.text ?_)
  refine VO.new (.box) ?_
  refine VO.new (.box) ?_
  refine VO.c (.assign rfl) ?_
  refine VO.go (VC.seq (VC.text ?_))
  refine VO.c (.fa (.r (.r (.r (.r .o))))) ?_
  refine VO.r (.ld vt29) ?_
  refine VO.c (.fa (.r (.r (.r (.r .o))))) ?_
  refine VO.r (.ld vt29) ?_
  refine VO.call rfl rfl (VF.call (sMeet_ok )) ?_
  refine VO.c (.move rfl) ?_
  refine VO.cg (r := meetB a.2.2.2.2 b.2.2.2.2) (w := true) [] trivial (fun hgd => have g1_5 : meetB a.2.2.2.2 b.2.2.2.2 = true := (by simpa using hgd); (.fa (.r (.l .o)))) ?_
  refine VO.rg (r := meetB a.2.2.2.2 b.2.2.2.2) (w := true) [(11, .p .str a.2.1)] ⟨rfl, trivial⟩ (fun hgd => have g1_5 : meetB a.2.2.2.2 b.2.2.2.2 = true := (by simpa using hgd); (.ld vt9)) ?_
  refine VO.cg (r := meetB a.2.2.2.2 b.2.2.2.2) (w := true) [] trivial (fun hgd => have g1_5 : meetB a.2.2.2.2 b.2.2.2.2 = true := (by simpa using hgd); (.fa (.r (.l .o)))) ?_
  refine VO.rg (r := meetB a.2.2.2.2 b.2.2.2.2) (w := true) [(13, .p .str b.2.1)] ⟨rfl, trivial⟩ (fun hgd => have g1_5 : meetB a.2.2.2.2 b.2.2.2.2 = true := (by simpa using hgd); (.ld vt9)) ?_
  refine VO.cg (r := meetB a.2.2.2.2 b.2.2.2.2) (w := true) [(12, St a.2.1), (14, St b.2.1)] ⟨rfl, rfl, trivial⟩ (fun hgd => have g1_5 : meetB a.2.2.2.2 b.2.2.2.2 = true := (by simpa using hgd); (.seql)) ?_
  refine VO.c (.and) ?_
  refine VO.c (.assign rfl) ?_
  refine VO.go ?_
  refine VC.ret ?_
  exact VEnd.one rfl evT (pvE (by rfl))
theorem sReason3_ok {a : ByteArray × ByteArray × ByteArray × (List ByteArray) × (Int × Int)} {b : ByteArray × ByteArray × ByteArray × (List ByteArray) × (Int × Int)} (ha : a.2.2.2.1.length < 1000000) (hb : b.2.2.2.1.length < 1000000) : VF Tryz.prog OA 186 [.v y35 a, .v y35 b] (B (meetB a.2.2.2.2 b.2.2.2.2 && commonB a.2.2.2.1 b.2.2.2.1)) := by
  refine VF.enter Tryz.func186 rfl (fun _ _ => rfl) rfl ?_
  show VC _ _ _ _ _ [(0, .v y35 a), (1, .v y35 b)] [] _
  refine VC.seq (VC.text ?_)
  refine VO.new (.box) ?_
  refine VO.new (.box) ?_
  refine VO.c (.assign rfl) ?_
  refine VO.go (VC.seq (VC.text ?_))
  refine VO.c (.fa (.r (.r (.r (.r .o))))) ?_
  refine VO.r (.ld vt29) ?_
  refine VO.c (.fa (.r (.r (.r (.r .o))))) ?_
  refine VO.r (.ld vt29) ?_
  refine VO.call rfl rfl (VF.call (sMeet_ok )) ?_
  refine VO.c (.move rfl) ?_
  refine VO.rg (r := meetB a.2.2.2.2 b.2.2.2.2) (w := true) [] trivial (fun hgd => have g1_5 : meetB a.2.2.2.2 b.2.2.2.2 = true := (by simpa using hgd); (.ld vt35)) ?_
  refine VO.rg (r := meetB a.2.2.2.2 b.2.2.2.2) (w := true) [] trivial (fun hgd => have g1_5 : meetB a.2.2.2.2 b.2.2.2.2 = true := (by simpa using hgd); (.ld vt35)) ?_
  refine VO.callg (r0 := meetB a.2.2.2.2 b.2.2.2.2) (w := true) [(11, .v y35 a), (12, .v y35 b)] ⟨rfl, rfl, trivial⟩ rfl rfl .same .refl rfl (fun hgd => have g1_5 : meetB a.2.2.2.2 b.2.2.2.2 = true := (by simpa using hgd); VF.call (sShares_ok ha hb)) ?_
  refine VO.c (.and) ?_
  refine VO.c (.assign rfl) ?_
  refine VO.go ?_
  refine VC.ret ?_
  exact VEnd.one rfl evT (pvE (by rfl))
theorem sReason4_ok {a : ByteArray × ByteArray × ByteArray × (List ByteArray) × (Int × Int)} {b : ByteArray × ByteArray × ByteArray × (List ByteArray) × (Int × Int)} (ha : a.2.2.2.1.length < 1000000) (hb : b.2.2.2.1.length < 1000000) : VF Tryz.prog OA 188 [.v y35 a, .v y35 b] (B (meetB a.2.2.2.2 b.2.2.2.2 && (hasB a.2.2.2.1 b.2.2.1 || hasB b.2.2.2.1 a.2.2.1))) := by
  refine VF.enter Tryz.func188 rfl (fun _ _ => rfl) rfl ?_
  show VC _ _ _ _ _ [(0, .v y35 a), (1, .v y35 b)] [] _
  refine VC.seq (VC.text ?_)
  refine VO.new (.box) ?_
  refine VO.new (.box) ?_
  refine VO.c (.assign rfl) ?_
  refine VO.go (VC.seq (VC.text ?_))
  refine VO.c (.fa (.r (.r (.r (.r .o))))) ?_
  refine VO.r (.ld vt29) ?_
  refine VO.c (.fa (.r (.r (.r (.r .o))))) ?_
  refine VO.r (.ld vt29) ?_
  refine VO.call rfl rfl (VF.call (sMeet_ok )) ?_
  refine VO.c (.move rfl) ?_
  refine VO.splitB (x := 10) rfl (fun g1_5 => ?_) (fun g1_5 => ?_)
  · refine VO.c (.fa (.r (.r (.r (.l .o))))) ?_
    refine VO.r (.ld vt27) ?_
    refine VO.c (.fa (.r (.r (.l .o)))) ?_
    refine VO.r (.ld vt9) ?_
    refine VO.call rfl rfl (VF.call (zContains_ok ha)) ?_
    refine VO.c (.move rfl) ?_
    refine VO.cg (r := hasB a.2.2.2.1 b.2.2.1) (w := false) [] trivial (fun hgd => have g1_11 : hasB a.2.2.2.1 b.2.2.1 = false := (by simpa using hgd); (.fa (.r (.r (.r (.l .o)))))) ?_
    refine VO.rg (r := hasB a.2.2.2.1 b.2.2.1) (w := false) [(17, .p (.sl .str) b.2.2.2.1)] ⟨rfl, trivial⟩ (fun hgd => have g1_11 : hasB a.2.2.2.1 b.2.2.1 = false := (by simpa using hgd); (.ld vt27)) ?_
    refine VO.cg (r := hasB a.2.2.2.1 b.2.2.1) (w := false) [] trivial (fun hgd => have g1_11 : hasB a.2.2.2.1 b.2.2.1 = false := (by simpa using hgd); (.fa (.r (.r (.l .o))))) ?_
    refine VO.rg (r := hasB a.2.2.2.1 b.2.2.1) (w := false) [(19, .p .str a.2.2.1)] ⟨rfl, trivial⟩ (fun hgd => have g1_11 : hasB a.2.2.2.1 b.2.2.1 = false := (by simpa using hgd); (.ld vt9)) ?_
    refine VO.callg (r0 := hasB a.2.2.2.1 b.2.2.1) (w := false) [(18, .v (.sl .str) b.2.2.2.1), (20, St a.2.2.1)] ⟨rfl, rfl, trivial⟩ rfl rfl .same .refl rfl (fun hgd => have g1_11 : hasB a.2.2.2.1 b.2.2.1 = false := (by simpa using hgd); VF.call (zContains_ok hb)) ?_
    refine VO.c (.or) ?_
    refine VO.c (.pickT rfl rfl) ?_
    refine VO.c (.assign rfl) ?_
    refine VO.go ?_
    refine VC.ret ?_
    exact VEnd.one rfl evT (pvE (by simp [*]))
  refine VO.skip ?_
  refine VO.skip ?_
  refine VO.skip ?_
  refine VO.skip ?_
  refine VO.skip ?_
  refine VO.skip ?_
  refine VO.skip ?_
  refine VO.skip ?_
  refine VO.skip ?_
  refine VO.skip ?_
  refine VO.skip ?_
  refine VO.skip ?_
  refine VO.c (.pickF rfl rfl) ?_
  refine VO.c (.assign rfl) ?_
  refine VO.go ?_
  refine VC.ret ?_
  exact VEnd.one rfl evT (pvE (by simp [*]))
def reasonIx (a b : Permit) : Nat :=
  if decide (a.1 = b.1) = true then 0
  else if (meetB a.2.2.2.2 b.2.2.2.2 && decide (a.2.1 = b.2.1)) = true then 1
  else if (meetB a.2.2.2.2 b.2.2.2.2 && commonB a.2.2.2.1 b.2.2.2.1) = true then 2
  else if (meetB a.2.2.2.2 b.2.2.2.2 && (hasB a.2.2.2.1 b.2.2.1 || hasB b.2.2.2.1 a.2.2.1)) = true then 3
  else 4
def nameR : Nat → ByteArray
  | 0 => ⟨#[110, 97, 109, 101]⟩
  | 1 => ⟨#[99, 114, 101, 119]⟩
  | 2 => ⟨#[108, 111, 99, 107]⟩
  | 3 => ⟨#[103, 97, 116, 101]⟩
  | _ => ByteArray.empty
end Go.Proofs
namespace Go.Proofs
open Go.Fs
set_option linter.unusedVariables false
abbrev y140 : Ty := (.pair .str (.pair .fn (.int .i64)))
abbrev y205 : Ty := (.pair (.pair .str (.pair .fn (.int .i64))) (.pair (.pair .str (.pair .fn (.int .i64))) (.pair (.pair .str (.pair .fn (.int .i64))) (.pair .str (.pair .fn (.int .i64))))))
theorem vt138 : ValT Tryz.prog 138 .fn := valT_of (by kernel_rfl)
theorem vt140 : ValT Tryz.prog 140 y140 := valT_of (by kernel_rfl)
theorem vt205 : ValT Tryz.prog 205 y205 := valT_of (by kernel_rfl)
theorem zt140 : ZerT Tryz.prog 140 y140 := zerT_of (z := .agg #[.string ByteArray.empty, .nilFunc, .int .i64 0]) (by kernel_rfl) rfl rfl
theorem zt205 : ZerT Tryz.prog 205 y205 := zerT_of (z := .agg #[.string ByteArray.empty, .nilFunc, .int .i64 0, .string ByteArray.empty, .nilFunc, .int .i64 0, .string ByteArray.empty, .nilFunc, .int .i64 0, .string ByteArray.empty, .nilFunc, .int .i64 0]) (by kernel_rfl) rfl rfl
theorem bt140 : BldT Tryz.prog 140 y140 [(0, 1), (1, 1), (2, 1)] := bldT_of zt140 rfl (by kernel_rfl)
theorem bt205 : BldT Tryz.prog 205 y205 [(0, 3), (3, 3), (6, 3), (9, 3)] := bldT_of zt205 rfl (by kernel_rfl)
theorem sReasons_ok  : VF Tryz.prog OA 151 [] (.v y205 ((⟨#[110, 97, 109, 101]⟩, some 183, 9), (⟨#[99, 114, 101, 119]⟩, some 184, 15), (⟨#[108, 111, 99, 107]⟩, some 186, 33), (⟨#[103, 97, 116, 101]⟩, some 188, 33))) := by
  refine VF.enter Tryz.func151 rfl (fun _ _ => rfl) rfl ?_
  show VC _ _ _ _ _ [] [] _
  refine VC.seq (VC.text ?_)
  refine VO.cell (.alloc zt205) ?_
  intro ww1
  refine VO.go (VC.seq (VC.text ?_))
  refine VO.c (.buildF (⟨#[110, 97, 109, 101]⟩, some 183, (9 : Int)) bt140 (.same (.fn (.same .nil)))) ?_
  refine VO.c (.buildF (⟨#[99, 114, 101, 119]⟩, some 184, (15 : Int)) bt140 (.same (.fn (.same .nil)))) ?_
  refine VO.c (.buildF (⟨#[108, 111, 99, 107]⟩, some 186, (33 : Int)) bt140 (.same (.fn (.same .nil)))) ?_
  refine VO.c (.buildF (⟨#[103, 97, 116, 101]⟩, some 188, (33 : Int)) bt140 (.same (.fn (.same .nil)))) ?_
  refine VO.c (.build ((⟨#[110, 97, 109, 101]⟩, some 183, (9 : Int)), (⟨#[99, 114, 101, 119]⟩, some 184, (15 : Int)), (⟨#[108, 111, 99, 107]⟩, some 186, (33 : Int)), (⟨#[103, 97, 116, 101]⟩, some 188, (33 : Int))) bt205) ?_
  refine VO.setV (cs' := [St (⟨#[110, 97, 109, 101]⟩), .v .fn (some 183), I (9 : Int), St (⟨#[99, 114, 101, 119]⟩), .v .fn (some 184), I (15 : Int), St (⟨#[108, 111, 99, 107]⟩), .v .fn (some 186), I (33 : Int), St (⟨#[103, 97, 116, 101]⟩), .v .fn (some 188), I (33 : Int)]) vt205 .v ?_
  refine VO.go ?_
  refine VC.ret ?_
  exact VEnd.one rfl (.cell (x := ((⟨#[110, 97, 109, 101]⟩, some 183, (9 : Int)), (⟨#[99, 114, 101, 119]⟩, some 184, (15 : Int)), (⟨#[108, 111, 99, 107]⟩, some 186, (33 : Int)), (⟨#[103, 97, 116, 101]⟩, some 188, (33 : Int)))) rfl m0 vt205 .refl) (pvE (by first | rfl | simp))
def reasonR : Nat → ByteArray × Option Nat × Int
  | 0 => (⟨#[110, 97, 109, 101]⟩, some 183, 9)
  | 1 => (⟨#[99, 114, 101, 119]⟩, some 184, 15)
  | 2 => (⟨#[108, 111, 99, 107]⟩, some 186, 33)
  | 3 => (⟨#[103, 97, 116, 101]⟩, some 188, 33)
  | _ => (ByteArray.empty, none, 0)
theorem reasonR_name (k : Nat) : (reasonR k).1 = nameR k := by
  rcases k with _ | _ | _ | _ | k <;> rfl
theorem sExcl_ok {a : ByteArray × ByteArray × ByteArray × (List ByteArray) × (Int × Int)} {b : ByteArray × ByteArray × ByteArray × (List ByteArray) × (Int × Int)} (ha : a.2.2.2.1.length < 1000000) (hb : b.2.2.2.1.length < 1000000) : VF Tryz.prog OA 90 [.v y35 a, .v y35 b] (.v y140 (reasonR (reasonIx a b))) := by
  refine VF.enter Tryz.func90 rfl (fun _ _ => rfl) rfl ?_
  show VC _ _ _ _ _ [(0, .v y35 a), (1, .v y35 b)] [] _
  refine VC.seq (VC.text ?_)
  refine VO.new (.box) ?_
  refine VO.new (.box) ?_
  refine VO.cell (.alloc zt140) ?_
  intro ww2
  refine VO.go (VC.seq (VC.seq (VC.text ?_)))
  refine VO.call rfl rfl (VF.call (sReasons_ok )) ?_
  refine VO.c (.move rfl) ?_
  refine VO.go (VC.block ?_)
  refine VC.unroll ?_
  refine VC.seq (VC.text ?_)
  refine VO.c (.lss) ?_
  refine VO.go (VC.seq ?_)
  refine VC.condT rfl ?_
  refine VC.skip (VC.seq (VC.block (VC.seq (VC.text ?_))))
  refine VO.c (.ixA 0 (τ' := y140) (dy := (⟨#[110, 97, 109, 101]⟩, some 183, 9)) (.l .o)) ?_
  refine VO.cell (.alloc zt140) ?_
  intro ww3
  refine VO.setV (cs' := [St (⟨#[110, 97, 109, 101]⟩), .v .fn (some 183), I 9]) vt140 .v ?_
  refine VO.shut [(6, .p y140 (⟨#[110, 97, 109, 101]⟩, some 183, 9))] (.cons rfl (.var m0 .refl) .nil) ?_
  refine VO.go (VC.seq (VC.text ?_))
  refine VO.c (.fa (τ' := .fn) (dy := some 183) (.r (.l .o))) ?_
  refine VO.r (.ld vt138) ?_
  refine VO.r (.ld vt35) ?_
  refine VO.r (.ld vt35) ?_
  refine VO.callF rfl rfl rfl (VF.call (sReason1_ok ha hb)) ?_
  refine VO.go ?_
  refine VC.condB rfl (fun c4 => ?_) (fun c4 => ?_)
  · try simp only [Bool.and_eq_true, Bool.or_eq_true, Bool.and_eq_false_iff, Bool.or_eq_false_iff, Bool.not_eq_true', Bool.not_eq_false', decide_eq_true_eq, decide_eq_false_iff_not] at c4
    refine VC.seq (VC.text ?_)
    refine VO.r (.ld vt140) ?_
    refine VO.setV (cs' := [St (⟨#[110, 97, 109, 101]⟩), .v .fn (some 183), I 9]) vt140 .v ?_
    refine VO.go ?_
    refine VC.ret ?_
    exact VEnd.one rfl (.cell (x := (⟨#[110, 97, 109, 101]⟩, some 183, 9)) rfl m0 vt140 .refl) (pvE (by cases h1 : meetB a.2.2.2.2 b.2.2.2.2 <;> simp_all [reasonIx] <;> rfl))
  try simp only [Bool.and_eq_true, Bool.or_eq_true, Bool.and_eq_false_iff, Bool.or_eq_false_iff, Bool.not_eq_true', Bool.not_eq_false', decide_eq_true_eq, decide_eq_false_iff_not] at c4
  refine VC.skip (VC.text ?_)
  refine VO.c (.add rfl rfl (by decide)) ?_
  refine VO.c (.move rfl) ?_
  refine VO.nil ?_
  refine VC.unroll ?_
  refine VC.seq (VC.text ?_)
  refine VO.c (.lss) ?_
  refine VO.go (VC.seq ?_)
  refine VC.condT rfl ?_
  refine VC.skip (VC.seq (VC.block (VC.seq (VC.text ?_))))
  refine VO.c (.ixA 1 (τ' := y140) (dy := (⟨#[99, 114, 101, 119]⟩, some 184, 15)) (.r (.l .o))) ?_
  refine VO.cell (.alloc zt140) ?_
  intro ww4
  refine VO.setV (cs' := [St (⟨#[99, 114, 101, 119]⟩), .v .fn (some 184), I 15]) vt140 .v ?_
  refine VO.shut [(6, .p y140 (⟨#[99, 114, 101, 119]⟩, some 184, 15))] (.cons rfl (.var m0 .refl) .nil) ?_
  refine VO.go (VC.seq (VC.text ?_))
  refine VO.c (.fa (τ' := .fn) (dy := some 184) (.r (.l .o))) ?_
  refine VO.r (.ld vt138) ?_
  refine VO.r (.ld vt35) ?_
  refine VO.r (.ld vt35) ?_
  refine VO.callF rfl rfl rfl (VF.call (sReason2_ok ha hb)) ?_
  refine VO.go ?_
  refine VC.condB rfl (fun c4 => ?_) (fun c4 => ?_)
  · try simp only [Bool.and_eq_true, Bool.or_eq_true, Bool.and_eq_false_iff, Bool.or_eq_false_iff, Bool.not_eq_true', Bool.not_eq_false', decide_eq_true_eq, decide_eq_false_iff_not] at c4
    refine VC.seq (VC.text ?_)
    refine VO.r (.ld vt140) ?_
    refine VO.setV (cs' := [St (⟨#[99, 114, 101, 119]⟩), .v .fn (some 184), I 15]) vt140 .v ?_
    refine VO.go ?_
    refine VC.ret ?_
    exact VEnd.one rfl (.cell (x := (⟨#[99, 114, 101, 119]⟩, some 184, 15)) rfl m0 vt140 .refl) (pvE (by cases h1 : meetB a.2.2.2.2 b.2.2.2.2 <;> simp_all [reasonIx] <;> rfl))
  try simp only [Bool.and_eq_true, Bool.or_eq_true, Bool.and_eq_false_iff, Bool.or_eq_false_iff, Bool.not_eq_true', Bool.not_eq_false', decide_eq_true_eq, decide_eq_false_iff_not] at c4
  refine VC.skip (VC.text ?_)
  refine VO.c (.add rfl rfl (by decide)) ?_
  refine VO.c (.move rfl) ?_
  refine VO.nil ?_
  refine VC.unroll ?_
  refine VC.seq (VC.text ?_)
  refine VO.c (.lss) ?_
  refine VO.go (VC.seq ?_)
  refine VC.condT rfl ?_
  refine VC.skip (VC.seq (VC.block (VC.seq (VC.text ?_))))
  refine VO.c (.ixA 2 (τ' := y140) (dy := (⟨#[108, 111, 99, 107]⟩, some 186, 33)) (.r (.r (.l .o)))) ?_
  refine VO.cell (.alloc zt140) ?_
  intro ww5
  refine VO.setV (cs' := [St (⟨#[108, 111, 99, 107]⟩), .v .fn (some 186), I 33]) vt140 .v ?_
  refine VO.shut [(6, .p y140 (⟨#[108, 111, 99, 107]⟩, some 186, 33))] (.cons rfl (.var m0 .refl) .nil) ?_
  refine VO.go (VC.seq (VC.text ?_))
  refine VO.c (.fa (τ' := .fn) (dy := some 186) (.r (.l .o))) ?_
  refine VO.r (.ld vt138) ?_
  refine VO.r (.ld vt35) ?_
  refine VO.r (.ld vt35) ?_
  refine VO.callF rfl rfl rfl (VF.call (sReason3_ok ha hb)) ?_
  refine VO.go ?_
  refine VC.condB rfl (fun c4 => ?_) (fun c4 => ?_)
  · try simp only [Bool.and_eq_true, Bool.or_eq_true, Bool.and_eq_false_iff, Bool.or_eq_false_iff, Bool.not_eq_true', Bool.not_eq_false', decide_eq_true_eq, decide_eq_false_iff_not] at c4
    refine VC.seq ?_
    refine VC.keep [(2, .p y35 a), (3, .p y35 b), (4, .raw ww2), (6, .p y140 (⟨#[108, 111, 99, 107]⟩, some 186, 33)), (7, .v y205 ((⟨#[110, 97, 109, 101]⟩, some 183, 9), (⟨#[99, 114, 101, 119]⟩, some 184, 15), (⟨#[108, 111, 99, 107]⟩, some 186, 33), (⟨#[103, 97, 116, 101]⟩, some 188, 33))), (8, I (2 : Int))] ⟨rfl, rfl, rfl, rfl, rfl, rfl, trivial⟩ ?_
    refine VC.text ?_
    refine VO.r (.ld vt140) ?_
    refine VO.setV (cs' := [St (⟨#[108, 111, 99, 107]⟩), .v .fn (some 186), I 33]) vt140 .v ?_
    refine VO.go ?_
    refine VC.ret ?_
    exact VEnd.one rfl (.cell (x := (⟨#[108, 111, 99, 107]⟩, some 186, 33)) rfl m0 vt140 .refl) (pvE (by cases h1 : meetB a.2.2.2.2 b.2.2.2.2 <;> simp_all [reasonIx] <;> rfl))
  try simp only [Bool.and_eq_true, Bool.or_eq_true, Bool.and_eq_false_iff, Bool.or_eq_false_iff, Bool.not_eq_true', Bool.not_eq_false', decide_eq_true_eq, decide_eq_false_iff_not] at c4
  refine VC.skip ?_
  refine VC.keep [(2, .p y35 a), (3, .p y35 b), (4, .raw ww2), (7, .v y205 ((⟨#[110, 97, 109, 101]⟩, some 183, 9), (⟨#[99, 114, 101, 119]⟩, some 184, 15), (⟨#[108, 111, 99, 107]⟩, some 186, 33), (⟨#[103, 97, 116, 101]⟩, some 188, 33))), (8, I (2 : Int))] ⟨rfl, rfl, rfl, rfl, rfl, trivial⟩ ?_
  refine VC.text ?_
  refine VO.c (.add rfl rfl (by decide)) ?_
  refine VO.c (.move rfl) ?_
  refine VO.nil ?_
  refine VC.unroll ?_
  refine VC.seq (VC.text ?_)
  refine VO.c (.lss) ?_
  refine VO.go (VC.seq ?_)
  refine VC.condT rfl ?_
  refine VC.skip (VC.seq (VC.block (VC.seq (VC.text ?_))))
  refine VO.c (.ixA 3 (τ' := y140) (dy := (⟨#[103, 97, 116, 101]⟩, some 188, 33)) (.r (.r (.r .o)))) ?_
  refine VO.cell (.alloc zt140) ?_
  intro ww6
  refine VO.setV (cs' := [St (⟨#[103, 97, 116, 101]⟩), .v .fn (some 188), I 33]) vt140 .v ?_
  refine VO.shut [(6, .p y140 (⟨#[103, 97, 116, 101]⟩, some 188, 33))] (.cons rfl (.var m0 .refl) .nil) ?_
  refine VO.go (VC.seq (VC.text ?_))
  refine VO.c (.fa (τ' := .fn) (dy := some 188) (.r (.l .o))) ?_
  refine VO.r (.ld vt138) ?_
  refine VO.r (.ld vt35) ?_
  refine VO.r (.ld vt35) ?_
  refine VO.callF rfl rfl rfl (VF.call (sReason4_ok ha hb)) ?_
  refine VO.go ?_
  refine VC.condB rfl (fun c4 => ?_) (fun c4 => ?_)
  · try simp only [Bool.and_eq_true, Bool.or_eq_true, Bool.and_eq_false_iff, Bool.or_eq_false_iff, Bool.not_eq_true', Bool.not_eq_false', decide_eq_true_eq, decide_eq_false_iff_not] at c4
    refine VC.seq (VC.text ?_)
    refine VO.r (.ld vt140) ?_
    refine VO.setV (cs' := [St (⟨#[103, 97, 116, 101]⟩), .v .fn (some 188), I 33]) vt140 .v ?_
    refine VO.go ?_
    refine VC.ret ?_
    exact VEnd.one rfl (.cell (x := (⟨#[103, 97, 116, 101]⟩, some 188, 33)) rfl m0 vt140 .refl) (pvE (by cases h1 : meetB a.2.2.2.2 b.2.2.2.2 <;> simp_all [reasonIx] <;> rfl))
  try simp only [Bool.and_eq_true, Bool.or_eq_true, Bool.and_eq_false_iff, Bool.or_eq_false_iff, Bool.not_eq_true', Bool.not_eq_false', decide_eq_true_eq, decide_eq_false_iff_not] at c4
  refine VC.skip (VC.text ?_)
  refine VO.c (.add rfl rfl (by decide)) ?_
  refine VO.c (.move rfl) ?_
  refine VO.nil ?_
  refine VC.unroll ?_
  refine VC.seq (VC.text ?_)
  refine VO.c (.lss) ?_
  refine VO.go (VC.seq ?_)
  refine VC.condF rfl ?_
  refine VC.exit (VC.seq (VC.text ?_))
  refine VO.c (.build (ByteArray.empty, none, 0) bt140) ?_
  refine VO.setV (cs' := [St ByteArray.empty, .v .fn none, I 0]) vt140 .v ?_
  refine VO.go ?_
  refine VC.ret ?_
  exact VEnd.one rfl (.cell (x := (ByteArray.empty, none, 0)) rfl m0 vt140 .refl) (pvE (by cases h1 : meetB a.2.2.2.2 b.2.2.2.2 <;> simp_all [reasonIx] <;> rfl))
theorem sExclude_ok {a : ByteArray × ByteArray × ByteArray × (List ByteArray) × (Int × Int)} {b : ByteArray × ByteArray × ByteArray × (List ByteArray) × (Int × Int)} (ha : a.2.2.2.1.length < 1000000) (hb : b.2.2.2.1.length < 1000000) : VF Tryz.prog OA 17 [.v y35 a, .v y35 b] (.tup [St (if firstE [permE a, permE b] = 0 then nameR (reasonIx a b) else ByteArray.empty), I (firstE [permE a, permE b])]) := by
  refine VF.enter Tryz.func17 rfl (fun _ _ => rfl) rfl ?_
  show VC _ _ _ _ _ [(0, .v y35 a), (1, .v y35 b)] [] _
  refine VC.seq (VC.text ?_)
  refine VO.new (.box) ?_
  refine VO.new (.box) ?_
  refine VO.c (.assign rfl) ?_
  refine VO.c (.assign rfl) ?_
  refine VO.go (VC.seq (VC.seq (VC.drawn ?_)))
  refine VD.r [] (.ld vt35) (.inl rfl) ?_
  refine VD.call rfl rfl (VF.call (sPermit_ok ha)) ?_
  refine VD.r [] (.ld vt35) (.inl rfl) ?_
  refine VD.call rfl rfl (VF.call (sPermit_ok hb)) ?_
  refine VD.new (.lit [permE a, permE b] el204) ?_
  refine VD.callO rfl rfl (VF.call (sFirst_ok (by simp))) ?_
  refine VD.nw [11] ?_
  refine VD.c (.assign rfl) ?_
  refine VD.go (VC.seq (VC.text ?_))
  refine VO.c (.move rfl) ?_
  refine VO.c (.neq) ?_
  refine VO.go ?_
  refine VC.condD rfl (fun c2 => ?_) (fun c2 => ?_)
  · refine VC.seq (VC.text ?_)
    refine VO.c (.move rfl) ?_
    refine VO.c (.assign rfl) ?_
    refine VO.c (.assign rfl) ?_
    refine VO.go ?_
    refine VC.ret ?_
    exact VEnd.two rfl evT evT (pvE (by exact (if_neg c2).symm)) (pvI (by rfl))
  refine VC.skip (VC.seq (VC.text ?_))
  refine VO.r (.ld vt35) ?_
  refine VO.r (.ld vt35) ?_
  refine VO.call rfl rfl (VF.call (sExcl_ok ha hb)) ?_
  refine VO.c (.fld (.l .o)) ?_
  refine VO.c (.assign rfl) ?_
  refine VO.c (.assign rfl) ?_
  refine VO.go ?_
  refine VC.ret ?_
  exact VEnd.two rfl evT evT (pvE (by rw [if_pos (Decidable.not_not.1 c2), reasonR_name])) (pvI (by exact (Decidable.not_not.1 c2).symm))
end Go.Proofs
namespace Go.Proofs
open Go.Fs
set_option linter.unusedVariables false
abbrev y149 : Ty := (.pair (.pair (.int .i64) (.int .i64)) (.int .i64))
theorem vt149 : ValT Tryz.prog 149 y149 := valT_of (by kernel_rfl)
theorem zt31 : ZerT Tryz.prog 31 y31 := zerT_of (z := .agg #[.string ByteArray.empty, .string ByteArray.empty, .string ByteArray.empty, .slice none 0 0, .int .i64 0, .int .i64 0]) (by kernel_rfl) rfl rfl
theorem zt149 : ZerT Tryz.prog 149 y149 := zerT_of (z := .agg #[.int .i64 0, .int .i64 0, .int .i64 0]) (by kernel_rfl) rfl rfl
theorem bt35 : BldT Tryz.prog 35 y35 [(0, 1), (1, 1), (2, 1), (3, 1), (4, 2)] := bldT_of zt35 rfl (by kernel_rfl)
theorem any_all {α : Type} {F : α → Bool} {l : List α} {j : Nat} (hj : j < l.length) : (l.drop j).all F = (F l[j] && (l.drop (j + 1)).all F) := by
  rw [List.drop_eq_getElem_cons hj, List.all_cons]
def shortW (l : List ByteArray) : Bool := l.all fun w => decide (w.size ≤ 60)
theorem rShort_ok {l : List ByteArray} (hl : l.length < 1000000) : VF Tryz.prog OA 81 [.v (.sl .str) l] (B (shortW l)) := by
  refine VF.enter Tryz.func81 rfl (fun _ _ => rfl) rfl ?_
  show VC _ _ _ _ _ [(0, .v (.sl .str) l)] [] _
  refine VC.seq (VC.text ?_)
  refine VO.c (.assign rfl) ?_
  refine VO.go (VC.seq (VC.seq (VC.text ?_)))
  refine VO.c (.assign rfl) ?_
  refine VO.go (VC.block ?_)
  refine VC.keep [(0, .v (.sl .str) l), (3, I ((0 : Nat) : Int))] ⟨rfl, rfl, trivial⟩ ?_
  refine VC.loop (I := fun kk ff ss => ∃ (j : Nat), kk = l.length - j ∧ ff = [(0, .v (.sl .str) l), (3, I ((j : Nat) : Int))] ∧ ss = [] ∧ (j ≤ l.length) ∧ (shortW l = shortW (l.drop j))) ?_ _ _ _ ⟨0, rfl, rfl, rfl, Nat.zero_le _, (by rfl)⟩
  rintro kk ff ss ⟨j, hk0, rfl, rfl, hj, hi⟩
  refine VC.seq (VC.seq (VC.text ?_))
  refine VO.c (.move rfl) ?_
  refine VO.c (.move rfl) ?_
  refine VO.r (.len el27) ?_
  refine VO.c (.lss) ?_
  refine VO.go ?_
  refine VC.condD rfl (fun c2 => ?_) (fun c2 => ?_)
  · refine VC.skip (VC.seq (VC.block (VC.seq (VC.text ?_))))
    refine VO.c (.move rfl) ?_
    refine VO.c (.move rfl) ?_
    refine VO.c (.ix (j := j) rfl rfl el27 (by omega)) ?_
    refine VO.r (.ld vt9) ?_
    refine VO.r (.lenS) ?_
    refine VO.c (.gtr) ?_
    refine VO.go ?_
    refine VC.condD rfl (fun c4 => ?_) (fun c4 => ?_)
    · refine VC.seq (VC.text ?_)
      refine VO.c (.assign rfl) ?_
      refine VO.go ?_
      refine VC.ret ?_
      exact VEnd.one rfl evT (pvE (by rw [hi, shortW, any_all (by omega), decide_eq_false (by omega)] <;> rfl))
    refine VC.skip (VC.text ?_)
    refine VO.c (.move rfl) ?_
    refine VO.c (.add rfl rfl (by omega)) ?_
    refine VO.c (.assign rfl) ?_
    refine VO.nil ?_
    refine ⟨_, [(0, .v (.sl .str) l), (3, I (((j + 1) : Nat) : Int))], ?_, ⟨rfl, rfl, trivial⟩, (j + 1), rfl, rfl, rfl, (by omega), (by rw [hi, shortW, any_all (by omega), decide_eq_true (by omega)] <;> rfl)⟩
    omega
  refine VC.exit (VC.seq (VC.text ?_))
  refine VO.c (.assign rfl) ?_
  refine VO.go ?_
  refine VC.ret ?_
  exact VEnd.one rfl evT (pvE (by rw [hi, shortW, List.drop_eq_nil_of_le (by omega)] <;> rfl))
def shortP (p : Permit) : Bool := !((decide (9 < (p.2.2.2.1.length : Int)) || !shortW p.2.2.2.1) || !shortW [p.1, p.2.1, p.2.2.1]) && !(decide (spanE p.2.2.2.2 = 0) && decide (40 < p.2.2.2.2.2 - p.2.2.2.2.1))
def shortPs (l : List Permit) : Bool := decide (l.length ≤ 8 ∨ l.length = 65 ∨ l.length = 64) && l.all shortP
theorem shortPs_f {l : List Permit} {j : Nat} (hj : j < l.length) (h : shortP l[j] = false) : false = shortPs l := by
  symm
  unfold shortPs
  rw [Bool.and_eq_false_iff]
  right
  rw [List.all_eq_false]
  exact ⟨l[j], List.getElem_mem _, by rw [h]; decide⟩
theorem rShortP_ok {l : List (ByteArray × ByteArray × ByteArray × (List ByteArray) × (Int × Int))} : VF Tryz.prog OA 14 [.v y22 l] (B (shortPs l)) := by
  refine VF.enter Tryz.func14 rfl (fun _ _ => rfl) rfl ?_
  show VC _ _ _ _ _ [(0, .v y22 l)] [] _
  refine VC.seq (VC.text ?_)
  refine VO.c (.assign rfl) ?_
  refine VO.go (VC.seq (VC.seq (VC.text ?_)))
  refine VO.c (.move rfl) ?_
  refine VO.r (.len el22) ?_
  refine VO.c (.gtr) ?_
  refine VO.c (.move rfl) ?_
  refine VO.cg (r := decide ((8 : Int) < ((l.length : Nat) : Int))) (w := true) [] trivial (fun hgd => have g1_3 : (8 : Int) < ((l.length : Nat) : Int) := (by simpa using hgd); (.move rfl)) ?_
  refine VO.rg (r := decide ((8 : Int) < ((l.length : Nat) : Int))) (w := true) [(9, .v y22 l)] ⟨rfl, trivial⟩ (fun hgd => have g1_3 : (8 : Int) < ((l.length : Nat) : Int) := (by simpa using hgd); (.len el22)) ?_
  refine VO.cg (r := decide ((8 : Int) < ((l.length : Nat) : Int))) (w := true) [(10, I ((l.length : Nat) : Int))] ⟨rfl, trivial⟩ (fun hgd => have g1_3 : (8 : Int) < ((l.length : Nat) : Int) := (by simpa using hgd); (.neq)) ?_
  refine VO.c (.and) ?_
  refine VO.c (.move rfl) ?_
  refine VO.cg (r := ((decide ((8 : Int) < ((l.length : Nat) : Int))) && (decide (((l.length : Nat) : Int) ≠ (65 : Int))))) (w := true) [] trivial (fun hgd => have g1_8 : ((decide ((8 : Int) < ((l.length : Nat) : Int))) && (decide (((l.length : Nat) : Int) ≠ (65 : Int)))) = true := (by simpa using hgd); (.move rfl)) ?_
  refine VO.rg (r := ((decide ((8 : Int) < ((l.length : Nat) : Int))) && (decide (((l.length : Nat) : Int) ≠ (65 : Int))))) (w := true) [(14, .v y22 l)] ⟨rfl, trivial⟩ (fun hgd => have g1_8 : ((decide ((8 : Int) < ((l.length : Nat) : Int))) && (decide (((l.length : Nat) : Int) ≠ (65 : Int)))) = true := (by simpa using hgd); (.len el22)) ?_
  refine VO.cg (r := ((decide ((8 : Int) < ((l.length : Nat) : Int))) && (decide (((l.length : Nat) : Int) ≠ (65 : Int))))) (w := true) [(15, I ((l.length : Nat) : Int))] ⟨rfl, trivial⟩ (fun hgd => have g1_8 : ((decide ((8 : Int) < ((l.length : Nat) : Int))) && (decide (((l.length : Nat) : Int) ≠ (65 : Int)))) = true := (by simpa using hgd); (.neq)) ?_
  refine VO.c (.and) ?_
  refine VO.go ?_
  refine VC.condB rfl (fun c1 => ?_) (fun c1 => ?_)
  · try simp only [Bool.and_eq_true, Bool.or_eq_true, Bool.and_eq_false_iff, Bool.or_eq_false_iff, Bool.not_eq_true', Bool.not_eq_false', decide_eq_true_eq, decide_eq_false_iff_not] at c1
    refine VC.seq (VC.text ?_)
    refine VO.c (.assign rfl) ?_
    refine VO.go ?_
    refine VC.ret ?_
    exact VEnd.one rfl evT (pvE (by first | (symm; rw [shortPs, decide_eq_false (by omega)]; rfl) | exact shortPs_f (j := j) (by omega) (by rcases g7_10 with h | h <;> simp [shortP, h]) | exact shortPs_f (j := j) (by omega) (by simp [shortP, *]) | (rw [hf, List.drop_eq_nil_of_le (by omega)]; rfl)))
  try simp only [Bool.and_eq_true, Bool.or_eq_true, Bool.and_eq_false_iff, Bool.or_eq_false_iff, Bool.not_eq_true', Bool.not_eq_false', decide_eq_true_eq, decide_eq_false_iff_not] at c1
  refine VC.skip (VC.seq (VC.seq (VC.text ?_)))
  refine VO.c (.assign rfl) ?_
  refine VO.go (VC.block ?_)
  refine VC.keep [(0, .v y22 l), (3, I ((0 : Nat) : Int))] ⟨rfl, rfl, trivial⟩ ?_
  refine VC.loop (I := fun kk ff ss => ∃ (j : Nat), kk = l.length - j ∧ ff = [(0, .v y22 l), (3, I ((j : Nat) : Int))] ∧ ss = [] ∧ (j ≤ l.length) ∧ (l.length ≤ 8 ∨ l.length = 65 ∨ l.length = 64) ∧ (shortPs l = (l.drop j).all shortP)) ?_ _ _ _ ⟨0, rfl, rfl, rfl, Nat.zero_le _, (by omega), (by rw [shortPs, decide_eq_true (by omega)]; rfl)⟩
  rintro kk ff ss ⟨j, hk0, rfl, rfl, hj, h0, hf⟩
  refine VC.seq (VC.seq (VC.text ?_))
  refine VO.c (.move rfl) ?_
  refine VO.c (.move rfl) ?_
  refine VO.r (.len el22) ?_
  refine VO.c (.lss) ?_
  refine VO.go ?_
  refine VC.condD rfl (fun c4 => ?_) (fun c4 => ?_)
  · refine VC.skip (VC.seq (VC.block (VC.seq (VC.text ?_))))
    refine VO.c (.move rfl) ?_
    refine VO.c (.move rfl) ?_
    refine VO.c (.ix (j := j) rfl rfl el22 (by omega)) ?_
    refine VO.r (.ld vt31) ?_
    refine VO.cell (.alloc zt31) ?_
    intro ww1
    refine VO.setV (cs' := [St ((l[j]).1), St ((l[j]).2.1), St ((l[j]).2.2.1), .v (.sl .str) ((l[j]).2.2.2.1), I (((l[j]).2.2.2.2).1), I (((l[j]).2.2.2.2).2)]) vt31 .v ?_
    refine VO.shut [(4, .p y31 (l[j]))] (.cons rfl (.var m0 .refl) .nil) ?_
    refine VO.go (VC.seq (VC.text ?_))
    refine VO.c (.fa (.r (.r (.r (.l .o))))) ?_
    refine VO.r (.ld vt27) ?_
    refine VO.r (.len el27) ?_
    refine VO.c (.gtr) ?_
    refine VO.c (.move rfl) ?_
    refine VO.cg (r := decide ((9 : Int) < ((((l[j]).2.2.2.1).length : Nat) : Int))) (w := false) [] trivial (fun hgd => have g7_4 : ¬ ((9 : Int) < ((((l[j]).2.2.2.1).length : Nat) : Int)) := (by simpa using hgd); (.fa (.r (.r (.r (.l .o)))))) ?_
    refine VO.rg (r := decide ((9 : Int) < ((((l[j]).2.2.2.1).length : Nat) : Int))) (w := false) [(33, .p (.sl .str) ((l[j]).2.2.2.1))] ⟨rfl, trivial⟩ (fun hgd => have g7_4 : ¬ ((9 : Int) < ((((l[j]).2.2.2.1).length : Nat) : Int)) := (by simpa using hgd); (.ld vt27)) ?_
    refine VO.callg (r0 := decide ((9 : Int) < ((((l[j]).2.2.2.1).length : Nat) : Int))) (w := false) [(34, .v (.sl .str) ((l[j]).2.2.2.1))] ⟨rfl, trivial⟩ rfl rfl .same .refl rfl (fun hgd => have g7_4 : ¬ ((9 : Int) < ((((l[j]).2.2.2.1).length : Nat) : Int)) := (by simpa using hgd); VF.call (rShort_ok (by omega))) ?_
    refine VO.cg (r := decide ((9 : Int) < ((((l[j]).2.2.2.1).length : Nat) : Int))) (w := false) [(35, B (shortW ((l[j]).2.2.2.1)))] ⟨rfl, trivial⟩ (fun hgd => have g7_4 : ¬ ((9 : Int) < ((((l[j]).2.2.2.1).length : Nat) : Int)) := (by simpa using hgd); (.not)) ?_
    refine VO.c (.or) ?_
    refine VO.c (.move rfl) ?_
    refine VO.splitB (x := 38) rfl (fun g7_10 => ?_) (fun g7_10 => ?_)
    · try simp only [Bool.and_eq_true, Bool.or_eq_true, Bool.and_eq_false_iff, Bool.or_eq_false_iff, Bool.not_eq_true', Bool.not_eq_false', decide_eq_true_eq, decide_eq_false_iff_not] at g7_10
      refine VO.skip ?_
      refine VO.skip ?_
      refine VO.skip ?_
      refine VO.skip ?_
      refine VO.skip ?_
      refine VO.skip ?_
      refine VO.skip ?_
      refine VO.skip ?_
      refine VO.skip ?_
      refine VO.c (.pickT rfl rfl) ?_
      refine VO.c (.move rfl) ?_
      refine VO.skip ?_
      refine VO.skip ?_
      refine VO.skip ?_
      refine VO.skip ?_
      refine VO.skip ?_
      refine VO.skip ?_
      refine VO.skip ?_
      refine VO.skip ?_
      refine VO.skip ?_
      refine VO.skip ?_
      refine VO.skip ?_
      refine VO.skip ?_
      refine VO.skip ?_
      refine VO.skip ?_
      refine VO.c (.pickT rfl rfl) ?_
      refine VO.go ?_
      refine VC.condT rfl ?_
      refine VC.seq ?_
      refine VC.keep [(0, .v y22 l), (3, I ((j : Nat) : Int))] ⟨rfl, rfl, trivial⟩ ?_
      refine VC.text ?_
      refine VO.c (.assign rfl) ?_
      refine VO.go ?_
      refine VC.ret ?_
      exact VEnd.one rfl evT (pvE (by first | (symm; rw [shortPs, decide_eq_false (by omega)]; rfl) | exact shortPs_f (j := j) (by omega) (by rcases g7_10 with h | h <;> simp [shortP, h]) | exact shortPs_f (j := j) (by omega) (by simp [shortP, *]) | (rw [hf, List.drop_eq_nil_of_le (by omega)]; rfl)))
    try simp only [Bool.and_eq_true, Bool.or_eq_true, Bool.and_eq_false_iff, Bool.or_eq_false_iff, Bool.not_eq_true', Bool.not_eq_false', decide_eq_true_eq, decide_eq_false_iff_not] at g7_10
    refine VO.c (.fa (.l .o)) ?_
    refine VO.r (.ld vt9) ?_
    refine VO.c (.fa (.r (.l .o))) ?_
    refine VO.r (.ld vt9) ?_
    refine VO.c (.fa (.r (.r (.l .o)))) ?_
    refine VO.r (.ld vt9) ?_
    refine VO.new (.lit [(l[j]).1, (l[j]).2.1, (l[j]).2.2.1] el27) ?_
    refine VO.call rfl rfl (VF.call (rShort_ok (by simp))) ?_
    refine VO.c (.not) ?_
    refine VO.c (.pickF rfl rfl) ?_
    refine VO.c (.move rfl) ?_
    refine VO.splitB (x := 49) rfl (fun g7_21 => ?_) (fun g7_21 => ?_)
    · try simp only [Bool.and_eq_true, Bool.or_eq_true, Bool.and_eq_false_iff, Bool.or_eq_false_iff, Bool.not_eq_true', Bool.not_eq_false', decide_eq_true_eq, decide_eq_false_iff_not] at g7_21
      refine VO.skip ?_
      refine VO.skip ?_
      refine VO.skip ?_
      refine VO.skip ?_
      refine VO.skip ?_
      refine VO.skip ?_
      refine VO.skip ?_
      refine VO.skip ?_
      refine VO.skip ?_
      refine VO.skip ?_
      refine VO.skip ?_
      refine VO.skip ?_
      refine VO.skip ?_
      refine VO.skip ?_
      refine VO.c (.pickT rfl rfl) ?_
      refine VO.go ?_
      refine VC.condT rfl ?_
      refine VC.seq ?_
      refine VC.keep [(0, .v y22 l), (3, I ((j : Nat) : Int))] ⟨rfl, rfl, trivial⟩ ?_
      refine VC.text ?_
      refine VO.c (.assign rfl) ?_
      refine VO.go ?_
      refine VC.ret ?_
      exact VEnd.one rfl evT (pvE (by first | (symm; rw [shortPs, decide_eq_false (by omega)]; rfl) | exact shortPs_f (j := j) (by omega) (by rcases g7_10 with h | h <;> simp [shortP, h]) | exact shortPs_f (j := j) (by omega) (by simp [shortP, *]) | (rw [hf, List.drop_eq_nil_of_le (by omega)]; rfl)))
    try simp only [Bool.and_eq_true, Bool.or_eq_true, Bool.and_eq_false_iff, Bool.or_eq_false_iff, Bool.not_eq_true', Bool.not_eq_false', decide_eq_true_eq, decide_eq_false_iff_not] at g7_21
    refine VO.c (.fa (.r (.r (.r (.r .o))))) ?_
    refine VO.r (.ld vt29) ?_
    refine VO.call rfl rfl (VF.call (rSpan_ok )) ?_
    refine VO.c (.eql) ?_
    refine VO.c (.move rfl) ?_
    refine VO.cg (r := decide (spanE ((l[j]).2.2.2.2) = (0 : Int))) (w := true) [] trivial (fun hgd => have g7_26 : spanE ((l[j]).2.2.2.2) = (0 : Int) := (by simpa using hgd); (.fa (.r (.r (.r (.r .o)))))) ?_
    refine VO.cg (r := decide (spanE ((l[j]).2.2.2.2) = (0 : Int))) (w := true) [(55, .p y29 ((l[j]).2.2.2.2))] ⟨rfl, trivial⟩ (fun hgd => have g7_26 : spanE ((l[j]).2.2.2.2) = (0 : Int) := (by simpa using hgd); (.fa (.r .o))) ?_
    refine VO.rg (r := decide (spanE ((l[j]).2.2.2.2) = (0 : Int))) (w := true) [(56, .p (.int .i64) (((l[j]).2.2.2.2).2))] ⟨rfl, trivial⟩ (fun hgd => have g7_26 : spanE ((l[j]).2.2.2.2) = (0 : Int) := (by simpa using hgd); (.ld vt3)) ?_
    refine VO.cg (r := decide (spanE ((l[j]).2.2.2.2) = (0 : Int))) (w := true) [] trivial (fun hgd => have g7_26 : spanE ((l[j]).2.2.2.2) = (0 : Int) := (by simpa using hgd); (.fa (.r (.r (.r (.r .o)))))) ?_
    refine VO.cg (r := decide (spanE ((l[j]).2.2.2.2) = (0 : Int))) (w := true) [(58, .p y29 ((l[j]).2.2.2.2))] ⟨rfl, trivial⟩ (fun hgd => have g7_26 : spanE ((l[j]).2.2.2.2) = (0 : Int) := (by simpa using hgd); (.fa (.l .o))) ?_
    refine VO.rg (r := decide (spanE ((l[j]).2.2.2.2) = (0 : Int))) (w := true) [(59, .p (.int .i64) (((l[j]).2.2.2.2).1))] ⟨rfl, trivial⟩ (fun hgd => have g7_26 : spanE ((l[j]).2.2.2.2) = (0 : Int) := (by simpa using hgd); (.ld vt3)) ?_
    refine VO.cg (r := decide (spanE ((l[j]).2.2.2.2) = (0 : Int))) (w := true) [(57, I (((l[j]).2.2.2.2).2)), (60, I (((l[j]).2.2.2.2).1))] ⟨rfl, rfl, trivial⟩ (fun hgd => have g7_26 : spanE ((l[j]).2.2.2.2) = (0 : Int) := (by simpa using hgd); (.sub rfl rfl (by have h := spanE_ok g7_26; omega))) ?_
    refine VO.cg (r := decide (spanE ((l[j]).2.2.2.2) = (0 : Int))) (w := true) [(61, I (((l[j]).2.2.2.2).2 - ((l[j]).2.2.2.2).1))] ⟨rfl, trivial⟩ (fun hgd => have g7_26 : spanE ((l[j]).2.2.2.2) = (0 : Int) := (by simpa using hgd); (.gtr)) ?_
    refine VO.c (.and) ?_
    refine VO.c (.pickF rfl rfl) ?_
    refine VO.go ?_
    refine VC.condB rfl (fun c7 => ?_) (fun c7 => ?_)
    · try simp only [Bool.and_eq_true, Bool.or_eq_true, Bool.and_eq_false_iff, Bool.or_eq_false_iff, Bool.not_eq_true', Bool.not_eq_false', decide_eq_true_eq, decide_eq_false_iff_not] at c7
      refine VC.seq ?_
      refine VC.keep [(0, .v y22 l), (3, I ((j : Nat) : Int))] ⟨rfl, rfl, trivial⟩ ?_
      refine VC.text ?_
      refine VO.c (.assign rfl) ?_
      refine VO.go ?_
      refine VC.ret ?_
      exact VEnd.one rfl evT (pvE (by first | (symm; rw [shortPs, decide_eq_false (by omega)]; rfl) | exact shortPs_f (j := j) (by omega) (by rcases g7_10 with h | h <;> simp [shortP, h]) | exact shortPs_f (j := j) (by omega) (by simp [shortP, *]) | (rw [hf, List.drop_eq_nil_of_le (by omega)]; rfl)))
    try simp only [Bool.and_eq_true, Bool.or_eq_true, Bool.and_eq_false_iff, Bool.or_eq_false_iff, Bool.not_eq_true', Bool.not_eq_false', decide_eq_true_eq, decide_eq_false_iff_not] at c7
    have hz : shortP l[j] = true := by simp_all [shortP]
    refine VC.skip ?_
    refine VC.keep [(0, .v y22 l), (3, I ((j : Nat) : Int))] ⟨rfl, rfl, trivial⟩ ?_
    refine VC.text ?_
    refine VO.c (.move rfl) ?_
    refine VO.c (.add rfl rfl (by omega)) ?_
    refine VO.c (.assign rfl) ?_
    refine VO.nil ?_
    refine ⟨_, [(0, .v y22 l), (3, I (((j + 1) : Nat) : Int))], ?_, ⟨rfl, rfl, trivial⟩, (j + 1), rfl, rfl, rfl, (by omega), (by exact h0), (by rw [hf, any_all (by omega), hz] <;> rfl)⟩
    omega
  refine VC.exit (VC.seq (VC.text ?_))
  refine VO.c (.assign rfl) ?_
  refine VO.go ?_
  refine VC.ret ?_
  exact VEnd.one rfl evT (pvE (by first | (symm; rw [shortPs, decide_eq_false (by omega)]; rfl) | exact shortPs_f (j := j) (by omega) (by rcases g7_10 with h | h <;> simp [shortP, h]) | exact shortPs_f (j := j) (by omega) (by simp [shortP, *]) | (rw [hf, List.drop_eq_nil_of_le (by omega)]; rfl)))
theorem rShortS_ok {s : List ((Int × Int) × Int)} : VF Tryz.prog OA 15 [.v y23 s] (B (decide ((s.length : Int) ≤ 9))) := by
  refine VF.enter Tryz.func15 rfl (fun _ _ => rfl) rfl ?_
  show VC _ _ _ _ _ [(0, .v y23 s)] [] _
  refine VC.seq (VC.text ?_)
  refine VO.c (.assign rfl) ?_
  refine VO.go (VC.seq (VC.text ?_))
  refine VO.c (.move rfl) ?_
  refine VO.r (.len el23) ?_
  refine VO.c (.leq) ?_
  refine VO.c (.assign rfl) ?_
  refine VO.go ?_
  refine VC.ret ?_
  exact VEnd.one rfl evT (pvE (by first | rfl | simp))
theorem lWords_ok {l : List ByteArray} (hl : l.length < 1000000) : VF Tryz.prog OA 66 [.v (.sl .str) l] (.v (.sl .str) l) := by
  refine VF.enter Tryz.func66 rfl (fun _ _ => rfl) rfl ?_
  show VC _ _ _ _ _ [(0, .v (.sl .str) l)] [] _
  refine VC.seq (VC.text ?_)
  refine VO.c (.assign rfl) ?_
  refine VO.go (VC.seq (VC.text ?_))
  refine VO.cell (.lit0 el27) ?_
  intro ww2
  refine VO.c (.move rfl) ?_
  refine VO.app rfl rfl el27 el27 (by simp; omega) ?_
  intro ww3
  refine VO.c (.assign rfl) ?_
  refine VO.go ?_
  refine VC.ret ?_
  exact VEnd.one rfl (evC (.row m0)) (pvE (by rfl))
theorem lPermit_ok {p : ByteArray × ByteArray × ByteArray × (List ByteArray) × (Int × Int)} (hl : p.2.2.2.1.length < 1000000) : VF Tryz.prog OA 18 [.v y31 p] (.v y35 p) := by
  refine VF.enter Tryz.func18 rfl (fun _ _ => rfl) rfl ?_
  show VC _ _ _ _ _ [(0, .v y31 p)] [] _
  refine VC.seq (VC.text ?_)
  refine VO.new (.box) ?_
  refine VO.cell (.alloc zt35) ?_
  intro ww4
  refine VO.go (VC.seq (VC.drawn ?_))
  refine VD.c (.fa (.l .o)) ?_
  refine VD.r [] (.ld vt9) (.inl rfl) ?_
  refine VD.c (.fa (.r (.l .o))) ?_
  refine VD.r [] (.ld vt9) (.inl rfl) ?_
  refine VD.c (.fa (.r (.r (.l .o)))) ?_
  refine VD.r [] (.ld vt9) (.inl rfl) ?_
  refine VD.nw [] ?_
  refine VD.c (.fa (.r (.r (.r (.l .o))))) ?_
  refine VD.r [] (.ld vt27) (.inl rfl) ?_
  refine VD.call rfl rfl (VF.call (lWords_ok hl)) ?_
  refine VD.c (.fa (.r (.r (.r (.r .o))))) ?_
  refine VD.r [] (.ld vt29) (.inl rfl) ?_
  refine VD.c (.build (p.1, p.2.1, p.2.2.1, p.2.2.2.1, p.2.2.2.2) bt35) ?_
  refine VD.mk0 (MakeV.setF (k := 0) vt35 .v (Nat.le_of_ble_eq_true rfl) (.inr ⟨rfl, rfl⟩) rfl rfl) ?_
  rintro _ _ tl5 ⟨rfl, rfl⟩
  refine VD.go ?_
  refine VC.ret ?_
  exact VEnd.one rfl (.cell (x := (p.1, p.2.1, p.2.2.1, p.2.2.2.1, p.2.2.2.2)) rfl m0 vt35 .refl) (pvE (by rfl))
theorem lPermits_ok {l : List (ByteArray × ByteArray × ByteArray × (List ByteArray) × (Int × Int))} (hl : l.length < 100000) (hp : PermOk l) : VF Tryz.prog OA 24 [.v y22 l] (.v y43 l) := by
  refine VF.enter Tryz.func24 rfl (fun _ _ => rfl) rfl ?_
  show VC _ _ _ _ _ [(0, .v y22 l)] [] _
  refine VC.seq (VC.text ?_)
  refine VO.c (.assign rfl) ?_
  refine VO.go (VC.seq (VC.text ?_))
  refine VO.c (.assign rfl) ?_
  refine VO.go (VC.seq (VC.seq (VC.text ?_)))
  refine VO.c (.move rfl) ?_
  refine VO.r (.len el22) ?_
  refine VO.c (.move rfl) ?_
  refine VO.go (VC.block ?_)
  refine VC.cell0 35 y35 ?_
  refine VC.keep [(3, .raw (.slice none 0 0)), (6, .v y22 l), (7, I ((l.length : Nat) : Int)), (8, I ((0 : Nat) : Int))] ⟨rfl, rfl, rfl, rfl, trivial⟩ ?_
  refine VC.loop (I := fun kk ff ss => ∃ (j : Nat) (out : Value), kk = l.length - j ∧ ff = [(3, .raw out), (6, .v y22 l), (7, I ((l.length : Nat) : Int)), (8, I ((j : Nat) : Int))] ∧ ss = [(out, .row 35 y35 (l.take j))] ∧ (j ≤ l.length)) ?_ _ _ _ ⟨0, (.slice none 0 0), rfl, rfl, rfl, Nat.zero_le _⟩
  rintro kk ff ss ⟨j, out, hk0, rfl, rfl, hj⟩
  refine VC.seq (VC.text ?_)
  refine VO.c (.lss) ?_
  refine VO.go (VC.seq ?_)
  refine VC.condD rfl (fun c3 => ?_) (fun c3 => ?_)
  · refine VC.skip (VC.seq (VC.block (VC.seq (VC.text ?_))))
    refine VO.c (.ix (j := j) rfl rfl el22 (by omega)) ?_
    refine VO.r (.ld vt31) ?_
    refine VO.cell (.alloc zt31) ?_
    intro ww6
    refine VO.setV (cs' := [St ((l[j]).1), St ((l[j]).2.1), St ((l[j]).2.2.1), .v (.sl .str) ((l[j]).2.2.2.1), I (((l[j]).2.2.2.2).1), I (((l[j]).2.2.2.2).2)]) vt31 .v ?_
    refine VO.shut [(5, .p y31 (l[j]))] (.cons rfl (.var m0 .refl) .nil) ?_
    refine VO.go (VC.text ?_)
    refine VO.c (.move rfl) ?_
    refine VO.r (.ld vt31) ?_
    refine VO.call rfl rfl (VF.call (lPermit_ok (hp _ (List.getElem_mem _)))) ?_
    refine VO.new (.lit [(l[j])] el43) ?_
    refine VO.app rfl rfl el43 el43 (by simp; omega) ?_
    intro ww7
    refine VO.c (.assign rfl) ?_
    refine VO.nil (VC.text ?_)
    refine VO.c (.add rfl rfl (by omega)) ?_
    refine VO.c (.move rfl) ?_
    refine VO.nil ?_
    refine ⟨_, [(3, .raw ww7), (6, .v y22 l), (7, I ((l.length : Nat) : Int)), (8, I (((j + 1) : Nat) : Int))], ?_, ⟨rfl, rfl, rfl, rfl, trivial⟩, (j + 1), ww7, rfl, rfl, (by rw [List.take_succ_eq_append_getElem (by omega)] <;> rfl), (by omega)⟩
    omega
  refine VC.exit (VC.seq (VC.text ?_))
  refine VO.c (.move rfl) ?_
  refine VO.c (.assign rfl) ?_
  refine VO.go ?_
  refine VC.ret ?_
  exact VEnd.one rfl (evC (.row m0)) (pvE (by rw [List.take_of_length_le (by omega)]))
theorem lSeasons_ok {l : List ((Int × Int) × Int)} (hl : l.length < 100000) : VF Tryz.prog OA 27 [.v y23 l] (.v y47 l) := by
  refine VF.enter Tryz.func27 rfl (fun _ _ => rfl) rfl ?_
  show VC _ _ _ _ _ [(0, .v y23 l)] [] _
  refine VC.seq (VC.text ?_)
  refine VO.c (.assign rfl) ?_
  refine VO.go (VC.seq (VC.text ?_))
  refine VO.c (.assign rfl) ?_
  refine VO.go (VC.seq (VC.seq (VC.text ?_)))
  refine VO.c (.move rfl) ?_
  refine VO.r (.len el23) ?_
  refine VO.c (.move rfl) ?_
  refine VO.go (VC.block ?_)
  refine VC.cell0 94 y94 ?_
  refine VC.keep [(3, .raw (.slice none 0 0)), (6, .v y23 l), (7, I ((l.length : Nat) : Int)), (8, I ((0 : Nat) : Int))] ⟨rfl, rfl, rfl, rfl, trivial⟩ ?_
  refine VC.loop (I := fun kk ff ss => ∃ (j : Nat) (out : Value), kk = l.length - j ∧ ff = [(3, .raw out), (6, .v y23 l), (7, I ((l.length : Nat) : Int)), (8, I ((j : Nat) : Int))] ∧ ss = [(out, .row 94 y94 (l.take j))] ∧ (j ≤ l.length)) ?_ _ _ _ ⟨0, (.slice none 0 0), rfl, rfl, rfl, Nat.zero_le _⟩
  rintro kk ff ss ⟨j, out, hk0, rfl, rfl, hj⟩
  refine VC.seq (VC.text ?_)
  refine VO.c (.lss) ?_
  refine VO.go (VC.seq ?_)
  refine VC.condD rfl (fun c3 => ?_) (fun c3 => ?_)
  · refine VC.skip (VC.seq (VC.block (VC.seq (VC.text ?_))))
    refine VO.c (.ix (j := j) rfl rfl el23 (by omega)) ?_
    refine VO.r (.ld vt149) ?_
    refine VO.cell (.alloc zt149) ?_
    intro ww8
    refine VO.setV (cs' := [I (((l[j]).1).1), I (((l[j]).1).2), I ((l[j]).2)]) vt149 .v ?_
    refine VO.shut [(5, .p y149 (l[j]))] (.cons rfl (.var m0 .refl) .nil) ?_
    refine VO.go (VC.text ?_)
    refine VO.c (.move rfl) ?_
    refine VO.r (.ld vt149) ?_
    refine VO.new (.lit [l[j]] el47) ?_
    refine VO.app rfl rfl el47 el47 (by simp; omega) ?_
    intro ww9
    refine VO.c (.assign rfl) ?_
    refine VO.nil (VC.text ?_)
    refine VO.c (.add rfl rfl (by omega)) ?_
    refine VO.c (.move rfl) ?_
    refine VO.nil ?_
    refine ⟨_, [(3, .raw ww9), (6, .v y23 l), (7, I ((l.length : Nat) : Int)), (8, I (((j + 1) : Nat) : Int))], ?_, ⟨rfl, rfl, rfl, rfl, trivial⟩, (j + 1), ww9, rfl, rfl, (by rw [List.take_succ_eq_append_getElem (by omega)] <;> rfl), (by omega)⟩
    omega
  refine VC.exit (VC.seq (VC.text ?_))
  refine VO.c (.move rfl) ?_
  refine VO.c (.assign rfl) ?_
  refine VO.go ?_
  refine VC.ret ?_
  exact VEnd.one rfl (evC (.row m0)) (pvE (by rw [List.take_of_length_le (by omega)]))
end Go.Proofs
namespace Go.Proofs
open Go.Fs
def Asc (l : List ByteArray) : Prop := l.Pairwise fun a b => ltS a b = true
theorem asc_nil : Asc [] := List.Pairwise.nil
theorem Asc.tail {a : ByteArray} {l : List ByteArray} (h : Asc (a :: l)) : Asc l := (List.pairwise_cons.1 h).2
theorem Asc.head {a x : ByteArray} {l : List ByteArray} (h : Asc (a :: l)) (hx : x ∈ l) : ltS a x = true := (List.pairwise_cons.1 h).1 x hx
theorem Asc.not {a : ByteArray} {l : List ByteArray} (h : Asc (a :: l)) : a ∉ l := fun hm => by
  have := h.head hm
  rw [ltS_irr] at this; cases this
theorem asc_ext : ∀ {a b : List ByteArray}, Asc a → Asc b → (∀ x, x ∈ a ↔ x ∈ b) → a = b
  | [], [], _, _, _ => rfl
  | [], y :: b, _, _, h => by have := (h y).2 List.mem_cons_self; cases this
  | x :: a, [], _, _, h => by have := (h x).1 List.mem_cons_self; cases this
  | x :: a, y :: b, ha, hb, h => by
    have e : x = y := by
      have h1 := (h x).1 List.mem_cons_self
      have h2 := (h y).2 List.mem_cons_self
      rcases List.mem_cons.1 h1 with h1 | h1
      · exact h1
      rcases List.mem_cons.1 h2 with h2 | h2
      · exact h2.symm
      have h3 := hb.head h1
      have h4 := ha.head h2
      rw [ltS_asym h3] at h4; cases h4
    subst e
    rw [asc_ext ha.tail hb.tail fun z => ?_]
    constructor
    · intro hz
      rcases List.mem_cons.1 ((h z).1 (List.mem_cons_of_mem _ hz)) with e | hz'
      · subst e; exact absurd hz ha.not
      exact hz'
    intro hz
    rcases List.mem_cons.1 ((h z).2 (List.mem_cons_of_mem _ hz)) with e | hz'
    · subst e; exact absurd hz hb.not
    exact hz'
def insE (w : ByteArray) : List ByteArray → List ByteArray
  | [] => [w]
  | x :: l => if ltS w x = true then w :: x :: l else x :: insE w l
def putE (l : List ByteArray) (w : ByteArray) : List ByteArray := if hasB l w = true then l else insE w l
theorem hasB_mem {l : List ByteArray} {w : ByteArray} : hasB l w = true ↔ w ∈ l := by
  unfold hasB
  rw [List.any_eq_true]
  constructor
  · rintro ⟨x, hx, he⟩
    have := of_decide_eq_true he
    subst this; exact hx
  exact fun h => ⟨w, h, decide_eq_true rfl⟩
theorem mem_insE {w x : ByteArray} : ∀ {l : List ByteArray}, x ∈ insE w l ↔ x = w ∨ x ∈ l
  | [] => by simp [insE]
  | y :: l => by
    unfold insE
    by_cases h : ltS w y = true
    · rw [if_pos h]; simp
    rw [if_neg h, List.mem_cons, mem_insE (l := l), List.mem_cons]
    constructor
    · rintro (h | h | h)
      · exact .inr (.inl h)
      · exact .inl h
      exact .inr (.inr h)
    rintro (h | h | h)
    · exact .inr (.inl h)
    · exact .inl h
    exact .inr (.inr h)
theorem insE_asc {w : ByteArray} : ∀ {l : List ByteArray}, Asc l → w ∉ l → Asc (insE w l)
  | [], _, _ => List.pairwise_cons.2 ⟨fun _ h => (by cases h), List.Pairwise.nil⟩
  | y :: l, ha, hw => by
    unfold insE
    by_cases h : ltS w y = true
    · rw [if_pos h]
      refine List.pairwise_cons.2 ⟨fun x hx => ?_, ha⟩
      rcases List.mem_cons.1 hx with e | hx
      · subst e; exact h
      exact ltS_trans h (ha.head hx)
    rw [if_neg h]
    refine List.pairwise_cons.2 ⟨fun x hx => ?_, insE_asc ha.tail fun hm => hw (List.mem_cons_of_mem _ hm)⟩
    rcases mem_insE.1 hx with e | hx
    · subst e
      have h1 := leS_eq (p := x) (q := y)
      have h2 : ¬ x = y := fun e => hw (e ▸ List.mem_cons_self)
      have h3 : ltS x y = false := by simpa using h
      rw [h3, decide_eq_false h2] at h1
      simpa using h1.symm
    exact ha.head hx
theorem putE_asc {l : List ByteArray} {w : ByteArray} (h : Asc l) : Asc (putE l w) := by
  unfold putE
  by_cases hh : hasB l w = true
  · rw [if_pos hh]; exact h
  rw [if_neg hh]; exact insE_asc h fun hm => hh (hasB_mem.2 hm)
theorem mem_putE {l : List ByteArray} {w x : ByteArray} : x ∈ putE l w ↔ x = w ∨ x ∈ l := by
  unfold putE
  by_cases hh : hasB l w = true
  · rw [if_pos hh]
    constructor
    · exact .inr
    rintro (h | h)
    · subst h; exact hasB_mem.1 hh
    exact h
  rw [if_neg hh]; exact mem_insE
def setE (l : List ByteArray) : List ByteArray := l.foldl putE []
theorem foldl_putE : ∀ (l a : List ByteArray), Asc a → Asc (l.foldl putE a) ∧ ∀ x, x ∈ l.foldl putE a ↔ x ∈ l ∨ x ∈ a
  | [], a, ha => ⟨ha, fun x => by simp⟩
  | w :: l, a, ha => by
    obtain ⟨h1, h2⟩ := foldl_putE l (putE a w) (putE_asc ha)
    refine ⟨h1, fun x => ?_⟩
    rw [List.foldl_cons, h2, mem_putE, List.mem_cons]
    constructor
    · rintro (h | h | h)
      · exact .inl (.inr h)
      · exact .inl (.inl h)
      exact .inr h
    rintro ((h | h) | h)
    · exact .inr (.inl h)
    · exact .inl h
    exact .inr (.inr h)
theorem setE_asc (l : List ByteArray) : Asc (setE l) := (foldl_putE l [] asc_nil).1
theorem mem_setE {l : List ByteArray} {x : ByteArray} : x ∈ setE l ↔ x ∈ l := by
  have := (foldl_putE l [] asc_nil).2 x
  simpa [setE] using this
theorem setE_eq {l m : List ByteArray} (ha : Asc m) (hm : ∀ x, x ∈ m ↔ x ∈ l) : m = setE l := asc_ext ha (setE_asc l) fun x => (hm x).trans mem_setE.symm
theorem asc_len : ∀ {a b : List ByteArray}, Asc a → (∀ x ∈ a, x ∈ b) → a.length ≤ b.length
  | [], _, _, _ => Nat.zero_le _
  | x :: a, b, ha, h => by
    have hx := h x List.mem_cons_self
    have h1 := asc_len (a := a) (b := b.filter fun y => decide (y ≠ x)) ha.tail fun y hy => by
      have hne : y ≠ x := fun e => by subst e; exact ha.not hy
      exact List.mem_filter.2 ⟨h y (List.mem_cons_of_mem _ hy), decide_eq_true hne⟩
    have h2 : (b.filter fun y => decide (y ≠ x)).length < b.length := List.length_filter_lt_length_iff_exists.2 ⟨x, hx, by simp⟩
    simp only [List.length_cons]
    omega
abbrev Season := (Int × Int) × Int
def hasT (s : Int × Int) (t : Int) : Bool := decide (s.1 ≤ t) && decide (t < s.2)
def atE (l : List Permit) (t : Int) : List Permit := l.filter fun p => hasT p.2.2.2.2 t
def outE (l : List Permit) (t : Int) : List ByteArray := setE ((atE l t).map fun p => p.2.2.1)
def lockedE (l : List Permit) (t : Int) : List ByteArray := setE ((atE l t).flatMap fun p => p.2.2.2.1)
def permittedE : List Season → Int → Int
  | [], _ => 0
  | s :: r, t => if hasT s.1 t = true then s.2 else permittedE r t
def overE (l : List Permit) (ss : List Season) (t : Int) : Bool := decide (permittedE ss t < ((outE l t).length : Int))
def overIn (l : List Permit) (ss : List Season) (s : Int × Int) : Prop := ∃ t, s.1 ≤ t ∧ t < s.2 ∧ overE l ss t = true
def ticksE (l : List Permit) (ss : List Season) (s : Int × Int) : List Int := s.1 :: (l.map (fun p => p.2.2.2.2.1) ++ ss.flatMap fun x => [x.1.1, x.1.2])
def crowdedE (l : List Permit) (ss : List Season) (s : Int × Int) : Bool := (ticksE l ss s).any fun t => hasT s t && overE l ss t
theorem last_le {t : Int} : ∀ (l : List Int) (x : Int), x ∈ l → x ≤ t → ∃ y ∈ l, y ≤ t ∧ ∀ z ∈ l, z ≤ t → z ≤ y
  | [], _, hx, _ => by cases hx
  | a :: l, x, hx, hxt => by
    by_cases hl : ∃ z ∈ l, z ≤ t
    · obtain ⟨z, hz, hzt⟩ := hl
      obtain ⟨y, h1, h2, h3⟩ := last_le l z hz hzt
      by_cases ha : a ≤ t ∧ y ≤ a
      · refine ⟨a, List.mem_cons_self, ha.1, fun w hw hwt => ?_⟩
        rcases List.mem_cons.1 hw with e | hw
        · omega
        have := h3 w hw hwt; omega
      refine ⟨y, List.mem_cons_of_mem _ h1, h2, fun w hw hwt => ?_⟩
      rcases List.mem_cons.1 hw with e | hw
      · subst e; omega
      exact h3 w hw hwt
    rcases List.mem_cons.1 hx with e | hx
    · subst e
      refine ⟨x, List.mem_cons_self, hxt, fun w hw hwt => ?_⟩
      rcases List.mem_cons.1 hw with e | hw
      · omega
      exact absurd ⟨w, hw, hwt⟩ hl
    exact absurd ⟨x, hx, hxt⟩ hl
theorem permitted_same {t u : Int} : ∀ (ss : List Season), (∀ x ∈ ss, hasT x.1 t = hasT x.1 u) → permittedE ss t = permittedE ss u
  | [], _ => rfl
  | s :: r, h => by
    unfold permittedE
    rw [h s List.mem_cons_self, permitted_same r fun x hx => h x (List.mem_cons_of_mem _ hx)]
theorem out_len {l : List Permit} {t u : Int} (h : ∀ p ∈ l, hasT p.2.2.2.2 t = true → hasT p.2.2.2.2 u = true) : (outE l t).length ≤ (outE l u).length := by
  refine asc_len (setE_asc _) fun x hx => ?_
  rw [outE, mem_setE] at hx ⊢
  obtain ⟨p, hp, he⟩ := List.mem_map.1 hx
  obtain ⟨h1, h2⟩ := List.mem_filter.1 hp
  exact List.mem_map.2 ⟨p, List.mem_filter.2 ⟨h1, h p h1 h2⟩, he⟩
theorem hasT_iff {s : Int × Int} {t : Int} : hasT s t = true ↔ s.1 ≤ t ∧ t < s.2 := by simp [hasT]
theorem crowded_iff {l : List Permit} {ss : List Season} {s : Int × Int} : crowdedE l ss s = true ↔ overIn l ss s := by
  unfold crowdedE
  rw [List.any_eq_true]
  constructor
  · rintro ⟨t, _, h⟩
    rw [Bool.and_eq_true] at h
    have h1 := hasT_iff.1 h.1
    exact ⟨t, h1.1, h1.2, h.2⟩
  rintro ⟨t, h1, h2, h3⟩
  obtain ⟨u, u1, u2, u3⟩ := last_le (t := t) (ticksE l ss s) s.1 List.mem_cons_self h1
  have hs := u3 s.1 List.mem_cons_self h1
  refine ⟨u, u1, ?_⟩
  rw [Bool.and_eq_true]
  refine ⟨hasT_iff.2 ⟨hs, by omega⟩, ?_⟩
  unfold overE at h3 ⊢
  have h3 := of_decide_eq_true h3
  refine decide_eq_true ?_
  have e1 : permittedE ss t = permittedE ss u := permitted_same ss fun x hx => by
    have m1 : x.1.1 ∈ ticksE l ss s := List.mem_cons_of_mem _ (List.mem_append_right _ (List.mem_flatMap.2 ⟨x, hx, by simp⟩))
    have m2 : x.1.2 ∈ ticksE l ss s := List.mem_cons_of_mem _ (List.mem_append_right _ (List.mem_flatMap.2 ⟨x, hx, by simp⟩))
    have k1 := u3 _ m1
    have k2 := u3 _ m2
    unfold hasT
    have a1 : decide (x.1.1 ≤ t) = decide (x.1.1 ≤ u) := decide_eq_decide.2 ⟨fun h => k1 h, fun h => by omega⟩
    have a2 : decide (t < x.1.2) = decide (u < x.1.2) := decide_eq_decide.2 ⟨fun h => by omega, fun h => by
      by_cases hh : x.1.2 ≤ t
      · have := k2 hh; omega
      omega⟩
    rw [a1, a2]
  have e2 : (outE l t).length ≤ (outE l u).length := out_len fun p hp hh => by
    have k1 := u3 p.2.2.2.2.1 (List.mem_cons_of_mem _ (List.mem_append_left _ (List.mem_map.2 ⟨p, hp, rfl⟩)))
    have h4 := hasT_iff.1 hh
    exact hasT_iff.2 ⟨k1 h4.1, by omega⟩
  omega
end Go.Proofs
namespace Go.Proofs
open Go.Fs
set_option linter.unusedVariables false

theorem setE_len : ∀ l : List ByteArray, (setE l).length ≤ l.length := fun l => by
  suffices h : ∀ (l a : List ByteArray), (l.foldl putE a).length ≤ a.length + l.length by simpa [setE] using h l []
  intro l
  induction l with
  | nil => intro a; simp
  | cons w l ih =>
    intro a
    have h1 := ih (putE a w)
    have h2 : (putE a w).length ≤ a.length + 1 := by
      unfold putE
      by_cases hh : hasB a w = true
      · rw [if_pos hh]; omega
      rw [if_neg hh]
      have : ∀ b : List ByteArray, (insE w b).length = b.length + 1 := fun b => by
        induction b with
        | nil => rfl
        | cons x b ih => unfold insE; split <;> simp [*]
      rw [this]; omega
    simp only [List.foldl_cons, List.length_cons]
    omega
theorem outE_len {l : List Permit} {t : Int} : (outE l t).length ≤ l.length := by
  unfold outE
  refine Nat.le_trans (setE_len _) ?_
  rw [List.length_map]
  exact List.length_filter_le _ _
theorem permitted_drop {l : List Season} {j : Nat} {t : Int} (h : j < l.length) : permittedE (l.drop j) t = if hasT l[j].1 t = true then l[j].2 else permittedE (l.drop (j + 1)) t := by
  rw [List.drop_eq_getElem_cons h] <;> rfl
theorem rPermitted_ok {l : List ((Int × Int) × Int)} {t : Int} (hl : l.length < 1000000) : VF Tryz.prog OA 80 [.v y23 l, I t] (I (permittedE l t)) := by
  refine VF.enter Tryz.func80 rfl (fun _ _ => rfl) rfl ?_
  show VC _ _ _ _ _ [(0, .v y23 l), (1, I t)] [] _
  refine VC.seq (VC.text ?_)
  refine VO.c (.assign rfl) ?_
  refine VO.go (VC.seq (VC.seq (VC.text ?_)))
  refine VO.c (.assign rfl) ?_
  refine VO.go (VC.block ?_)
  refine VC.keep [(0, .v y23 l), (1, I t), (5, I ((0 : Nat) : Int))] ⟨rfl, rfl, rfl, trivial⟩ ?_
  refine VC.loop (I := fun kk ff ss => ∃ (j : Nat), kk = l.length - j ∧ ff = [(0, .v y23 l), (1, I t), (5, I ((j : Nat) : Int))] ∧ ss = [] ∧ (j ≤ l.length) ∧ (permittedE l t = permittedE (l.drop j) t)) ?_ _ _ _ ⟨0, rfl, rfl, rfl, Nat.zero_le _, (by rfl)⟩
  rintro kk ff ss ⟨j, hk0, rfl, rfl, hj, hw⟩
  refine VC.seq (VC.seq (VC.text ?_))
  refine VO.c (.move rfl) ?_
  refine VO.c (.move rfl) ?_
  refine VO.r (.len el23) ?_
  refine VO.c (.lss) ?_
  refine VO.go ?_
  refine VC.condD rfl (fun c2 => ?_) (fun c2 => ?_)
  · refine VC.skip (VC.seq (VC.block (VC.seq (VC.text ?_))))
    refine VO.c (.move rfl) ?_
    refine VO.c (.move rfl) ?_
    refine VO.c (.ix (j := j) rfl rfl el23 (by omega)) ?_
    refine VO.c (.fa (.l .o)) ?_
    refine VO.c (.fa (.l .o)) ?_
    refine VO.r (.ld vt3) ?_
    refine VO.c (.move rfl) ?_
    refine VO.c (.leq) ?_
    refine VO.c (.move rfl) ?_
    refine VO.cg (r := decide (((l[j]).1).1 ≤ t)) (w := true) [] trivial (fun hgd => have g4_8 : ((l[j]).1).1 ≤ t := (by simpa using hgd); (.move rfl)) ?_
    refine VO.cg (r := decide (((l[j]).1).1 ≤ t)) (w := true) [] trivial (fun hgd => have g4_8 : ((l[j]).1).1 ≤ t := (by simpa using hgd); (.move rfl)) ?_
    refine VO.cg (r := decide (((l[j]).1).1 ≤ t)) (w := true) [] trivial (fun hgd => have g4_8 : ((l[j]).1).1 ≤ t := (by simpa using hgd); (.move rfl)) ?_
    refine VO.cg (r := decide (((l[j]).1).1 ≤ t)) (w := true) [(22, .v y23 l), (23, I ((j : Nat) : Int))] ⟨rfl, rfl, trivial⟩ (fun hgd => have g4_8 : ((l[j]).1).1 ≤ t := (by simpa using hgd); (.ixD rfl rfl ((0, 0), 0) el23 (by omega))) ?_
    refine VO.cg (r := decide (((l[j]).1).1 ≤ t)) (w := true) [(24, .p y149 (l.getD j ((0, 0), 0)))] ⟨rfl, trivial⟩ (fun hgd => have g4_8 : ((l[j]).1).1 ≤ t := (by simpa using hgd); (.fa (.l .o))) ?_
    refine VO.cg (r := decide (((l[j]).1).1 ≤ t)) (w := true) [(25, .p y29 ((l.getD j ((0, 0), 0)).1))] ⟨rfl, trivial⟩ (fun hgd => have g4_8 : ((l[j]).1).1 ≤ t := (by simpa using hgd); (.fa (.r .o))) ?_
    refine VO.rg (r := decide (((l[j]).1).1 ≤ t)) (w := true) [(26, .p (.int .i64) (((l.getD j ((0, 0), 0)).1).2))] ⟨rfl, trivial⟩ (fun hgd => have g4_8 : ((l[j]).1).1 ≤ t := (by simpa using hgd); (.ld vt3)) ?_
    refine VO.cg (r := decide (((l[j]).1).1 ≤ t)) (w := true) [(21, I t), (27, I (((l.getD j ((0, 0), 0)).1).2))] ⟨rfl, rfl, trivial⟩ (fun hgd => have g4_8 : ((l[j]).1).1 ≤ t := (by simpa using hgd); (.lss)) ?_
    refine VO.c (.and) ?_
    refine VO.go ?_
    refine VC.condB rfl (fun c4 => ?_) (fun c4 => ?_)
    · try simp only [Bool.and_eq_true, Bool.or_eq_true, Bool.and_eq_false_iff, Bool.or_eq_false_iff, Bool.not_eq_true', Bool.not_eq_false', decide_eq_true_eq, decide_eq_false_iff_not] at c4
      have hlt : j < l.length := by omega
      rw [show l.getD j ((0, 0), 0) = l[j] by simp [hlt]] at c4
      refine VC.seq (VC.text ?_)
      refine VO.c (.move rfl) ?_
      refine VO.c (.move rfl) ?_
      refine VO.c (.ix (j := j) rfl rfl el23 (by omega)) ?_
      refine VO.c (.fa (.r .o)) ?_
      refine VO.r (.ld vt3) ?_
      refine VO.c (.assign rfl) ?_
      refine VO.go ?_
      refine VC.ret ?_
      exact VEnd.one rfl evT (pvI (by rw [hw, permitted_drop hlt, if_pos (hasT_iff.2 c4)]))
    try simp only [Bool.and_eq_true, Bool.or_eq_true, Bool.and_eq_false_iff, Bool.or_eq_false_iff, Bool.not_eq_true', Bool.not_eq_false', decide_eq_true_eq, decide_eq_false_iff_not] at c4
    have hlt : j < l.length := by omega
    rw [show l.getD j ((0, 0), 0) = l[j] by simp [hlt]] at c4
    have hz : ¬ hasT l[j].1 t = true := fun h => by have := hasT_iff.1 h; omega
    refine VC.skip (VC.text ?_)
    refine VO.c (.move rfl) ?_
    refine VO.c (.add rfl rfl (by omega)) ?_
    refine VO.c (.assign rfl) ?_
    refine VO.nil ?_
    refine ⟨_, [(0, .v y23 l), (1, I t), (5, I (((j + 1) : Nat) : Int))], ?_, ⟨rfl, rfl, rfl, trivial⟩, (j + 1), rfl, rfl, rfl, (by omega), (by rw [hw, permitted_drop (by omega), if_neg hz])⟩
    omega
  refine VC.exit (VC.seq (VC.text ?_))
  refine VO.c (.assign rfl) ?_
  refine VO.go ?_
  refine VC.ret ?_
  exact VEnd.one rfl evT (pvI (by rw [hw, List.drop_eq_nil_of_le (by omega)] <;> rfl))
end Go.Proofs
namespace Go.Proofs
open Go.Fs
set_option linter.unusedVariables false
theorem sHas_ok {s : Int × Int} {t : Int} : VF Tryz.prog OA 177 [.v y29 s, I t] (B (hasT s t)) := by
  refine VF.enter Tryz.func177 rfl (fun _ _ => rfl) rfl ?_
  show VC _ _ _ _ _ [(0, .v y29 s), (1, I t)] [] _
  refine VC.seq (VC.text ?_)
  refine VO.new (.box) ?_
  refine VO.c (.assign rfl) ?_
  refine VO.go (VC.seq (VC.text ?_))
  refine VO.c (.fa (.l .o)) ?_
  refine VO.r (.ld vt3) ?_
  refine VO.c (.move rfl) ?_
  refine VO.c (.leq) ?_
  refine VO.c (.move rfl) ?_
  refine VO.cg (r := decide (s.1 ≤ t)) (w := true) [] trivial (fun hgd => have g1_4 : s.1 ≤ t := (by simpa using hgd); (.move rfl)) ?_
  refine VO.cg (r := decide (s.1 ≤ t)) (w := true) [] trivial (fun hgd => have g1_4 : s.1 ≤ t := (by simpa using hgd); (.fa (.r .o))) ?_
  refine VO.rg (r := decide (s.1 ≤ t)) (w := true) [(11, .p (.int .i64) s.2)] ⟨rfl, trivial⟩ (fun hgd => have g1_4 : s.1 ≤ t := (by simpa using hgd); (.ld vt3)) ?_
  refine VO.cg (r := decide (s.1 ≤ t)) (w := true) [(10, I t), (12, I s.2)] ⟨rfl, rfl, trivial⟩ (fun hgd => have g1_4 : s.1 ≤ t := (by simpa using hgd); (.lss)) ?_
  refine VO.c (.and) ?_
  refine VO.c (.assign rfl) ?_
  refine VO.go ?_
  refine VC.ret ?_
  exact VEnd.one rfl evT (pvE (by rfl))
theorem sPermitted_ok {l : List ((Int × Int) × Int)} {t : Int} (hl : l.length < 1000000) : VF Tryz.prog OA 192 [.v y47 l, I t] (I (permittedE l t)) := by
  refine VF.enter Tryz.func192 rfl (fun _ _ => rfl) rfl ?_
  show VC _ _ _ _ _ [(0, .v y47 l), (1, I t)] [] _
  refine VC.seq (VC.text ?_)
  refine VO.c (.assign rfl) ?_
  refine VO.go (VC.seq (VC.seq (VC.text ?_)))
  refine VO.c (.move rfl) ?_
  refine VO.r (.len el47) ?_
  refine VO.c (.move rfl) ?_
  refine VO.go (VC.block ?_)
  refine VC.keep [(1, I t), (7, .v y47 l), (8, I ((l.length : Nat) : Int)), (9, I ((0 : Nat) : Int))] ⟨rfl, rfl, rfl, rfl, trivial⟩ ?_
  refine VC.loop (I := fun kk ff ss => ∃ (j : Nat), kk = l.length - j ∧ ff = [(1, I t), (7, .v y47 l), (8, I ((l.length : Nat) : Int)), (9, I ((j : Nat) : Int))] ∧ ss = [] ∧ (j ≤ l.length) ∧ (permittedE l t = permittedE (l.drop j) t)) ?_ _ _ _ ⟨0, rfl, rfl, rfl, Nat.zero_le _, (by rfl)⟩
  rintro kk ff ss ⟨j, hk0, rfl, rfl, hj, hw⟩
  refine VC.seq (VC.text ?_)
  refine VO.c (.lss) ?_
  refine VO.go (VC.seq ?_)
  refine VC.condD rfl (fun c2 => ?_) (fun c2 => ?_)
  · refine VC.skip (VC.seq (VC.block (VC.seq (VC.text ?_))))
    refine VO.c (.ix (j := j) rfl rfl el47 (by omega)) ?_
    refine VO.r (.ld vt94) ?_
    refine VO.cell (.alloc zt94) ?_
    intro ww1
    refine VO.setV (cs' := [I (((l[j]).1).1), I (((l[j]).1).2), I ((l[j]).2)]) vt94 .v ?_
    refine VO.shut [(6, .p y94 (l[j]))] (.cons rfl (.var m0 .refl) .nil) ?_
    refine VO.go (VC.seq (VC.text ?_))
    refine VO.c (.fa (.l .o)) ?_
    refine VO.r (.ld vt29) ?_
    refine VO.c (.move rfl) ?_
    refine VO.call rfl rfl (VF.call (sHas_ok )) ?_
    refine VO.go ?_
    refine VC.condB rfl (fun c4 => ?_) (fun c4 => ?_)
    · refine VC.seq (VC.text ?_)
      refine VO.c (.fa (.r .o)) ?_
      refine VO.r (.ld vt3) ?_
      refine VO.c (.assign rfl) ?_
      refine VO.go ?_
      refine VC.ret ?_
      exact VEnd.one rfl evT (pvI (by rw [hw, permitted_drop (by omega), if_pos c4]))
    refine VC.skip (VC.text ?_)
    refine VO.c (.add rfl rfl (by omega)) ?_
    refine VO.c (.move rfl) ?_
    refine VO.nil ?_
    refine ⟨_, [(1, I t), (7, .v y47 l), (8, I ((l.length : Nat) : Int)), (9, I (((j + 1) : Nat) : Int))], ?_, ⟨rfl, rfl, rfl, rfl, trivial⟩, (j + 1), rfl, rfl, rfl, (by omega), (by rw [hw, permitted_drop (by omega), if_neg (by rw [c4]; decide)])⟩
    omega
  refine VC.exit (VC.seq (VC.text ?_))
  refine VO.c (.assign rfl) ?_
  refine VO.go ?_
  refine VC.ret ?_
  exact VEnd.one rfl evT (pvI (by rw [hw, List.drop_eq_nil_of_le (by omega)] <;> rfl))
abbrev Vers := ByteArray × Int
abbrev Evid := ByteArray × List Vers
abbrev Clm := ByteArray × Bool × List ByteArray
abbrev Cse := List Vers × List Evid × List Clm
def thingE (l : List Vers) (s : ByteArray) : Int := idxG (fun v => decide (v.1 = s)) l 0
def evidE (l : List Evid) (s : ByteArray) : Int := idxG (fun v => decide (v.1 = s)) l 0
def claimE (l : List Clm) (s : ByteArray) : Int := idxG (fun v => decide (v.1 = s)) l 0
end Go.Proofs
namespace Go.Proofs
open Go.Fs
set_option linter.unusedVariables false
abbrev y129 : Ty := (.mp .str (.int .i64))
theorem zt3 : ZerT Tryz.prog 3 (.int .i64) := zerT_of (z := .int .i64 0) (by kernel_rfl) rfl rfl
theorem mt129 : MapT Tryz.prog 129 .str (.int .i64) := ⟨9, 3, by kernel_rfl, keyStr (by kernel_rfl), zt3⟩
def firstR (f : Nat → Int) (i n : Nat) : Int := firstE ((List.range' i (n - i)).map f)
theorem mget_mset {α β : Type} [DecidableEq α] : ∀ (m : List (α × β)) (x z : α) (y : β), mget (mset m x y) z = if z = x then some y else mget m z
  | [], x, z, y => by simp [mset, mget]
  | (a, b) :: r, x, z, y => by
    by_cases h : x = a
    · subst h
      simp only [mset, if_pos, mget]
      by_cases h2 : z = x <;> simp [h2]
    simp only [mset, if_neg h, mget, mget_mset r x z y]
    by_cases h2 : z = a
    · subst h2
      have : ¬ z = x := fun e => h e.symm
      simp [this]
    simp [h2]
def vAt (l : List Vers) (i : Nat) : Vers := l.getD i (ByteArray.empty, 0)
def verAt (l : List Vers) (i : Nat) : Int := firstE [whenE (!nameB (vAt l i).1) 8, rangeE (vAt l i).2 0 999, whenE (decide (0 ≤ thingE (l.take i) (vAt l i).1)) 9]
def versE (l : List Vers) : Int := if 64 < (l.length : Int) then 5 else firstR (verAt l) 0 l.length
end Go.Proofs
namespace Go.Proofs
open Go.Fs
set_option linter.unusedVariables false
def withAt (K : ByteArray → Bool) (l : List Vers) (i : Nat) : Int := firstE [whenE (!K (vAt l i).1) 10, rangeE (vAt l i).2 0 999, whenE (decide (0 ≤ thingE (l.take i) (vAt l i).1)) 9]
def withE (K : ByteArray → Bool) (l : List Vers) : Int := if 16 < (l.length : Int) then 5 else firstR (withAt K l) 0 l.length
def usesAt (K : ByteArray → Bool) (l : List ByteArray) (i : Nat) : Int := firstE [whenE (!K (l.getD i ByteArray.empty)) 10, whenE (hasB (l.take i) (l.getD i ByteArray.empty)) 9]
def usesE (K : ByteArray → Bool) (l : List ByteArray) : Int := if firstE [whenE (decide ((l.length : Int) = 0)) 12, whenE (decide (16 < (l.length : Int))) 5] = 0 then firstR (usesAt K l) 0 l.length else firstE [whenE (decide ((l.length : Int) = 0)) 12, whenE (decide (16 < (l.length : Int))) 5]
end Go.Proofs
namespace Go.Proofs
open Go.Fs
set_option linter.unusedVariables false
def knowsV (c : Cse) (s : ByteArray) : Bool := decide (0 ≤ thingE c.1 s)
def eAt (c : Cse) (i : Nat) : Evid := c.2.1.getD i (ByteArray.empty, [])
def evAt (c : Cse) (i : Nat) : Int := firstE [whenE (!nameB (eAt c i).1) 8, whenE (decide (0 ≤ evidE (c.2.1.take i) (eAt c i).1)) 9, withE (knowsV c) (eAt c i).2]
end Go.Proofs
namespace Go.Proofs
open Go.Fs
set_option linter.unusedVariables false
def knownC (c : Cse) (i : Nat) (s : ByteArray) : Bool := decide (0 ≤ evidE c.2.1 s) || decide (0 ≤ claimE (c.2.2.take i) s)
def cAt (c : Cse) (i : Nat) : Clm := c.2.2.getD i (ByteArray.empty, false, [])
def clAt (c : Cse) (i : Nat) : Int := firstE [whenE (!nameB (cAt c i).1) 8, whenE (knownC c i (cAt c i).1) 9, usesE (knownC c i) (cAt c i).2.2]
end Go.Proofs
namespace Go.Proofs
open Go.Fs
set_option linter.unusedVariables false

def caseE (c : Cse) : Int :=
  if versE c.1 ≠ 0 then versE c.1
  else if 64 < (c.2.1.length : Int) then 5
  else if firstR (evAt c) 0 c.2.1.length ≠ 0 then firstR (evAt c) 0 c.2.1.length
  else if 64 < (c.2.2.length : Int) then 5
  else firstR (clAt c) 0 c.2.2.length
structure CseOk (c : Cse) : Prop where
  v : c.1.length < 100000
  e : c.2.1.length < 100000
  l : c.2.2.length < 100000
  w : ∀ x ∈ c.2.1, x.2.length < 100000
  u : ∀ x ∈ c.2.2, x.2.2.length < 100000
end Go.Proofs
namespace Go.Proofs
open Go.Fs
set_option linter.unusedVariables false
end Go.Proofs
namespace Go.Proofs
open Go.Fs
set_option linter.unusedVariables false
end Go.Proofs
namespace Go.Proofs
open Go.Fs
set_option linter.unusedVariables false

def nowE (l : List Vers) (s : ByteArray) : Int := (vAt l (thingE l s).toNat).2
def validB (c : Cse) (x : Evid) : Bool := x.2.all fun v => decide (nowE c.1 v.1 = v.2)
def validR (c : Cse) : List ByteArray := (c.2.1.filter (validB c)).map (·.1)
end Go.Proofs
namespace Go.Proofs
open Go.Fs
set_option linter.unusedVariables false

def PermV (l : List Permit) : Prop := ∀ o ∈ l, spanE o.2.2.2.2 = 0
def clashE (l : List Permit) (p : Permit) : Int := firstE (l.map fun o => (reasonR (reasonIx o p)).2.2)
def issueE (l : List Permit) (ss : List Season) (p : Permit) : Int := if clashE l p ≠ 0 then clashE l p else if crowdedE (l ++ [p]) ss p.2.2.2.2 = true then 21 else 0
theorem reasonIx_lt {a b : Permit} : reasonIx a b ≤ 4 := by
  unfold reasonIx
  split
  · omega
  split
  · omega
  split
  · omega
  split <;> omega
end Go.Proofs
namespace Go.Fs
variable {P : Program} {h : Heap} {S : List Nat} {σ : Sto} {t : Tr} {fl : VL} {x : Operand} {T e : TypeId} {τ : Ty}
theorem FreshO.alloc0 (hZ : ZerT P e (.sl τ)) : FreshO P fl (.alloc e) (.var [.raw (.slice none 0 0)]) :=
  ⟨rfl, fun h S t hs hok hS => by
    obtain ⟨z, h1, h2, h3⟩ := hZ.zero
    obtain ⟨z1, z2⟩ := zero_rep h S (.sl τ)
    obtain ⟨a1, a2⟩ := af_cells (u := z) (by rw [h2]; exact z2)
    refine ⟨fun k => .pointer (some ⟨k, 0, none⟩), .row e z.cells.toList true false, fun _ => rfl, fun S' hN hm => ?_, fun H _ _ _ _ _ => ?_⟩
    · exact ⟨h.next, e, _, rfl, hm, by rw [Heap.get_push, if_pos rfl], by rw [h2]; exact ⟨_, _, rfl, rfl, rfl⟩, a2⟩
    show (match (P.info? e).bind (·.zero) with | some z => if af z then fsBox e z H else none | none => none) = _
    rw [h1]
    simp only [a1, if_true]
    unfold fsBox
    rw [if_pos a2]⟩
def arr2B (P : Program) (T e : TypeId) : Bool := match P.underlying T with
  | some (.array n e') => Nat.beq n 2 && Nat.beq e' e && (match P.info? e with | some i => Nat.beq i.size 1 | none => false)
  | _ => false
theorem ReadV.arr2 {k : IntKind} {a c : Int} (e : TypeId) (hb : arr2B P T e = true := by kernel_rfl) (hx : evV fl x = some (.p (.pair (.int k) (.int k)) (a, c)) := by rfl) : ReadV P fl σ (.slice T x none none none) (.v (.sl (.int k)) [a, c]) :=
  ⟨rfl, fun h S t hs _ => by
    have hp : RepP h S (.pair (.int k) (.int k)) (evalO t x) (a, c) := hs x (by simp [Op.operands]) _ hx
    obtain ⟨b, o, e', rs, own, more, h1, h2, h3, h4, h5⟩ := hp
    have h4 : o + 2 ≤ rs.length := h4
    have h5 : RepC h S (.int k) (((rs.drop o).take 2).take 1) a ∧ RepC h S (.int k) (((rs.drop o).take 2).drop 1) c := h5
    refine ⟨.slice (some ⟨b, o, none⟩) 2 1, SlV.rep (.inr ⟨b, o, 1, rfl, .inr ⟨h2, e', rs, own, more, h3, h4, fun i hi => ?_⟩⟩), fun H _ _ _ _ _ _ => ?_⟩
    · have hi : i < 2 := hi
      rcases i with _ | _ | i
      · have := h5.1
        rw [List.take_take] at this
        exact this
      · have := h5.2
        rw [List.drop_take, List.drop_drop] at this
        exact this
      omega
    show (fsSlice P T (evalO t x) none none none H).map _ = _
    rw [h1]
    unfold arr2B at hb
    split at hb
    · rename_i n e2 hu
      obtain ⟨b1, b2⟩ := band hb
      obtain ⟨b3, b4⟩ := band b1
      obtain rfl := nbeq b3
      obtain rfl := nbeq b4
      split at b2
      · rename_i i hi
        have hsz := nbeq b2
        unfold fsSlice
        simp only [hu, hi, boundOf, Nat.zero_mul, Nat.add_zero]
        rfl
      cases b2
    cases hb⟩
end Go.Fs
namespace Go.Proofs
open Go.Fs
set_option linter.unusedVariables false
set_option maxHeartbeats 1000000

theorem ltS_lt {a b : ByteArray} : ltS a b = decide (a.data.toList < b.data.toList) := by
  unfold ltS
  rw [bytesLess_eq, Lib.toList_data, Lib.toList_data]
theorem sortB_sorted (l : List ByteArray) : (sortB l).Pairwise fun a b => ltS b a = false := by
  unfold sortB
  rw [List.pairwise_map]
  have := List.pairwise_mergeSort (le := fun x y : List UInt8 => decide (x ≤ y)) (fun a b c h1 h2 => by simp at *; exact List.le_trans h1 h2) (fun a b => by simp; exact List.le_total a b) (l.map fun s => s.data.toList)
  refine this.imp fun {a b} h => ?_
  have h := of_decide_eq_true h
  rw [ltS_lt]
  exact decide_eq_false fun hlt => (List.not_lt.2 h) hlt
theorem mem_sortB {l : List ByteArray} {x : ByteArray} : x ∈ sortB l ↔ x ∈ l := by
  unfold sortB
  rw [List.mem_map]
  constructor
  · rintro ⟨d, hd, rfl⟩
    obtain ⟨y, hy, rfl⟩ := List.mem_map.1 (List.mem_mergeSort.1 hd)
    exact hy
  exact fun h => ⟨x.data.toList, List.mem_mergeSort.2 (List.mem_map.2 ⟨x, h, rfl⟩), rfl⟩
theorem cpt_mem {xs : List ByteArray} {x : ByteArray} : ∀ {i : Nat}, i ≤ xs.length → (x ∈ cptA ByteArray.empty xs i ↔ x ∈ xs.take i)
  | 0, _ => by simp [cptA]
  | i + 1, hi => by
    have ih := cpt_mem (xs := xs) (x := x) (i := i) (by omega)
    rw [List.take_succ_eq_append_getElem (by omega), List.mem_append, List.mem_singleton]
    unfold cptA
    split
    · rename_i h
      rw [ih]
      constructor
      · exact .inl
      rintro (h1 | h1)
      · exact h1
      subst h1
      rw [getDg _ _ (by omega), getDg _ _ (by omega)] at h
      rw [h.2]
      exact List.mem_take_iff_getElem.2 ⟨i - 1, by omega, rfl⟩
    rw [List.mem_append, ih, List.mem_singleton, getDg _ _ (by omega)]
theorem cpt_asc {xs : List ByteArray} (hs : xs.Pairwise fun a b => ltS b a = false) : ∀ {i : Nat}, i ≤ xs.length → Asc (cptA ByteArray.empty xs i)
  | 0, _ => by simp [cptA, Asc]
  | i + 1, hi => by
    have ih := cpt_asc hs (i := i) (by omega)
    unfold cptA
    split
    · exact ih
    rename_i h
    refine List.pairwise_append.2 ⟨ih, List.pairwise_singleton _ _, fun a ha b hb => ?_⟩
    rw [List.mem_singleton] at hb
    subst hb
    rw [cpt_mem (by omega)] at ha
    obtain ⟨j, hj, rfl⟩ := List.mem_take_iff_getElem.1 ha
    rw [getDg _ _ (by omega)]
    have hj1 : j < i := by omega
    have hle : ∀ p q (hp : p < xs.length) (hq : q < xs.length), p < q → ltS xs[q] xs[p] = false := fun p q hp hq hpq => List.pairwise_iff_getElem.1 hs p q hp hq hpq
    have hlast : ltS xs[i] xs[i - 1] = false := hle (i - 1) i (by omega) (by omega) (by omega)
    have hne : ¬ xs[i - 1] = xs[i] := fun e => h ⟨by omega, by rw [getDg _ _ (by omega), getDg _ _ (by omega), e]⟩
    have e1 := leS_eq (p := xs[i - 1]) (q := xs[i])
    rw [hlast, decide_eq_false hne, Bool.or_false] at e1
    have h1 : ltS xs[i - 1] xs[i] = true := by simpa using e1
    by_cases hji : j = i - 1
    · subst hji; exact h1
    have h2 := hle j (i - 1) (by omega) (by omega) (by omega)
    have e2 := leS_eq (p := xs[j]) (q := xs[i - 1])
    rw [h2] at e2
    rcases Bool.or_eq_true_iff.1 (by simpa using e2 : (ltS xs[j] xs[i - 1] || decide (xs[j] = xs[i - 1])) = true) with h3 | h3
    · exact ltS_trans h3 h1
    rw [of_decide_eq_true h3]; exact h1
theorem cpt_set (l : List ByteArray) : cptA ByteArray.empty (sortB l) (sortB l).length = setE l :=
  setE_eq (cpt_asc (sortB_sorted l) (Nat.le_refl _)) fun x => by rw [cpt_mem (Nat.le_refl _), List.take_length]; exact mem_sortB
theorem zSort_ok {w_l : Value} {l : List ByteArray} (hl : l.length ≤ 1000000) : VFG Tryz.prog OA 178 [.raw w_l] [(w_l, .row 9 .str l)] (fun r g => r = .tup [] ∧ g = [(w_l, .row 9 .str (sortB l))]) := VFG.sortS (O := orcA 182 147 16) hl fun _ _ => rfl
theorem zCompact_ok {w_xs : Value} {xs : List ByteArray} (hn : xs.length < 1000000) : VFG Tryz.prog OA 179 [.raw w_xs] [(w_xs, .row 9 .str xs)] (fun r' g => r' = (.v (.sl .str) (cptA ByteArray.empty xs xs.length)) ∧ g = []) := by
  refine VFG.enterC Tryz.func179 rfl (fun _ _ => rfl) rfl ?_
  show VC _ _ _ _ _ [(0, .raw w_xs)] [(w_xs, .row 9 .str xs)] _
  refine VC.seq (VC.text ?_)
  refine VO.c (.assign rfl) ?_
  refine VO.go (VC.seq (VC.seq (VC.text ?_)))
  refine VO.c (.move rfl) ?_
  refine VO.r (.lenO m0 el27) ?_
  refine VO.c (.lss) ?_
  refine VO.go ?_
  refine VC.condD rfl (fun c1 => ?_) (fun c1 => ?_)
  · refine VC.seq (VC.text ?_)
    refine VO.c (.move rfl) ?_
    refine VO.c (.assign rfl) ?_
    refine VO.go ?_
    refine VC.ret ?_
    exact VEnd.one rfl (evC (.row m0)) (pvE (by (have h1 : xs.length < 2 := by omega); rw [cptA_all (Nat.le_refl _) (fun j h2 h3 => by omega), List.take_length]))
  refine VC.skip (VC.seq (VC.seq (VC.text ?_)))
  refine VO.c (.assign rfl) ?_
  refine VO.go (VC.block ?_)
  refine VC.keep [(0, .raw w_xs), (3, I ((1 : Nat) : Int))] ⟨rfl, rfl, trivial⟩ ?_
  refine VC.loop (I := fun kk ff ss => ∃ (k : Nat), kk = xs.length - k ∧ ff = [(0, .raw w_xs), (3, I ((k : Nat) : Int))] ∧ ss = [(w_xs, .row 9 .str xs)] ∧ (1 ≤ k ∧ k ≤ xs.length) ∧ (∀ j, 0 < j → j < k → xs.getD j ByteArray.empty ≠ xs.getD (j - 1) ByteArray.empty)) ?_ _ _ _ ⟨1, rfl, rfl, rfl, (by omega), (by intro j h1 h2; omega)⟩
  rintro kk ff ss ⟨k, hk0, rfl, rfl, hk, hall⟩
  refine VC.seq (VC.seq (VC.text ?_))
  refine VO.c (.move rfl) ?_
  refine VO.c (.move rfl) ?_
  refine VO.r (.lenO m0 el27) ?_
  refine VO.c (.lss) ?_
  refine VO.go ?_
  refine VC.condD rfl (fun c4 => ?_) (fun c4 => ?_)
  · have hk2 : k < xs.length := by omega
    refine VC.skip (VC.seq (VC.block (VC.seq (VC.drawn ?_))))
    refine VD.c (.move rfl) ?_
    refine VD.c (.move rfl) ?_
    refine VD.co (.ixO (j := k) rfl rfl m0 el27 (by omega)) ?_
    refine VD.r [(w_xs, .row 9 .str xs)] (.ldO rfl m0 vt9 (by omega)) (.inr ⟨rfl, rfl⟩) ?_
    refine VD.c (.move rfl) ?_
    refine VD.c (.move rfl) ?_
    refine VD.nw [] ?_
    refine VD.c (.sub rfl rfl (by omega)) ?_
    refine VD.co (.ixO (j := k - 1) rfl (congrArg (fun z : Int => some (PV.v (.int .i64) z)) (show (((k : Nat) : Int) - (1 : Int)) = ((k - 1 : Nat) : Int) by omega)) m0 el27 (by omega)) ?_
    refine VD.r [(w_xs, .row 9 .str xs)] (.ldO rfl m0 vt9 (by omega)) (.inr ⟨rfl, rfl⟩) ?_
    refine VD.c (.seql) ?_
    refine VD.go ?_
    refine VC.condD rfl (fun c6 => ?_) (fun c6 => ?_)
    · have c6' : xs.getD k ByteArray.empty = xs.getD (k - 1) ByteArray.empty := by rw [getDg _ _ hk2, getDg _ _ (by omega)]; exact c6
      have hs0 : cptR ByteArray.empty xs (k + 1) = xs := by rw [cptR_eq (by omega) c6', cptR_start (by omega) hall]
      have hc0 : (cptA ByteArray.empty xs (k + 1)).length = k := by rw [cptA_eq (by omega) c6', cptA_all (by omega) hall, List.length_take]; omega
      refine VC.seq (VC.text ?_)
      refine VO.c (.move rfl) ?_
      refine VO.c (.move rfl) ?_
      refine VO.r (.restO (k := k) rfl rfl m0 el27 (by omega) (by omega)) ?_
      refine VO.c (.assign rfl) ?_
      refine VO.go (VC.seq (VC.seq (VC.text ?_)))
      refine VO.c (.assign rfl) ?_
      refine VO.go (VC.block ?_)
      refine VC.keep [(0, .raw w_xs), (3, I (((cptA ByteArray.empty xs (k + 1)).length : Nat) : Int)), (4, .raw (rowFrom w_xs 1 k)), (5, I ((1 : Nat) : Int))] ⟨rfl, slI rfl (by rw [hc0]), rfl, rfl, trivial⟩ ?_
      refine VC.loop (I := fun kk ff ss => ∃ (m : Nat), kk = xs.length - k - m ∧ ff = [(0, .raw w_xs), (3, I (((cptA ByteArray.empty xs (k + m)).length : Nat) : Int)), (4, .raw (rowFrom w_xs 1 k)), (5, I ((m : Nat) : Int))] ∧ ss = [(w_xs, .row 9 .str (cptR ByteArray.empty xs (k + m)))] ∧ (1 ≤ m ∧ k + m ≤ xs.length) ∧ ((cptA ByteArray.empty xs (k + m)).length + 1 ≤ k + m)) ?_ _ _ _ ⟨1, rfl, rfl, (by rw [hs0]), (by omega), (by rw [hc0]; omega)⟩
      rintro kk ff ss ⟨m, hk2, rfl, rfl, hm, hc⟩
      have hR : (cptR ByteArray.empty xs (k + m)).length = xs.length := cptR_len hm.2
      refine VC.seq (VC.seq (VC.text ?_))
      refine VO.c (.move rfl) ?_
      refine VO.c (.move rfl) ?_
      refine VO.r (.lenF (k := k) m0 el27 (by omega)) ?_
      refine VO.c (.lss) ?_
      refine VO.go ?_
      refine VC.condD rfl (fun c9 => ?_) (fun c9 => ?_)
      · have hm' : k + m < xs.length := by omega
        have he : (cptR ByteArray.empty xs (k + m))[k + m]'(by omega) = xs.getD (k + m) ByteArray.empty := by rw [← getDg _ ByteArray.empty (by omega), cptR_at (by omega)]
        have he2 : (cptR ByteArray.empty xs (k + m))[k + Int.toNat (((m : Nat) : Int) - (1 : Int))]'(by omega) = xs.getD (k + m - 1) ByteArray.empty := by rw [← getDg _ ByteArray.empty (by omega), cptR_at (by omega)]; congr 1; omega
        refine VC.skip (VC.seq (VC.block (VC.seq (VC.drawn ?_))))
        refine VD.c (.move rfl) ?_
        refine VD.c (.move rfl) ?_
        refine VD.co (.ixF (j := m) (k := k) rfl rfl m0 el27 (by omega)) ?_
        refine VD.r [(w_xs, .row 9 .str (cptR ByteArray.empty xs (k + m)))] (.ldO rfl m0 vt9 (by omega)) (.inr ⟨rfl, rfl⟩) ?_
        refine VD.c (.move rfl) ?_
        refine VD.c (.move rfl) ?_
        refine VD.nw [] ?_
        refine VD.c (.sub rfl rfl (by omega)) ?_
        refine VD.co (.ixFZ (z := (((m : Nat) : Int) - (1 : Int))) (k := k) rfl rfl m0 el27 (by omega) (by omega)) ?_
        refine VD.r [(w_xs, .row 9 .str (cptR ByteArray.empty xs (k + m)))] (.ldO rfl m0 vt9 (by omega)) (.inr ⟨rfl, rfl⟩) ?_
        refine VD.c (.sneq) ?_
        refine VD.go ?_
        refine VC.condD rfl (fun c11 => ?_) (fun c11 => ?_)
        · have c11' : xs.getD (k + m) ByteArray.empty ≠ xs.getD (k + m - 1) ByteArray.empty := by rw [← he, ← he2]; exact c11
          refine VC.seq (VC.text ?_)
          refine VO.c (.move rfl) ?_
          refine VO.c (.move rfl) ?_
          refine VO.c (.move rfl) ?_
          refine VO.c (.move rfl) ?_
          refine VO.c (.ixF (j := m) (k := k) rfl rfl m0 el27 (by omega)) ?_
          refine VO.r (.ldO rfl m0 vt9 (by omega)) ?_
          refine VO.c (.ixO (j := ((cptA ByteArray.empty xs (k + m)).length)) rfl rfl m0 el27 (by omega)) ?_
          refine VO.setE ((cptA ByteArray.empty xs (k + m)).length) rfl rfl vt9 (by omega) ?_
          refine VO.go (VC.text ?_)
          refine VO.c (.move rfl) ?_
          refine VO.c (.add rfl rfl (by omega)) ?_
          refine VO.c (.assign rfl) ?_
          refine VO.nil (VC.text ?_)
          refine VO.c (.move rfl) ?_
          refine VO.c (.add rfl rfl (by omega)) ?_
          refine VO.c (.assign rfl) ?_
          refine VO.nil ?_
          refine ⟨_, [(0, .raw w_xs), (3, I (((cptA ByteArray.empty xs (k + (m + 1))).length : Nat) : Int)), (4, .raw (rowFrom w_xs 1 k)), (5, I (((m + 1) : Nat) : Int))], ?_, ⟨rfl, slI rfl (by first | (rw [← Nat.add_assoc, cptA_ne c11', List.length_append]; rfl) | rw [← Nat.add_assoc, cptA_eq (by omega) c11']), rfl, rfl, trivial⟩, (m + 1), rfl, rfl, (by first | (rw [← Nat.add_assoc, cptR_ne (by omega) c11', he]) | rw [← Nat.add_assoc, cptR_eq (by omega) c11']), (by omega), (by first | (rw [← Nat.add_assoc, cptA_ne c11', List.length_append, List.length_singleton]; omega) | (rw [← Nat.add_assoc, cptA_eq (by omega) c11']; omega))⟩
          omega
        have c11' : xs.getD (k + m) ByteArray.empty = xs.getD (k + m - 1) ByteArray.empty := by rw [← he, ← he2]; simpa using c11
        refine VC.skip (VC.text ?_)
        refine VO.c (.move rfl) ?_
        refine VO.c (.add rfl rfl (by omega)) ?_
        refine VO.c (.assign rfl) ?_
        refine VO.nil ?_
        refine ⟨_, [(0, .raw w_xs), (3, I (((cptA ByteArray.empty xs (k + (m + 1))).length : Nat) : Int)), (4, .raw (rowFrom w_xs 1 k)), (5, I (((m + 1) : Nat) : Int))], ?_, ⟨rfl, slI rfl (by first | (rw [← Nat.add_assoc, cptA_ne c11', List.length_append]; rfl) | rw [← Nat.add_assoc, cptA_eq (by omega) c11']), rfl, rfl, trivial⟩, (m + 1), rfl, rfl, (by first | (rw [← Nat.add_assoc, cptR_ne (by omega) c11', he]) | rw [← Nat.add_assoc, cptR_eq (by omega) c11']), (by omega), (by first | (rw [← Nat.add_assoc, cptA_ne c11', List.length_append, List.length_singleton]; omega) | (rw [← Nat.add_assoc, cptA_eq (by omega) c11']; omega))⟩
        omega
      refine VC.exit (VC.seq (VC.text ?_))
      refine VO.c (.move rfl) ?_
      refine VO.c (.move rfl) ?_
      refine VO.r (.restO (k := ((cptA ByteArray.empty xs (k + m)).length)) rfl rfl m0 el27 (by omega) (by omega)) ?_
      refine VO.clear0 (k := ((cptA ByteArray.empty xs (k + m)).length)) el27 zt9 (by omega) (by omega) ?_
      refine VO.go (VC.seq (VC.text ?_))
      refine VO.c (.move rfl) ?_
      refine VO.c (.move rfl) ?_
      refine VO.shut [(0, .v (.sl .str) ((cptR ByteArray.empty xs (k + m)).take ((cptA ByteArray.empty xs (k + m)).length) ++ List.replicate ((cptR ByteArray.empty xs (k + m)).length - ((cptA ByteArray.empty xs (k + m)).length)) ByteArray.empty)), (54, .v (.sl .str) ((cptR ByteArray.empty xs (k + m)).take ((cptA ByteArray.empty xs (k + m)).length) ++ List.replicate ((cptR ByteArray.empty xs (k + m)).length - ((cptA ByteArray.empty xs (k + m)).length)) ByteArray.empty)), (57, .v (.sl .str) ((cptR ByteArray.empty xs (k + m)).take ((cptA ByteArray.empty xs (k + m)).length) ++ List.replicate ((cptR ByteArray.empty xs (k + m)).length - ((cptA ByteArray.empty xs (k + m)).length)) ByteArray.empty))] (.cons rfl (.row m0) (.cons rfl (.row m0) (.cons rfl (.row m0) .nil))) ?_
      refine VO.r (.cutH rfl rfl el27 (by simp; omega)) ?_
      refine VO.c (.assign rfl) ?_
      refine VO.go ?_
      refine VC.ret ?_
      exact VEnd.one rfl evT (pvE (by rw [Int.toNat_natCast, show k + m = xs.length by omega, cptR_take, List.take_left]))
    have c6' : xs.getD k ByteArray.empty ≠ xs.getD (k - 1) ByteArray.empty := by rw [getDg _ _ hk2, getDg _ _ (by omega)]; exact c6
    refine VC.skip (VC.text ?_)
    refine VO.c (.move rfl) ?_
    refine VO.c (.add rfl rfl (by omega)) ?_
    refine VO.c (.assign rfl) ?_
    refine VO.nil ?_
    refine ⟨_, [(0, .raw w_xs), (3, I (((k + 1) : Nat) : Int))], ?_, ⟨rfl, rfl, trivial⟩, (k + 1), rfl, rfl, rfl, (by omega), (by intro j h1 h2; rcases Nat.lt_succ_iff_lt_or_eq.1 h2 with h | h; exact hall j h1 h; subst h; exact c6')⟩
    omega
  refine VC.exit (VC.seq (VC.text ?_))
  refine VO.c (.move rfl) ?_
  refine VO.c (.assign rfl) ?_
  refine VO.go ?_
  refine VC.ret ?_
  exact VEnd.one rfl (evC (.row m0)) (pvE (by rw [cptA_all (Nat.le_refl _) (fun j h1 h2 => hall j h1 (by omega)), List.take_length]))
theorem sDistinct_ok {w_l : Value} {l : List ByteArray} (hn : l.length < 1000000) : VFG Tryz.prog OA 142 [.raw w_l] [(w_l, .row 9 .str l)] (fun r' g => r' = (.v (.sl .str) (setE l)) ∧ g = []) := by
  refine VFG.enterC Tryz.func142 rfl (fun _ _ => rfl) rfl ?_
  show VC _ _ _ _ _ [(0, .raw w_l)] [(w_l, .row 9 .str l)] _
  refine VC.seq (VC.text ?_)
  refine VO.c (.assign rfl) ?_
  refine VO.go (VC.seq (VC.text ?_))
  refine VO.c (.move rfl) ?_
  refine VO.callG [(w_l, .row 9 .str l)] rfl rfl rfl (VFG.call (zSort_ok (by omega))) ?_
  rintro _ _ ⟨rfl, rfl⟩
  show VO _ _ _ _ _ _ [(w_l, .row 9 .str (sortB l))] _
  refine VO.go (VC.seq (VC.text ?_))
  refine VO.c (.move rfl) ?_
  refine VO.callG [(w_l, .row 9 .str (sortB l))] rfl rfl rfl (VFG.call (zCompact_ok (by rw [sortB_length]; omega))) ?_
  rintro _ _ ⟨rfl, rfl⟩
  show VO _ _ _ _ _ _ [] _
  refine VO.c (.assign rfl) ?_
  refine VO.go ?_
  refine VC.ret ?_
  exact VEnd.one rfl evT (pvE (by exact cpt_set l))
end Go.Proofs
namespace Go.Proofs
open Go.Fs
set_option linter.unusedVariables false
set_option maxHeartbeats 1000000
theorem vt43 : ValT Tryz.prog 43 y43 := valT_of (by kernel_rfl)
theorem vt47 : ValT Tryz.prog 47 y47 := valT_of (by kernel_rfl)
theorem zt27 : ZerT Tryz.prog 27 (.sl .str) := zerT_of (z := .slice none 0 0) (by kernel_rfl) rfl rfl
theorem atE_cons {l : List Permit} {t : Int} {i : Nat} (h : i < l.length) : atE (l.drop i) t = if hasT l[i].2.2.2.2 t = true then l[i] :: atE (l.drop (i + 1)) t else atE (l.drop (i + 1)) t := by
  unfold atE
  rw [List.drop_eq_getElem_cons h, List.filter_cons]
theorem atE_end {l : List Permit} {t : Int} {i : Nat} (h : l.length ≤ i) : atE (l.drop i) t = [] := by rw [List.drop_eq_nil_of_le h] <;> rfl
theorem sAt1_ok {l : List (ByteArray × ByteArray × ByteArray × (List ByteArray) × (Int × Int))} {t : Int} (hn : l.length < 1000000) : IterC Tryz.prog OA 176 [] [.p y43 l, .p (.int .i64) t] (fun x : Permit => [.v y35 x]) (atE l t) := by
  refine IterC.enter Tryz.func176 rfl rfl (fun _ => rfl) fun yv II EE γ hy hI => ?_
  show VC _ _ _ _ _ [(0, .raw yv), (1, .p y43 l), (2, .p (.int .i64) t)] γ _
  refine VC.seq (VC.text ?_)
  refine VO.r (.ld vt43) ?_
  refine VO.r (.len el43) ?_
  refine VO.c (.move rfl) ?_
  refine VO.go (VC.block ?_)
  refine VC.keep [(0, .raw yv), (2, .p (.int .i64) t), (6, .v y43 l), (7, I ((l.length : Nat) : Int)), (8, I ((0 : Nat) : Int))] ⟨rfl, rfl, rfl, rfl, rfl, trivial⟩ ?_
  refine VC.loop (I := fun kk ff ss => ∃ (i : Nat), kk = l.length - i ∧ ff = [(0, .raw yv), (2, .p (.int .i64) t), (6, .v y43 l), (7, I ((l.length : Nat) : Int)), (8, I ((i : Nat) : Int))] ∧ (i ≤ l.length) ∧ II (atE (l.drop i) t) ss) ?_ _ _ _ ⟨0, rfl, rfl, Nat.zero_le _, (by exact hI)⟩
  rintro kk ff ss ⟨i, hk0, rfl, hi, hI⟩
  refine VC.seq (VC.text ?_)
  refine VO.c (.lss) ?_
  refine VO.go (VC.seq ?_)
  refine VC.condD rfl (fun c1 => ?_) (fun c1 => ?_)
  · have hi' : i < l.length := by omega
    refine VC.skip (VC.seq (VC.block (VC.seq (VC.text ?_))))
    refine VO.c (.ix (j := i) rfl rfl el43 (by omega)) ?_
    refine VO.r (.ld vt35) ?_
    refine VO.cell (.alloc zt35) ?_
    intro ww1
    refine VO.setV (cs' := [St ((l[i]).1), St ((l[i]).2.1), St ((l[i]).2.2.1), .v (.sl .str) ((l[i]).2.2.2.1), I (((l[i]).2.2.2.2).1), I (((l[i]).2.2.2.2).2)]) vt35 .v ?_
    refine VO.shut [(5, .p y35 (l[i]))] (.cons rfl (.var m0 .refl) .nil) ?_
    refine VO.go (VC.seq (VC.text ?_))
    refine VO.c (.fa (.r (.r (.r (.r .o))))) ?_
    refine VO.r (.ld vt29) ?_
    refine VO.r (.ld vt3) ?_
    refine VO.call rfl rfl (VF.call (sHas_ok )) ?_
    refine VO.c (.move rfl) ?_
    refine VO.splitB (x := 16) rfl (fun g3_4 => ?_) (fun g3_4 => ?_)
    · refine VO.c (.move rfl) ?_
      refine VO.r (.ld vt35) ?_
      refine VO.callY0 rfl rfl (hy (l[i]) (atE (l.drop (i + 1)) t) _ (by rw [atE_cons hi', if_pos g3_4] at hI; exact hI)) ?_
      rintro _ ss (⟨rfl, hI⟩ | ⟨rfl, hE⟩)
      · refine VO.c (.not) ?_
        refine VO.c (.pickT rfl rfl) ?_
        refine VO.go ?_
        refine VC.condF rfl ?_
        refine VC.skip (VC.text ?_)
        refine VO.c (.add rfl rfl (by omega)) ?_
        refine VO.c (.move rfl) ?_
        refine VO.nil ?_
        refine ⟨_, [(0, .raw yv), (2, .p (.int .i64) t), (6, .v y43 l), (7, I ((l.length : Nat) : Int)), (8, I (((i + 1) : Nat) : Int))], ?_, ⟨rfl, rfl, rfl, rfl, rfl, trivial⟩, (i + 1), rfl, rfl, (by omega), (by first | exact hI | (rw [atE_cons hi', if_neg (by rw [g3_4]; decide)] at hI; exact hI))⟩
        omega
      refine VO.c (.not) ?_
      refine VO.c (.pickT rfl rfl) ?_
      refine VO.go ?_
      refine VC.condT rfl ?_
      refine VC.ret ?_
      exact ⟨rfl, .inr hE⟩
    refine VO.skip ?_
    refine VO.skip ?_
    refine VO.skip ?_
    refine VO.skip ?_
    refine VO.c (.pickF rfl rfl) ?_
    refine VO.go ?_
    refine VC.condF rfl ?_
    refine VC.skip (VC.text ?_)
    refine VO.c (.add rfl rfl (by omega)) ?_
    refine VO.c (.move rfl) ?_
    refine VO.nil ?_
    refine ⟨_, [(0, .raw yv), (2, .p (.int .i64) t), (6, .v y43 l), (7, I ((l.length : Nat) : Int)), (8, I (((i + 1) : Nat) : Int))], ?_, ⟨rfl, rfl, rfl, rfl, rfl, trivial⟩, (i + 1), rfl, rfl, (by omega), (by first | exact hI | (rw [atE_cons hi', if_neg (by rw [g3_4]; decide)] at hI; exact hI))⟩
    omega
  refine VC.exit ?_
  exact ⟨rfl, .inl (by rw [atE_end (by omega)] at hI; exact hI)⟩
theorem sAt_ok {l : List (ByteArray × ByteArray × ByteArray × (List ByteArray) × (Int × Int))} {t : Int} : VF Tryz.prog OA 141 [.v y43 l, I t] (.clo 176 [] [.p y43 l, .p (.int .i64) t]) := by
  refine VF.enter Tryz.func141 rfl (fun _ _ => rfl) rfl ?_
  show VC _ _ _ _ _ [(0, .v y43 l), (1, I t)] [] _
  refine VC.seq (VC.text ?_)
  refine VO.new (.box) ?_
  refine VO.new (.box) ?_
  refine VO.c (.assign rfl) ?_
  refine VO.go (VC.seq (VC.text ?_))
  refine VO.c (.func) ?_
  refine VO.c (.assign rfl) ?_
  refine VO.go ?_
  refine VC.ret ?_
  exact VEnd.one rfl evT rfl
def gateE (p : Permit) : ByteArray := p.2.2.1
theorem outE_eq {l : List Permit} {t : Int} {gs : List ByteArray} (h : gs ++ ([] : List Permit).map gateE = (atE l t).map gateE) : setE gs = outE l t := by
  rw [List.map_nil, List.append_nil] at h
  rw [h] <;> rfl
theorem gates_len {l : List Permit} {t : Int} {gs : List ByteArray} {rest : List Permit} (h : gs ++ rest.map gateE = (atE l t).map gateE) : gs.length + rest.length ≤ l.length := by
  have h1 := congrArg List.length h
  rw [List.length_append, List.length_map, List.length_map] at h1
  have h2 : (atE l t).length ≤ l.length := List.length_filter_le _ _
  omega
theorem sOut_ok {l : List (ByteArray × ByteArray × ByteArray × (List ByteArray) × (Int × Int))} {t : Int} (hn : l.length < 100000) : VF Tryz.prog OA 140 [.v y43 l, I t] (.v (.sl .str) (outE l t)) := by
  refine VF.enter Tryz.func140 rfl (fun _ _ => rfl) rfl ?_
  show VC _ _ _ _ _ [(0, .v y43 l), (1, I t)] [] _
  refine VC.seq (VC.text ?_)
  refine VO.c (.assign rfl) ?_
  refine VO.go (VC.seq (VC.text ?_))
  refine VO.cell (.alloc0 zt27) ?_
  intro ww2
  refine VO.go (VC.seq (VC.seq ?_))
  refine VC.nilRow 9 .str ?_
  refine VC.text ?_
  refine VO.c (.move rfl) ?_
  refine VO.c (.move rfl) ?_
  refine VO.call rfl rfl (VF.call (sAt_ok )) ?_
  refine VO.go (VC.block ?_)
  refine VC.keep [(5, .raw ww2), (9, .clo 176 [] [.p y43 l, .p (.int .i64) t])] ⟨rfl, rfl, trivial⟩ ?_
  refine VC.rangeFunc rfl (sAt1_ok (by omega)) (fun _ => rfl) rfl rfl (fun rest ss => ∃ (gs : List ByteArray), ∃ (wg : Value), ss = [(wg, .row 9 .str gs), (ww2, .var [.raw wg])] ∧ (gs ++ rest.map gateE = (atE l t).map gateE)) (fun ee ss => False) ⟨[], (.slice none 0 0), rfl, (by rfl)⟩ ?_ ?_ ?_
  · rintro jj x rest _ ⟨gs, wg, rfl, hg⟩
    show VC _ _ _ _ _ [(10, .v y35 x), (5, .raw ww2), (9, .clo 176 [] [.p y43 l, .p (.int .i64) t])] [(wg, .row 9 .str gs), (ww2, .var [.raw wg])] _
    refine VC.text ?_
    refine VO.cell (.alloc zt35) ?_
    intro ww3
    refine VO.setV (cs' := [St x.1, St x.2.1, St x.2.2.1, .v (.sl .str) x.2.2.2.1, I x.2.2.2.2.1, I x.2.2.2.2.2]) vt35 .v ?_
    refine VO.shut [(6, .p y35 x)] (.cons rfl (.var m0 .refl) .nil) ?_
    refine VO.nil ?_
    refine ⟨rfl, ?_⟩
    refine VC.block (VC.text ?_)
    refine VO.r (.ldV m1 vt27) ?_
    refine VO.c (.fa (.r (.r (.l .o)))) ?_
    refine VO.r (.ld vt9) ?_
    refine VO.new (.lit [x.2.2.1] el27) ?_
    refine VO.app rfl rfl el27 el27 (by have := gates_len hg; simp; omega) ?_
    intro ww4
    refine VO.perm swap1 ?_
    refine VO.one m1 fun ho5 => ?_
    refine VO.setV (cs' := [.raw ww4]) vt27 (.raw rfl (agg_one ho5) ho5) ?_
    refine VO.perm swap1 ?_
    refine VO.nil ?_
    exact .inl ⟨rfl, gs ++ [x.2.2.1], ww4, rfl, (by rw [List.append_assoc]; exact hg)⟩
  · rintro _ ⟨gs, wg, rfl, hg⟩
    refine VC.seq (VC.text ?_)
    refine VO.r (.ldV m1 vt27) ?_
    refine VO.callG [(wg, .row 9 .str gs)] rfl rfl rfl (VFG.call (sDistinct_ok (by have := gates_len hg; omega))) ?_
    rintro _ _ ⟨rfl, rfl⟩
    show VO _ _ _ _ _ _ [(ww2, .var [.raw wg])] _
    refine VO.c (.assign rfl) ?_
    refine VO.go ?_
    refine VC.ret ?_
    exact VEnd.one rfl evT (pvE (by exact outE_eq hg))
  rintro _ _ _ ⟨⟩
theorem zIndexFI_ok {F : Int → Bool} {l : List Int} {f : PV} (hl : l.length < 1000000) (hf : ∀ x ∈ l, VCall Tryz.prog OA f [I x] (B (F x))) : VF Tryz.prog OA 215 [.v y39 l, f] (I (idxG F l 0)) := by
  refine VF.enter Tryz.func215 rfl (fun _ _ => rfl) rfl ?_
  show VC _ _ _ _ _ [(0, .v y39 l), (1, f)] [] _
  refine VC.seq (VC.text ?_)
  refine VO.c (.assign rfl) ?_
  refine VO.go (VC.seq (VC.seq (VC.text ?_)))
  refine VO.c (.move rfl) ?_
  refine VO.r (.len el39) ?_
  refine VO.c (.move rfl) ?_
  refine VO.go (VC.block ?_)
  refine VC.keep [(0, .v y39 l), (1, f), (7, I ((l.length : Nat) : Int)), (8, I ((0 : Nat) : Int))] ⟨rfl, rfl, rfl, rfl, trivial⟩ ?_
  refine VC.loop (I := fun kk ff ss => ∃ (j : Nat), kk = l.length - j ∧ ff = [(0, .v y39 l), (1, f), (7, I ((l.length : Nat) : Int)), (8, I ((j : Nat) : Int))] ∧ ss = [] ∧ (j ≤ l.length) ∧ (idxG F l 0 = idxG F (l.drop j) (j : Nat))) ?_ _ _ _ ⟨0, rfl, rfl, rfl, Nat.zero_le _, (by rfl)⟩
  rintro kk ff ss ⟨j, hk0, rfl, rfl, hj, hi⟩
  refine VC.seq (VC.text ?_)
  refine VO.c (.lss) ?_
  refine VO.go (VC.seq ?_)
  refine VC.condD rfl (fun c2 => ?_) (fun c2 => ?_)
  · refine VC.skip (VC.seq (VC.block (VC.seq (VC.text ?_))))
    refine VO.c (.move rfl) ?_
    refine VO.c (.assign rfl) ?_
    refine VO.go (VC.seq (VC.text ?_))
    refine VO.c (.move rfl) ?_
    refine VO.c (.move rfl) ?_
    refine VO.c (.move rfl) ?_
    refine VO.c (.ix (j := j) rfl rfl el39 (by omega)) ?_
    refine VO.r (.ld vt3) ?_
    refine VO.call rfl rfl ((hf _ (List.getElem_mem _)) ) ?_
    refine VO.go ?_
    refine VC.condB rfl (fun c4 => ?_) (fun c4 => ?_)
    · refine VC.seq (VC.text ?_)
      refine VO.c (.move rfl) ?_
      refine VO.c (.assign rfl) ?_
      refine VO.go ?_
      refine VC.ret ?_
      exact VEnd.one rfl evT (pvI (by rw [hi, idxG_drop (by omega), if_pos c4]))
    refine VC.skip (VC.text ?_)
    refine VO.c (.add rfl rfl (by omega)) ?_
    refine VO.c (.move rfl) ?_
    refine VO.nil ?_
    refine ⟨_, [(0, .v y39 l), (1, f), (7, I ((l.length : Nat) : Int)), (8, I (((j + 1) : Nat) : Int))], ?_, ⟨rfl, rfl, rfl, rfl, trivial⟩, (j + 1), rfl, rfl, rfl, (by omega), (by rw [hi, idxG_drop (by omega), if_neg (by rw [c4]; decide)])⟩
    omega
  refine VC.exit (VC.seq (VC.text ?_))
  refine VO.c (.assign rfl) ?_
  refine VO.go ?_
  refine VC.ret ?_
  exact VEnd.one rfl evT (pvI (by rw [hi, idxG_end (by omega)]))
theorem zContainsFI_ok {F : Int → Bool} {l : List Int} {f : PV} (hl : l.length < 1000000) (hf : ∀ x ∈ l, VCall Tryz.prog OA f [I x] (B (F x))) : VF Tryz.prog OA 193 [.v y39 l, f] (B (l.any F)) := by
  refine VF.enter Tryz.func193 rfl (fun _ _ => rfl) rfl ?_
  show VC _ _ _ _ _ [(0, .v y39 l), (1, f)] [] _
  refine VC.seq (VC.text ?_)
  refine VO.c (.assign rfl) ?_
  refine VO.go (VC.seq (VC.text ?_))
  refine VO.c (.move rfl) ?_
  refine VO.c (.move rfl) ?_
  refine VO.call rfl rfl (VF.call (zIndexFI_ok (F := F) hl hf)) ?_
  refine VO.c (.geq) ?_
  refine VO.c (.assign rfl) ?_
  refine VO.go ?_
  refine VC.ret ?_
  exact VEnd.one rfl evT (pvE (by have h9 := idxG_any (F := F) (l := l) (k := 0) (by omega); cases h8 : l.any F <;> simp_all))
theorem sOver_ok {tick : Int} {s : Int × Int} {l : List (ByteArray × ByteArray × ByteArray × (List ByteArray) × (Int × Int))} {sn : List ((Int × Int) × Int)} (hl : l.length < 100000) (hs : sn.length < 100000) : VF Tryz.prog OA 191 [I tick, .p y29 s, .p y43 l, .p y47 sn] (B (hasT s tick && overE l sn tick)) := by
  refine VF.enter Tryz.func191 rfl (fun _ _ => rfl) rfl ?_
  show VC _ _ _ _ _ [(0, I tick), (1, .p y29 s), (2, .p y43 l), (3, .p y47 sn)] [] _
  refine VC.seq (VC.text ?_)
  refine VO.c (.assign rfl) ?_
  refine VO.go (VC.seq (VC.drawn ?_))
  refine VD.r [] (.ld vt29) (.inl rfl) ?_
  refine VD.c (.move rfl) ?_
  refine VD.call rfl rfl (VF.call (sHas_ok )) ?_
  refine VD.c (.move rfl) ?_
  refine VD.splitB (x := 9) rfl (fun g1_3 => ?_) (fun g1_3 => ?_)
  · refine VD.r [] (.ld vt43) (.inl rfl) ?_
    refine VD.nw [] ?_
    refine VD.c (.move rfl) ?_
    refine VD.call rfl rfl (VF.call (sOut_ok (by first | assumption | omega | simp))) ?_
    refine VD.ro (.len el27) ?_
    refine VD.r [] (.ld vt47) (.inl rfl) ?_
    refine VD.c (.move rfl) ?_
    refine VD.call rfl rfl (VF.call (sPermitted_ok (by first | assumption | omega | simp))) ?_
    refine VD.c (.gtr) ?_
    refine VD.nw [12] ?_
    refine VD.c (.pickT rfl rfl) ?_
    refine VD.c (.assign rfl) ?_
    refine VD.go ?_
    refine VC.ret ?_
    exact VEnd.one rfl evT (pvE (by first | (rw [g1_3]; rfl) | (rw [show hasT s tick = false from by simpa using g1_3]; rfl)))
  refine VD.skip ?_
  refine VD.nw [] ?_
  refine VD.skip ?_
  refine VD.skip ?_
  refine VD.skip ?_
  refine VD.skip ?_
  refine VD.skip ?_
  refine VD.skip ?_
  refine VD.skip ?_
  refine VD.nw [] ?_
  refine VD.c (.pickF rfl rfl) ?_
  refine VD.c (.assign rfl) ?_
  refine VD.go ?_
  refine VC.ret ?_
  exact VEnd.one rfl evT (pvE (by first | (rw [g1_3]; rfl) | (rw [show hasT s tick = false from by simpa using g1_3]; rfl)))
def fromL (l : List Permit) : List Int := l.map fun p => p.2.2.2.2.1
def limL (ss : List Season) : List Int := ss.flatMap fun x => [x.1.1, x.1.2]
theorem fromL_take {l : List Permit} {i : Nat} (h : i < l.length) : fromL (l.take (i + 1)) = fromL (l.take i) ++ [l[i].2.2.2.2.1] := by
  unfold fromL
  rw [List.take_succ_eq_append_getElem h, List.map_append] <;> rfl
theorem limL_take {l : List Season} {i : Nat} (h : i < l.length) : limL (l.take (i + 1)) = limL (l.take i) ++ [l[i].1.1, l[i].1.2] := by
  unfold limL
  rw [List.take_succ_eq_append_getElem h, List.flatMap_append]; simp
theorem limL_len {l : List Season} : (limL l).length = 2 * l.length := by
  unfold limL
  induction l with
  | nil => rfl
  | cons x l ih => rw [List.flatMap_cons, List.length_append, ih]; simp; omega
theorem fromL_len {l : List Permit} : (fromL l).length = l.length := List.length_map ..
theorem sCrowded_ok {l : List (ByteArray × ByteArray × ByteArray × (List ByteArray) × (Int × Int))} {sn : List ((Int × Int) × Int)} {s : Int × Int} (hl : l.length < 10000) (hs : sn.length < 10000) : VF Tryz.prog OA 156 [.v y43 l, .v y47 sn, .v y29 s] (B (crowdedE l sn s)) := by
  refine VF.enter Tryz.func156 rfl (fun _ _ => rfl) rfl ?_
  show VC _ _ _ _ _ [(0, .v y43 l), (1, .v y47 sn), (2, .v y29 s)] [] _
  refine VC.seq (VC.text ?_)
  refine VO.new (.box) ?_
  refine VO.new (.box) ?_
  refine VO.new (.box) ?_
  refine VO.c (.assign rfl) ?_
  refine VO.go (VC.seq (VC.text ?_))
  refine VO.c (.fa (.l .o)) ?_
  refine VO.r (.ld vt3) ?_
  refine VO.cell (.lit [s.1] el39) ?_
  intro ww7
  refine VO.c (.assign rfl) ?_
  refine VO.go (VC.seq (VC.seq (VC.text ?_)))
  refine VO.r (.ld vt43) ?_
  refine VO.r (.len el43) ?_
  refine VO.c (.move rfl) ?_
  refine VO.go (VC.block ?_)
  refine VC.keep [(3, .p y43 l), (4, .p y47 sn), (5, .p y29 s), (7, .raw ww7), (17, .v y43 l), (18, I ((l.length : Nat) : Int)), (19, I ((0 : Nat) : Int))] ⟨rfl, rfl, rfl, rfl, rfl, rfl, rfl, trivial⟩ ?_
  refine VC.loop (I := fun kk ff ss => ∃ (i : Nat) (w0 : Value), kk = l.length - i ∧ ff = [(3, .p y43 l), (4, .p y47 sn), (5, .p y29 s), (7, .raw w0), (17, .v y43 l), (18, I ((l.length : Nat) : Int)), (19, I ((i : Nat) : Int))] ∧ ss = [(w0, .row 3 (.int .i64) (s.1 :: fromL (l.take i)))] ∧ (i ≤ l.length)) ?_ _ _ _ ⟨0, ww7, rfl, rfl, rfl, Nat.zero_le _⟩
  rintro kk ff ss ⟨i, w0, hk0, rfl, rfl, hi⟩
  refine VC.seq (VC.text ?_)
  refine VO.c (.lss) ?_
  refine VO.go (VC.seq ?_)
  refine VC.condD rfl (fun c3 => ?_) (fun c3 => ?_)
  · refine VC.skip (VC.seq (VC.block (VC.seq (VC.text ?_))))
    refine VO.c (.ix (j := i) rfl rfl el43 (by omega)) ?_
    refine VO.r (.ld vt35) ?_
    refine VO.cell (.alloc zt35) ?_
    intro ww8
    refine VO.setV (cs' := [St ((l[i]).1), St ((l[i]).2.1), St ((l[i]).2.2.1), .v (.sl .str) ((l[i]).2.2.2.1), I (((l[i]).2.2.2.2).1), I (((l[i]).2.2.2.2).2)]) vt35 .v ?_
    refine VO.shut [(9, .p y35 (l[i]))] (.cons rfl (.var m0 .refl) .nil) ?_
    refine VO.go (VC.text ?_)
    refine VO.c (.move rfl) ?_
    refine VO.c (.fa (.r (.r (.r (.r .o))))) ?_
    refine VO.c (.fa (.l .o)) ?_
    refine VO.r (.ld vt3) ?_
    refine VO.new (.lit [((l[i]).2.2.2.2).1] el39) ?_
    refine VO.app rfl rfl el39 el39 (by simp [fromL_len]; omega) ?_
    intro ww9
    refine VO.c (.assign rfl) ?_
    refine VO.nil (VC.text ?_)
    refine VO.c (.add rfl rfl (by omega)) ?_
    refine VO.c (.move rfl) ?_
    refine VO.nil ?_
    refine ⟨_, [(3, .p y43 l), (4, .p y47 sn), (5, .p y29 s), (7, .raw ww9), (17, .v y43 l), (18, I ((l.length : Nat) : Int)), (19, I (((i + 1) : Nat) : Int))], ?_, ⟨rfl, rfl, rfl, rfl, rfl, rfl, rfl, trivial⟩, (i + 1), ww9, rfl, rfl, (by rw [fromL_take (by omega)] <;> rfl), (by omega)⟩
    omega
  refine VC.exit (VC.seq (VC.seq (VC.text ?_)))
  refine VO.r (.ld vt47) ?_
  refine VO.r (.len el47) ?_
  refine VO.c (.move rfl) ?_
  refine VO.go (VC.block ?_)
  refine VC.keep [(3, .p y43 l), (4, .p y47 sn), (5, .p y29 s), (7, .raw w0), (30, .v y47 sn), (31, I ((sn.length : Nat) : Int)), (32, I ((0 : Nat) : Int))] ⟨rfl, rfl, rfl, rfl, rfl, rfl, rfl, trivial⟩ ?_
  refine VC.loop (I := fun kk ff ss => ∃ (j : Nat) (w1 : Value), kk = sn.length - j ∧ ff = [(3, .p y43 l), (4, .p y47 sn), (5, .p y29 s), (7, .raw w1), (30, .v y47 sn), (31, I ((sn.length : Nat) : Int)), (32, I ((j : Nat) : Int))] ∧ ss = [(w1, .row 3 (.int .i64) ((s.1 :: fromL l) ++ limL (sn.take j)))] ∧ (j ≤ sn.length)) ?_ _ _ _ ⟨0, w0, rfl, rfl, (by rw [show i = l.length by omega, List.take_length, show limL (sn.take 0) = [] from rfl, List.append_nil]), Nat.zero_le _⟩
  rintro kk ff ss ⟨j, w1, hk2, rfl, rfl, hj⟩
  refine VC.seq (VC.text ?_)
  refine VO.c (.lss) ?_
  refine VO.go (VC.seq ?_)
  refine VC.condD rfl (fun c8 => ?_) (fun c8 => ?_)
  · refine VC.skip (VC.seq (VC.block (VC.seq (VC.text ?_))))
    refine VO.c (.ix (j := j) rfl rfl el47 (by omega)) ?_
    refine VO.r (.ld vt94) ?_
    refine VO.cell (.alloc zt94) ?_
    intro ww10
    refine VO.setV (cs' := [I (((sn[j]).1).1), I (((sn[j]).1).2), I ((sn[j]).2)]) vt94 .v ?_
    refine VO.shut [(11, .p y94 (sn[j]))] (.cons rfl (.var m0 .refl) .nil) ?_
    refine VO.go (VC.seq (VC.text ?_))
    refine VO.c (.fa (.l .o)) ?_
    refine VO.r (.ld vt29) ?_
    refine VO.call rfl rfl (VF.call (sEnds_ok )) ?_
    refine VO.cell (.alloc zt128) ?_
    intro ww11
    refine VO.setV (cs' := [I (((sn[j]).1).1), I (((sn[j]).1).2)]) vt128 .v ?_
    refine VO.shut [(12, .p y128 ((sn[j]).1))] (.cons rfl (.var m0 .refl) .nil) ?_
    refine VO.go (VC.text ?_)
    refine VO.c (.move rfl) ?_
    refine VO.r (.arr2 3) ?_
    refine VO.app rfl rfl el39 el39 (by simp [fromL_len, limL_len]; omega) ?_
    intro ww12
    refine VO.c (.assign rfl) ?_
    refine VO.nil (VC.text ?_)
    refine VO.c (.add rfl rfl (by omega)) ?_
    refine VO.c (.move rfl) ?_
    refine VO.nil ?_
    refine ⟨_, [(3, .p y43 l), (4, .p y47 sn), (5, .p y29 s), (7, .raw ww12), (30, .v y47 sn), (31, I ((sn.length : Nat) : Int)), (32, I (((j + 1) : Nat) : Int))], ?_, ⟨rfl, rfl, rfl, rfl, rfl, rfl, rfl, trivial⟩, (j + 1), ww12, rfl, rfl, (by rw [limL_take (by omega), List.append_assoc]), (by omega)⟩
    omega
  refine VC.exit (VC.seq (VC.text ?_))
  refine VO.c (.func) ?_
  refine VO.c (.assign rfl) ?_
  refine VO.go (VC.seq (VC.text ?_))
  refine VO.c (.move rfl) ?_
  refine VO.c (.move rfl) ?_
  refine VO.callC rfl rfl .same (.cons (.row m0) (.cons .same .nil)) rfl (VF.call (zContainsFI_ok (F := fun t => hasT s t && overE l sn t) (by simp [fromL_len, limL_len]; omega) (fun _ _ => VF.clo (sOver_ok (by omega) (by omega))))) ?_
  refine VO.c (.assign rfl) ?_
  refine VO.go ?_
  refine VC.ret ?_
  exact VEnd.one rfl evT (pvE (by rw [List.take_of_length_le (by omega)] <;> rfl))
end Go.Proofs
namespace Go.Proofs
open Go.Fs
set_option linter.unusedVariables false
set_option maxHeartbeats 1000000

theorem shortPs_ok {l : List Permit} (h : shortPs l = true) : l.length ≤ 65 ∧ ∀ p ∈ l, p.2.2.2.1.length ≤ 9 := by
  unfold shortPs at h
  rw [Bool.and_eq_true] at h
  obtain ⟨h1, h2⟩ := h
  have h1 := of_decide_eq_true h1
  refine ⟨by omega, fun p hp => ?_⟩
  have h3 := List.all_eq_true.1 h2 p hp
  unfold shortP at h3
  simp only [Bool.and_eq_true, Bool.not_eq_true', Bool.or_eq_false_iff, decide_eq_false_iff_not] at h3
  omega
theorem firstE_all {l : List Int} : firstE l = 0 ↔ ∀ x ∈ l, x = 0 := by
  induction l with
  | nil => simp [firstE]
  | cons x l ih => by_cases h : x = 0 <;> simp [firstE, h, ih]
theorem perm_span {p : Permit} (h : permE p = 0) : spanE p.2.2.2.2 = 0 := by
  unfold permE at h
  rw [firstE_all] at h
  exact h _ (by simp)
end Go.Proofs
namespace Go.Proofs
open Go.Fs
set_option linter.unusedVariables false
set_option maxHeartbeats 1000000

theorem sIssue1_ok {o : ByteArray × ByteArray × ByteArray × (List ByteArray) × (Int × Int)} {p : ByteArray × ByteArray × ByteArray × (List ByteArray) × (Int × Int)} (ho : o.2.2.2.1.length < 1000000) (hp : p.2.2.2.1.length < 1000000) : VF Tryz.prog OA 155 [.v y35 o, .p y35 p] (I ((reasonR (reasonIx o p)).2.2)) := by
  refine VF.enter Tryz.func155 rfl (fun _ _ => rfl) rfl ?_
  show VC _ _ _ _ _ [(0, .v y35 o), (1, .p y35 p)] [] _
  refine VC.seq (VC.text ?_)
  refine VO.new (.box) ?_
  refine VO.c (.assign rfl) ?_
  refine VO.go (VC.seq (VC.text ?_))
  refine VO.r (.ld vt35) ?_
  refine VO.r (.ld vt35) ?_
  refine VO.call rfl rfl (VF.call (sExcl_ok (by first | assumption | omega | simp) (by first | assumption | omega | simp))) ?_
  refine VO.c (.fld (.r (.r .o))) ?_
  refine VO.c (.assign rfl) ?_
  refine VO.go ?_
  refine VC.ret ?_
  exact VEnd.one rfl evT (pvI (by rfl))
theorem issueE_w {l : List Permit} {ss : List Season} {p : Permit} (h : ¬ clashE l p ≠ 0) : whenE (crowdedE (l ++ [p]) ss p.2.2.2.2) 21 = issueE l ss p := by
  unfold issueE whenE
  rw [if_neg h]
  cases crowdedE (l ++ [p]) ss p.2.2.2.2 <;> rfl
theorem sIssue_ok {l : List (ByteArray × ByteArray × ByteArray × (List ByteArray) × (Int × Int))} {sn : List ((Int × Int) × Int)} {p : ByteArray × ByteArray × ByteArray × (List ByteArray) × (Int × Int)} (hl : l.length < 5000) (hs : sn.length < 5000) (hk : PermOk l) (hq : p.2.2.2.1.length < 1000000) : VF Tryz.prog OA 102 [.v y43 l, .v y47 sn, .v y35 p] (I (issueE l sn p)) := by
  refine VF.enter Tryz.func102 rfl (fun _ _ => rfl) rfl ?_
  show VC _ _ _ _ _ [(0, .v y43 l), (1, .v y47 sn), (2, .v y35 p)] [] _
  refine VC.seq (VC.text ?_)
  refine VO.new (.box) ?_
  refine VO.c (.assign rfl) ?_
  refine VO.go (VC.seq (VC.text ?_))
  refine VO.c (.func) ?_
  refine VO.c (.assign rfl) ?_
  refine VO.go (VC.seq (VC.seq (VC.text ?_)))
  refine VO.c (.move rfl) ?_
  refine VO.c (.move rfl) ?_
  refine VO.call rfl rfl (VF.call (sWorstP_ok (F := fun o => (reasonR (reasonIx o p)).2.2) (by omega) (fun o ho => VF.clo (sIssue1_ok (hk o ho) hq)))) ?_
  refine VO.c (.assign rfl) ?_
  refine VO.go (VC.seq (VC.text ?_))
  refine VO.c (.move rfl) ?_
  refine VO.c (.neq) ?_
  refine VO.go ?_
  refine VC.condD rfl (fun c3 => ?_) (fun c3 => ?_)
  · refine VC.seq (VC.text ?_)
    refine VO.c (.move rfl) ?_
    refine VO.c (.assign rfl) ?_
    refine VO.go ?_
    refine VC.ret ?_
    exact VEnd.one rfl evT (pvI (by exact (if_pos (show clashE l p ≠ 0 from c3)).symm))
  refine VC.skip (VC.seq (VC.text ?_))
  refine VO.c (.move rfl) ?_
  refine VO.r (.len el43) ?_
  refine VO.c (.move rfl) ?_
  refine VO.r (.len el43) ?_
  refine VO.c (.add rfl rfl (by omega)) ?_
  refine VO.cell (.makeC (k := l.length) (r := l.length + 1) rfl (congrArg (fun z : Int => some (PV.v (.int .i64) z)) (show (((l.length : Nat) : Int) + (1 : Int)) = ((l.length + 1 : Nat) : Int) by omega)) el43 zt35 (by omega) (by omega)) ?_
  intro ww1
  refine VO.c (.assign rfl) ?_
  refine VO.go (VC.seq (VC.text ?_))
  refine VO.c (.move rfl) ?_
  refine VO.c (.move rfl) ?_
  refine VO.copyC rfl rfl el43 (by simp) ?_
  refine VO.go (VC.seq ?_)
  refine VC.late [] ⟨[(ww1, .cap 35 (l.length + 1) y35 l)], rfl⟩ ?_
  refine VLt.c (.move rfl) ?_
  refine VLt.q rfl (.ld vt35) ?_
  refine VLt.new (.lit [p] el43) ?_
  refine VLt.mk (MakeV.appC el43 el43 rfl rfl (by simp) (by omega)) (TurnV.appC rfl) ⟨[], rfl⟩ ?_
  rintro _ _ ⟨ww2, rfl, rfl⟩
  refine ⟨⟨[(ww2, .cap 35 (l.length + 1) y35 (l ++ [p]))], rfl⟩, ?_⟩
  refine VLt.c (.move rfl) ?_
  refine VLt.c (.fa (.r (.r (.r (.r .o))))) ?_
  refine VLt.nws [29, 28] ?_
  refine VLt.q rfl (.ld vt29) ?_
  refine VLt.callC rfl rfl .same (.cons (.cap m0) (.cons .same (.cons .same .nil))) rfl (VF.call (sCrowded_ok (by simp; omega) (by omega))) ?_
  refine VLt.callO rfl rfl (VF.call (sWhen_ok )) ?_
  refine VLt.c (.assign rfl) ?_
  refine VLt.go ?_
  refine VC.ret ?_
  exact VEnd.one rfl evT (pvI (by exact issueE_w c3))
def validsE (l : List Permit) (ss : List Season) (i : Nat) : Int := firstE ((List.range i).map fun k => issueE (l.take k) ss (l.getD k (ByteArray.empty, ByteArray.empty, ByteArray.empty, [], 0, 0)))
def sValidE (l : List Permit) (ss : List Season) : Int := if firstE [permsE l, seasE ss] ≠ 0 then firstE [permsE l, seasE ss] else validsE l ss l.length
theorem validsE_succ {l : List Permit} {ss : List Season} {i : Nat} (h : i < l.length) (h0 : validsE l ss i = 0) : validsE l ss (i + 1) = issueE (l.take i) ss l[i] := by
  unfold validsE at h0 ⊢
  rw [List.range_succ, List.map_append, firstE_app, if_pos h0, List.map_cons, List.map_nil, firstE_one, getDg _ _ h]
theorem validsE_hit {l : List Permit} {ss : List Season} {i : Nat} (h : i < l.length) (h0 : validsE l ss i = 0) (hn : issueE (l.take i) ss l[i] ≠ 0) : ∀ k, i < k → k ≤ l.length → validsE l ss k = issueE (l.take i) ss l[i] := by
  intro k
  induction k with
  | zero => intro h1; omega
  | succ k ih =>
    intro h1 h2
    rcases Nat.lt_or_eq_of_le (Nat.le_of_lt_succ h1) with h3 | h3
    · have := ih h3 (by omega)
      unfold validsE at this ⊢
      rw [List.range_succ, List.map_append, firstE_app, this, if_neg hn]
    subst h3
    exact validsE_succ h h0
theorem sValid_hit {l : List Permit} {ss : List Season} {i : Nat} (hz : firstE [permsE l, seasE ss] = 0) (h : i < l.length) (h0 : validsE l ss i = 0) (hn : issueE (l.take i) ss l[i] ≠ 0) : issueE (l.take i) ss l[i] = sValidE l ss := by
  unfold sValidE
  rw [if_neg (by rw [hz]; decide), validsE_hit h h0 hn _ h (Nat.le_refl _)]
theorem sValid_end {l : List Permit} {ss : List Season} {i : Nat} (hz : firstE [permsE l, seasE ss] = 0) (h : i = l.length) (h0 : validsE l ss i = 0) : 0 = sValidE l ss := by
  unfold sValidE
  rw [if_neg (by rw [hz]; decide), ← h, h0]
theorem permOk_take {l : List Permit} {i : Nat} (h : PermOk l) : PermOk (l.take i) := fun p hp => h p (List.mem_of_mem_take hp)
theorem sValidT_ok {l : List (ByteArray × ByteArray × ByteArray × (List ByteArray) × (Int × Int))} {sn : List ((Int × Int) × Int)} (hl : l.length < 5000) (hs : sn.length < 5000) (hk : PermOk l) : VF Tryz.prog OA 33 [.v y43 l, .v y47 sn] (I (sValidE l sn)) := by
  refine VF.enter Tryz.func33 rfl (fun _ _ => rfl) rfl ?_
  show VC _ _ _ _ _ [(0, .v y43 l), (1, .v y47 sn)] [] _
  refine VC.seq (VC.text ?_)
  refine VO.c (.assign rfl) ?_
  refine VO.go (VC.seq (VC.seq (VC.text ?_)))
  refine VO.c (.move rfl) ?_
  refine VO.call rfl rfl (VF.call (sPermits_ok (by first | assumption | omega | simp) (by first | assumption | omega | simp))) ?_
  refine VO.c (.move rfl) ?_
  refine VO.call rfl rfl (VF.call (sSeas_ok (by first | assumption | omega | simp))) ?_
  refine VO.new (.lit [permsE l, seasE sn] el204) ?_
  refine VO.call rfl rfl (VF.call (sFirst_ok (by first | assumption | omega | simp))) ?_
  refine VO.c (.assign rfl) ?_
  refine VO.go (VC.seq (VC.text ?_))
  refine VO.c (.move rfl) ?_
  refine VO.c (.neq) ?_
  refine VO.go ?_
  refine VC.condD rfl (fun c2 => ?_) (fun c2 => ?_)
  · refine VC.seq (VC.text ?_)
    refine VO.c (.move rfl) ?_
    refine VO.c (.assign rfl) ?_
    refine VO.go ?_
    refine VC.ret ?_
    exact VEnd.one rfl evT (pvI (by exact (if_pos c2).symm))
  have hz : firstE [permsE l, seasE sn] = 0 := by simpa using c2
  refine VC.skip (VC.seq (VC.seq (VC.text ?_)))
  refine VO.c (.move rfl) ?_
  refine VO.r (.len el43) ?_
  refine VO.c (.move rfl) ?_
  refine VO.go (VC.block ?_)
  refine VC.keep [(0, .v y43 l), (1, .v y47 sn), (18, .v y43 l), (19, I ((l.length : Nat) : Int)), (20, I ((0 : Nat) : Int))] ⟨rfl, rfl, rfl, rfl, rfl, trivial⟩ ?_
  refine VC.loop (I := fun kk ff ss => ∃ (i : Nat), kk = l.length - i ∧ ff = [(0, .v y43 l), (1, .v y47 sn), (18, .v y43 l), (19, I ((l.length : Nat) : Int)), (20, I ((i : Nat) : Int))] ∧ ss = [] ∧ (i ≤ l.length) ∧ (validsE l sn i = 0)) ?_ _ _ _ ⟨0, rfl, rfl, rfl, Nat.zero_le _, (by rfl)⟩
  rintro kk ff ss ⟨i, hk0, rfl, rfl, hi, hv⟩
  refine VC.seq (VC.text ?_)
  refine VO.c (.lss) ?_
  refine VO.go (VC.seq ?_)
  refine VC.condD rfl (fun c5 => ?_) (fun c5 => ?_)
  · refine VC.skip (VC.seq (VC.block (VC.seq (VC.text ?_))))
    refine VO.c (.move rfl) ?_
    refine VO.c (.ix (j := i) rfl rfl el43 (by omega)) ?_
    refine VO.r (.ld vt35) ?_
    refine VO.cell (.alloc zt35) ?_
    intro ww3
    refine VO.c (.assign rfl) ?_
    refine VO.setV (cs' := [St ((l[i]).1), St ((l[i]).2.1), St ((l[i]).2.2.1), .v (.sl .str) ((l[i]).2.2.2.1), I (((l[i]).2.2.2.2).1), I (((l[i]).2.2.2.2).2)]) vt35 .v ?_
    refine VO.shut [(7, .p y35 (l[i]))] (.cons rfl (.var m0 .refl) .nil) ?_
    refine VO.go (VC.seq (VC.drawn ?_))
    refine VD.c (.move rfl) ?_
    refine VD.c (.move rfl) ?_
    refine VD.r [] (.cutH rfl rfl el43 (by omega)) (.inl rfl) ?_
    refine VD.c (.move rfl) ?_
    refine VD.r [] (.ld vt35) (.inl rfl) ?_
    refine VD.call rfl rfl (VF.call (sIssue_ok (by simp; omega) (by omega) (permOk_take hk) (hk _ (List.getElem_mem _)))) ?_
    refine VD.nw [] ?_
    refine VD.c (.assign rfl) ?_
    refine VD.go (VC.seq (VC.text ?_))
    refine VO.c (.move rfl) ?_
    refine VO.c (.neq) ?_
    refine VO.go ?_
    refine VC.condD rfl (fun c8 => ?_) (fun c8 => ?_)
    · refine VC.seq (VC.text ?_)
      refine VO.c (.move rfl) ?_
      refine VO.c (.assign rfl) ?_
      refine VO.go ?_
      refine VC.ret ?_
      exact VEnd.one rfl evT (pvI (by exact sValid_hit hz (by omega) hv c8))
    refine VC.skip (VC.text ?_)
    refine VO.c (.add rfl rfl (by omega)) ?_
    refine VO.c (.move rfl) ?_
    refine VO.nil ?_
    refine ⟨_, [(0, .v y43 l), (1, .v y47 sn), (18, .v y43 l), (19, I ((l.length : Nat) : Int)), (20, I (((i + 1) : Nat) : Int))], ?_, ⟨rfl, rfl, rfl, rfl, rfl, trivial⟩, (i + 1), rfl, rfl, rfl, (by omega), (by rw [validsE_succ (by omega) hv]; simpa using c8)⟩
    omega
  refine VC.exit (VC.seq (VC.text ?_))
  refine VO.c (.assign rfl) ?_
  refine VO.go ?_
  refine VC.ret ?_
  exact VEnd.one rfl evT (pvI (by exact sValid_end hz (by omega) hv))
theorem permsE_ok {l : List Permit} (h : permsE l = 0) : ¬ 64 < (l.length : Int) ∧ ∀ p ∈ l, permE p = 0 := by
  unfold permsE at h
  split at h
  · cases h
  rename_i h1
  exact ⟨h1, fun p hp => firstE_all.1 h _ (List.mem_map.2 ⟨p, hp, rfl⟩)⟩
end Go.Proofs
namespace Go.Proofs
open Go.Fs
set_option linter.unusedVariables false
set_option maxHeartbeats 1000000

theorem permsV {l : List Permit} (h : permsE l = 0) : PermV l := fun p hp => perm_span ((permsE_ok h).2 p hp)
end Go.Proofs
namespace Go.Fs
variable {P : Program} {σ : Sto} {fl : VL} {x y : Operand} {T T' : TypeId} {p q : Bool}
end Go.Fs
namespace Go.Fs
variable {P : Program} {orc : FuncId → List Value → Heap → Option (Value × Heap)} {σ : Sto} {fl : VL} {ops : Array Oper} {n : Nat} {l : List Oper} {K : VL → Sto → Prop} {d : Tmp} {ty : TypeId} {pos : String} {after : Array Edge} {g : Option (Nat × Bool)} {x : Operand} {T e : TypeId} {τ : Ty}
end Go.Fs
namespace Go.Proofs
open Go.Fs
set_option linter.unusedVariables false
set_option maxHeartbeats 1000000
abbrev BMap := List (ByteArray × Bool)
def inM (m : BMap) (s : ByteArray) : Bool := (mget m s).getD false
def evM (l : List ByteArray) (i : Nat) : BMap := (l.take i).foldl (fun m s => mset m s true) []
def usedN (m : BMap) (x : Clm) : Nat := (x.2.2.filter (inM m)).length
def holdsX (m : BMap) (x : Clm) : Bool := decide (((usedN m x : Nat) : Int) = (x.2.2.length : Nat)) || (x.2.1 && decide (0 < ((usedN m x : Nat) : Int)))
def clM (c : Cse) (l : List ByteArray) (i : Nat) : BMap := (c.2.2.take i).foldl (fun m x => mset m x.1 (holdsX m x)) (evM l l.length)
def byM (c : Cse) (l : List ByteArray) : BMap := clM c l c.2.2.length
end Go.Proofs
namespace Go.Proofs
open Go.Fs
set_option linter.unusedVariables false
set_option maxHeartbeats 1000000

end Go.Proofs
namespace Go.Proofs
open Go.Fs
end Go.Proofs
namespace Go.Proofs
open Go.Fs
structure ClOk (c : Cse) : Prop where
  new : ∀ i (hi : i < c.2.2.length), knownC c i c.2.2[i].1 = false
  use : ∀ i (hi : i < c.2.2.length), ∀ u ∈ c.2.2[i].2.2, knownC c i u = true
section
variable {c : Cse} {l : List ByteArray}
def byR (c : Cse) (l : List ByteArray) (s : ByteArray) : Bool := inM (byM c l) s
end
end Go.Proofs
namespace Go.Proofs
open Go.Fs
set_option linter.unusedVariables false
set_option maxHeartbeats 1000000

end Go.Proofs
namespace Go.Fs
variable {P : Program} {fl : VL} {e : TypeId} {τ : Ty}
end Go.Fs
namespace Go.Proofs
open Go.Fs
set_option linter.unusedVariables false
set_option maxHeartbeats 2000000
end Go.Proofs
namespace Go.Proofs
open Go.Fs
set_option linter.unusedVariables false
set_option maxHeartbeats 2000000

theorem awakeC_ok : VF Tryz.prog OA 16 [] (B true) := VF.oracle (fun _ => rfl) fun _ _ => ⟨rfl, rfl⟩
theorem getD_at {α : Type} {l : List α} {i : Nat} {d : α} (h : i < l.length) : l.getD i d = l[i] := by rw [List.getD_eq_getElem?_getD, List.getElem?_eq_getElem h] <;> rfl
end Go.Proofs
namespace Go.Fs
variable {P : Program} {orc : FuncId → List Value → Heap → Option (Value × Heap)} {rnd : Option Nat} {h h' h0 h1 h2 hs : Heap} {S S' S0 B G : List Nat} {σ σ' : Sto} {t t' : Tr} {ms : List Nat} {fl : VL} {ops : Array Oper} {n i mem : Nat} {l : List Oper} {K : VL → Sto → Prop} {Q : Ex → VL → Sto → Prop}
  {d d1 d2 : Tmp} {ty ty1 ty2 : TypeId} {pos pos1 pos2 : String} {after after1 after2 : Array Edge} {op : Op} {v v1 : PV} {g g1 g2 : Option (Nat × Bool)} {bs nw : List Nat} {segs : List (Nat × Nat × Nat)} {tail so : Bool}

section
variable (P orc)
end
end Go.Fs
namespace Go.Proofs
open Go.Fs
set_option linter.unusedVariables false
set_option maxHeartbeats 1000000
def lackW (l : List ByteArray) (s : ByteArray) : List ByteArray := l.filter fun o => !decide (o = s)
end Go.Proofs
namespace Go.Fs
variable {P : Program} {orc : FuncId → List Value → Heap → Option (Value × Heap)} {rnd : Option Nat} {h h' h0 h1 h2 : Heap} {S S' S0 B G : List Nat} {σ σ' σr : Sto} {t t' : Tr} {ms : List Nat} {fl : VL} {ops : Array Oper} {n i mem : Nat} {l : List Oper} {K : VL → Sto → Prop} {Q : Ex → VL → Sto → Prop}
  {d : Tmp} {ty : TypeId} {pos : String} {after : Array Edge} {op : Op} {v pv : PV} {g : Option (Nat × Bool)} {x y z : Operand} {T T' e : TypeId} {τ τ' : Ty} {bs nw : List Nat} {segs : List (Nat × Nat × Nat)} {tail so : Bool} {w w' : Value} {c c' : Cell}

end Go.Fs
namespace Go.Fs
variable {P : Program} {orc : FuncId → List Value → Heap → Option (Value × Heap)} {rnd : Option Nat} {h h' h0 h1 h2 : Heap} {S S' S0 G : List Nat} {σ σ' σr γ γ' : Sto} {t t' : Tr} {ms : List Nat} {fl nw : VL} {ops : Array Oper} {n i mem : Nat} {l : List Oper} {K : VL → Sto → Prop} {Q : Ex → VL → Sto → Prop}
  {d : Tmp} {ty : TypeId} {pos : String} {after : Array Edge} {op : Op} {v pv : PV} {g : Option (Nat × Bool)} {bs nw0 : List Nat} {tail so : Bool} {x y z : Operand} {T T' e : TypeId} {τ τ' : Ty} {w w' : Value}
end Go.Fs
namespace Go.Proofs
open Go.Fs
set_option linter.unusedVariables false
set_option maxHeartbeats 2000000

end Go.Proofs
namespace Go.Fs
variable {P : Program} {orc : FuncId → List Value → Heap → Option (Value × Heap)} {rnd : Option Nat} {h h' h0 h1 h2 : Heap} {S S' S0 G : List Nat} {σ σ' σr γ γ' : Sto} {t t' : Tr} {ms : List Nat} {fl nw : VL} {ops : Array Oper} {n i mem : Nat} {l : List Oper} {K : VL → Sto → Prop} {Q : Ex → VL → Sto → Prop}
  {d : Tmp} {ty : TypeId} {pos : String} {after : Array Edge} {op : Op} {v pv : PV} {g : Option (Nat × Bool)} {bs nw0 : List Nat} {tail so : Bool} {x y z : Operand} {T T' e : TypeId} {τ τ' : Ty} {w w' : Value}

end Go.Fs
namespace Go.Fs
variable {P : Program} {orc : FuncId → List Value → Heap → Option (Value × Heap)} {h h' h0 h1 h2 : Heap} {S S' S0 G : List Nat} {σ σ' γ γ' : Sto} {t t' : Tr} {ms : List Nat} {fl : VL} {τ : Ty}
end Go.Fs
namespace Go.Proofs
open Go.Fs
set_option linter.unusedVariables false
set_option maxHeartbeats 2000000
end Go.Proofs
namespace Go.Fs
variable {P : Program} {orc : FuncId → List Value → Heap → Option (Value × Heap)} {h h' h0 h1 h2 : Heap} {S S' S0 G : List Nat} {σ σ' : Sto} {t t' : Tr} {ms : List Nat} {fl : VL} {ops : Array Oper} {n i mem : Nat} {l : List Oper} {K : VL → Sto → Prop}
  {d : Tmp} {ty : TypeId} {pos : String} {after : Array Edge} {g : Option (Nat × Bool)} {bs nw : List Nat} {tail so : Bool} {e : TypeId} {τ : Ty}
end Go.Fs
namespace Go.Proofs
open Go.Fs
set_option linter.unusedVariables false
set_option maxHeartbeats 2000000
end Go.Proofs
namespace Go.Proofs
open Go.Fs
set_option linter.unusedVariables false
set_option maxHeartbeats 4000000
end Go.Proofs
namespace Go.Proofs
open Go.Fs
set_option linter.unusedVariables false
set_option maxHeartbeats 1000000
def stepO (c : Cse) (k : Int) (s : ByteArray) : Int := firstE [whenE (decide (evidE c.2.1 s < 0)) 10, whenE (decide (evidE c.2.1 s ≤ k)) 11]
end Go.Proofs
namespace Go.Proofs
open Go.Fs
set_option linter.unusedVariables false
set_option maxHeartbeats 2000000

end Go.Proofs
namespace Go.Proofs
open Go.Fs
end Go.Proofs
namespace Go.Proofs
open Go.Fs
set_option linter.unusedVariables false
set_option maxHeartbeats 1000000

end Go.Proofs
namespace Go.Proofs
open Go.Fs
set_option linter.unusedVariables false
set_option maxHeartbeats 2000000

end Go.Proofs
namespace Go.Proofs
open Go.Fs
structure CaseP (c : Cse) : Prop where
  v : versE c.1 = 0
  e : (c.2.1.length : Int) ≤ 64
  ev : ∀ i, i < c.2.1.length → evAt c i = 0
  l : (c.2.2.length : Int) ≤ 64
  cl : ∀ i, i < c.2.2.length → clAt c i = 0
end Go.Proofs
namespace Go.Proofs
open Go.Fs
structure RnwP (c : Cse) (s : ByteArray) (i : Nat) : Prop where
  hi : i < c.2.1.length
  at' : evidE c.2.1 s = (i : Nat)
  nm : (c.2.1[i]).1 = s
structure LackP (c : Cse) (s : ByteArray) (l : List ByteArray) : Prop where
  by1 : byR c (l ++ validR c) s = true
  nd : l.Nodup
  sub : ∀ w ∈ l, (∃ x ∈ c.2.1, x.1 = w) ∧ w ∉ validR c
  min : ∀ w ∈ l, byR c (lackW l w ++ validR c) s = false
  len : l.length ≤ c.2.1.length
structure RnwL (c : Cse) (l : List ByteArray) (y : Cse) : Prop where
  z : caseE y = 0
  ok : CseOk y
  nm : y.2.1.map (·.1) = c.2.1.map (·.1)
  cl : y.2.2 = c.2.2
  v : ∀ w, w ∈ validR y ↔ w ∈ validR c ∨ w ∈ l
end Go.Proofs
namespace Go.Proofs
open Go.Fs
structure SupP (c : Cse) (s : ByteArray) (l : List ByteArray) : Prop where
  by1 : byR c l s = true
  nd : l.Nodup
  sub : List.Sublist l (validR c)
  min : ∀ w ∈ l, byR c (lackW l w) s = false
end Go.Proofs
namespace Go.Proofs
open Go.Fs
set_option linter.unusedVariables false
set_option maxHeartbeats 2000000
end Go.Proofs
