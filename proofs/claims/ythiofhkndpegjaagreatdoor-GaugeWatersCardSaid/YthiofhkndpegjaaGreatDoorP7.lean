/- Parts of the proof: an evaluator of the model, what it is sound for, and contracts of functions. No condition. -/
import Derived.Test.YthiofhkndpegjaaGreatDoorP6
import Derived.Test.YthiofhkndpegjaaGreatDoorP5
import Derived.Test.YthiofhkndpegjaaGreatDoorP3
import Derived.Test.YthiofhkndpegjaaGreatDoorP2
set_option linter.all false
namespace Go.Proofs
open Go.Fs Ieee
set_option linter.unusedVariables false
set_option maxHeartbeats 400000

def SgOk (g : Nat) : Prop := g = 1065353216 ∨ g = 3212836864
def sgE (g : Nat) : Int := if g = 3212836864 then -1 else 1
theorem u32_one : u32 1065353216 = some 713623846352979940529142984724747568191373312 := by decide +kernel
theorem u32_neg : u32 3212836864 = some (-713623846352979940529142984724747568191373312) := by decide +kernel
theorem u32_sg {g : Nat} (h : SgOk g) : u32 g = some (sgE g * 713623846352979940529142984724747568191373312) := by
  rcases h with rfl | rfl
  · rw [u32_one] <;> rfl
  rw [u32_neg] <;> rfl
def svE (g x : Nat) : Int := sgE g * sxE x
def mulR (g x : Nat) : Nat := (single.mul x g).getD 0
def mulL (g x : Nat) : Nat := (single.mul g x).getD 0
theorem rep_sv {g x : Nat} (h : SgOk g) (hx : lvlE x = 0) : single.Rep (svE g x * 44601490397061246283071436545296723011960832).natAbs := by
  obtain ⟨h1, h2, h3⟩ := lvl_ok hx
  have hs : (svE g x).natAbs = (sxE x).natAbs := by
    unfold svE sgE
    split
    · rw [Int.neg_one_mul, Int.natAbs_neg]
    rw [Int.one_mul]
  rw [Int.natAbs_mul, hs]
  exact rep_small (n := (sxE x).natAbs) (j := 145) (by show _ < 2 ^ (23 + 1); omega) (by decide)
theorem mulR_ok {g x : Nat} (h : SgOk g) (hx : lvlE x = 0) : single.mul x g = some (mulR g x) ∧ u32 (mulR g x) = some (svE g x * 44601490397061246283071436545296723011960832) := by
  obtain ⟨r, hr, hr2⟩ := Format.mul_exact (r := svE g x * 44601490397061246283071436545296723011960832) (lvl_ok hx).1 (u32_sg h) (by decide) (by
    rw [m149]; unfold svE
    generalize sxE x = a; generalize sgE g = b
    rw [Int.mul_assoc b a, Int.mul_comm b (a * _), Int.mul_assoc (a * _) b]; rfl) (rep_sv h hx) sng_good
  have e : mulR g x = r := by rw [mulR, hr] <;> rfl
  rw [e]; exact ⟨hr, hr2⟩
theorem mulL_ok {g x : Nat} (h : SgOk g) (hx : lvlE x = 0) : single.mul g x = some (mulL g x) ∧ u32 (mulL g x) = some (svE g x * 44601490397061246283071436545296723011960832) := by
  obtain ⟨r, hr, hr2⟩ := Format.mul_exact (r := svE g x * 44601490397061246283071436545296723011960832) (u32_sg h) (lvl_ok hx).1 (by decide) (by
    rw [m149]; unfold svE
    generalize sxE x = a; generalize sgE g = b
    rw [Int.mul_comm (b * _) (a * _), Int.mul_assoc b a, Int.mul_comm b (a * _), Int.mul_assoc (a * _) b]; rfl) (rep_sv h hx) sng_good
  have e : mulL g x = r := by rw [mulL, hr] <;> rfl
  rw [e]; exact ⟨hr, hr2⟩
theorem ge_L {g x y : Nat} (h : SgOk g) (hx : lvlE x = 0) (hy : lvlE y = 0) : fcmpE .geq .f32 (mulL g y) (mulL g x) = decide (svE g x ≤ svE g y) := by
  rw [(fcmp32 (mulL_ok h hy).2 (mulL_ok h hx).2).2.2.2.2.2]
  exact decide_eq_decide.2 ⟨fun h => by omega, fun h => by omega⟩
theorem gt_L {g x y : Nat} (h : SgOk g) (hx : lvlE x = 0) (hy : lvlE y = 0) : fcmpE .gtr .f32 (mulL g y) (mulL g x) = decide (svE g x < svE g y) := by
  rw [(fcmp32 (mulL_ok h hy).2 (mulL_ok h hx).2).2.2.2.2.1]
  exact decide_eq_decide.2 ⟨fun h => by omega, fun h => by omega⟩
theorem ge_R {g x y : Nat} (h : SgOk g) (hx : lvlE x = 0) (hy : lvlE y = 0) : fcmpE .geq .f32 (mulR g y) (mulR g x) = decide (svE g x ≤ svE g y) := by
  rw [(fcmp32 (mulR_ok h hy).2 (mulR_ok h hx).2).2.2.2.2.2]
  exact decide_eq_decide.2 ⟨fun h => by omega, fun h => by omega⟩
theorem gt_R {g x y : Nat} (h : SgOk g) (hx : lvlE x = 0) (hy : lvlE y = 0) : fcmpE .gtr .f32 (mulR g y) (mulR g x) = decide (svE g x < svE g y) := by
  rw [(fcmp32 (mulR_ok h hy).2 (mulR_ok h hx).2).2.2.2.2.1]
  exact decide_eq_decide.2 ⟨fun h => by omega, fun h => by omega⟩
def levE (r : Rec1) (i : Nat) : Nat := r.2.2.1.getD i 0
theorem levE_at {r : Rec1} {i : Nat} (h : i < r.2.2.1.length) : levE r i = r.2.2.1[i] := getDat h
def nearE (r : Rec1) (w : Int) (g i k : Nat) : Bool := (decide ((k : Int) < i) && decide ((i : Int) - w ≤ k) && decide (svE g (levE r i) ≤ svE g (levE r k))) || (decide ((i : Int) < k) && decide ((k : Int) ≤ i + w) && decide (svE g (levE r i) < svE g (levE r k)))
theorem nearE_at {r : Rec1} {w : Int} {g i k : Nat} (hi : i < r.2.2.1.length) (hk : k < r.2.2.1.length) : nearE r w g i k = ((decide ((k : Int) < i) && decide ((i : Int) - w ≤ k) && decide (svE g r.2.2.1[i] ≤ svE g r.2.2.1[k])) || (decide ((i : Int) < k) && decide ((k : Int) ≤ i + w) && decide (svE g r.2.2.1[i] < svE g r.2.2.1[k]))) := by
  unfold nearE
  rw [levE_at hi, levE_at hk]
def beatE (r : Rec1) (w : Int) (g i k : Nat) : Bool := recB r k && nearE r w g i k
def waterE (r : Rec1) (w : Int) (g i : Nat) : Bool := recB r i && !(List.range r.2.2.1.length).any (beatE r w g i)
theorem water_t {r : Rec1} {w : Int} {g i k : Nat} (hk : k < r.2.2.1.length) (h : beatE r w g i k = true) : waterE r w g i = false := by
  unfold waterE
  rw [List.any_eq_true.2 ⟨k, List.mem_range.2 hk, h⟩]; simp
theorem water_f {r : Rec1} {w : Int} {g i : Nat} (h0 : recB r i = true) (h : ∀ k, k < r.2.2.1.length → beatE r w g i k = false) : waterE r w g i = true := by
  unfold waterE
  rw [h0, List.any_eq_false.2 fun k hk => by rw [h k (List.mem_range.1 hk)]; exact Bool.false_ne_true] <;> rfl
theorem rWater_ok {r : ByteArray × Int × (List Nat) × (List (Int × Int))} {w : Int} {i : Nat} {g : Nat} (hl : r.2.2.1.length < 1000000) (hgl : r.2.2.2.length < 1000000) (hi : i < r.2.2.1.length) (hw : 0 ≤ w ∧ w ≤ 100000) (hv : ∀ x ∈ r.2.2.1, lvlE x = 0) (hg : SgOk g) : VF Tryz.prog OA 114 [.v y55 r, I w, I ((i : Nat) : Int), .v (.flt .f32) g] (B (waterE r w g i)) := by
  refine VF.enter Tryz.func114 rfl (fun _ _ => rfl) rfl ?_
  show VC _ _ _ _ _ [(0, .v y55 r), (1, I w), (2, I ((i : Nat) : Int)), (3, .v (.flt .f32) g)] [] _
  refine VC.seq (VC.text ?_)
  refine VO.new (.box) ?_
  refine VO.c (.assign rfl) ?_
  refine VO.go (VC.seq (VC.seq (VC.text ?_)))
  refine VO.r (.ld vt55) ?_
  refine VO.c (.move rfl) ?_
  refine VO.call rfl rfl (VF.call (rRecorded_ok (by first | assumption | omega | simp))) ?_
  refine VO.c (.not) ?_
  refine VO.go ?_
  refine VC.condB rfl (fun c1 => ?_) (fun c1 => ?_)
  · try simp only [Bool.and_eq_true, Bool.or_eq_true, Bool.and_eq_false_iff, Bool.or_eq_false_iff, Bool.not_eq_true', Bool.not_eq_false', decide_eq_true_eq, decide_eq_false_iff_not] at c1
    refine VC.seq (VC.text ?_)
    refine VO.c (.assign rfl) ?_
    refine VO.go ?_
    refine VC.ret ?_
    exact VEnd.one rfl evT (pvE (by unfold waterE; rw [show recB r i = false by simpa using c1] <;> rfl))
  try simp only [Bool.and_eq_true, Bool.or_eq_true, Bool.and_eq_false_iff, Bool.or_eq_false_iff, Bool.not_eq_true', Bool.not_eq_false', decide_eq_true_eq, decide_eq_false_iff_not] at c1
  have hri : recB r i = true := by simpa using c1
  refine VC.skip (VC.seq (VC.seq (VC.text ?_)))
  refine VO.c (.assign rfl) ?_
  refine VO.go (VC.block ?_)
  refine VC.keep [(1, I w), (2, I ((i : Nat) : Int)), (3, .v (.flt .f32) g), (4, .p y55 r), (9, I ((0 : Nat) : Int))] ⟨rfl, rfl, rfl, rfl, rfl, trivial⟩ ?_
  refine VC.loop (I := fun kk ff ss => ∃ (k : Nat), kk = r.2.2.1.length - k ∧ ff = [(1, I w), (2, I ((i : Nat) : Int)), (3, .v (.flt .f32) g), (4, .p y55 r), (9, I ((k : Nat) : Int))] ∧ ss = [] ∧ (k ≤ r.2.2.1.length) ∧ (∀ j, j < k → beatE r w g i j = false)) ?_ _ _ _ ⟨0, rfl, rfl, rfl, Nat.zero_le _, (by intro j hj; omega)⟩
  rintro kk ff ss ⟨k, hk0, rfl, rfl, hk, hn⟩
  refine VC.seq (VC.seq (VC.text ?_))
  refine VO.c (.move rfl) ?_
  refine VO.c (.fa (.r (.r (.l .o)))) ?_
  refine VO.r (.ld vt53) ?_
  refine VO.r (.len el53) ?_
  refine VO.c (.lss) ?_
  refine VO.go ?_
  refine VC.condD rfl (fun c4 => ?_) (fun c4 => ?_)
  · have hkl : k < r.2.2.1.length := by omega
    have hvi := hv _ (List.getElem_mem hi)
    have hvk := hv _ (List.getElem_mem hkl)
    refine VC.skip (VC.seq (VC.block (VC.seq (VC.seq (VC.text ?_)))))
    refine VO.r (.ld vt55) ?_
    refine VO.c (.move rfl) ?_
    refine VO.call rfl rfl (VF.call (rRecorded_ok (by first | assumption | omega | simp))) ?_
    refine VO.c (.not) ?_
    refine VO.go ?_
    refine VC.condB rfl (fun c6 => ?_) (fun c6 => ?_)
    · try simp only [Bool.and_eq_true, Bool.or_eq_true, Bool.and_eq_false_iff, Bool.or_eq_false_iff, Bool.not_eq_true', Bool.not_eq_false', decide_eq_true_eq, decide_eq_false_iff_not] at c6
      have hbk : beatE r w g i k = false := by unfold beatE; rw [show recB r k = false by simpa using c6] <;> rfl
      refine VC.exit (VC.text ?_)
      refine VO.c (.move rfl) ?_
      refine VO.c (.add rfl rfl (by omega)) ?_
      refine VO.c (.assign rfl) ?_
      refine VO.nil ?_
      refine ⟨_, [(1, I w), (2, I ((i : Nat) : Int)), (3, .v (.flt .f32) g), (4, .p y55 r), (9, I (((k + 1) : Nat) : Int))], ?_, ⟨rfl, rfl, rfl, rfl, rfl, trivial⟩, (k + 1), rfl, rfl, rfl, (by omega), (by intro j hj; rcases Nat.lt_succ_iff_lt_or_eq.1 hj with h | h; exact hn j h; subst h; exact hbk)⟩
      omega
    try simp only [Bool.and_eq_true, Bool.or_eq_true, Bool.and_eq_false_iff, Bool.or_eq_false_iff, Bool.not_eq_true', Bool.not_eq_false', decide_eq_true_eq, decide_eq_false_iff_not] at c6
    refine VC.skip (VC.seq (VC.drawn ?_))
    refine VD.c (.move rfl) ?_
    refine VD.c (.fa (.r (.r (.l .o)))) ?_
    refine VD.r [] (.ld vt53) (.inl rfl) ?_
    refine VD.c (.move rfl) ?_
    refine VD.c (.ix (j := i) rfl rfl el53 (by omega)) ?_
    refine VD.r [] (.ld vt59) (.inl rfl) ?_
    refine VD.nw [] ?_
    refine VD.c (.fop (mul32E (mulL_ok hg hvi).1)) ?_
    refine VD.c (.move rfl) ?_
    refine VD.c (.fa (.r (.r (.l .o)))) ?_
    refine VD.r [] (.ld vt53) (.inl rfl) ?_
    refine VD.c (.move rfl) ?_
    refine VD.c (.ix (j := k) rfl rfl el53 (by omega)) ?_
    refine VD.r [] (.ld vt59) (.inl rfl) ?_
    refine VD.nw [] ?_
    refine VD.c (.fop (mul32E (mulL_ok hg hvk).1)) ?_
    refine VD.c (.assign rfl) ?_
    refine VD.c (.assign rfl) ?_
    refine VD.go (VC.seq ?_)
    refine VC.join [(1, I w), (2, I ((i : Nat) : Int)), (3, .v (.flt .f32) g), (4, .p y55 r), (9, I ((k : Nat) : Int)), (72, B (nearE r w g i k))] [] ?_ ?_
    · skip
      refine VC.text ?_
      refine VO.c (.move rfl) ?_
      refine VO.c (.move rfl) ?_
      refine VO.c (.lss) ?_
      refine VO.c (.move rfl) ?_
      refine VO.cg (r := decide (((k : Nat) : Int) < ((i : Nat) : Int))) (w := true) [] trivial (fun hgd => have g8_3 : ((k : Nat) : Int) < ((i : Nat) : Int) := (by simpa using hgd); (.move rfl)) ?_
      refine VO.cg (r := decide (((k : Nat) : Int) < ((i : Nat) : Int))) (w := true) [] trivial (fun hgd => have g8_3 : ((k : Nat) : Int) < ((i : Nat) : Int) := (by simpa using hgd); (.move rfl)) ?_
      refine VO.cg (r := decide (((k : Nat) : Int) < ((i : Nat) : Int))) (w := true) [] trivial (fun hgd => have g8_3 : ((k : Nat) : Int) < ((i : Nat) : Int) := (by simpa using hgd); (.move rfl)) ?_
      refine VO.cg (r := decide (((k : Nat) : Int) < ((i : Nat) : Int))) (w := true) [(46, I ((i : Nat) : Int)), (47, I w)] ⟨rfl, rfl, trivial⟩ (fun hgd => have g8_3 : ((k : Nat) : Int) < ((i : Nat) : Int) := (by simpa using hgd); (.sub rfl rfl (by omega))) ?_
      refine VO.cg (r := decide (((k : Nat) : Int) < ((i : Nat) : Int))) (w := true) [(45, I ((k : Nat) : Int)), (48, I (((i : Nat) : Int) - w))] ⟨rfl, rfl, trivial⟩ (fun hgd => have g8_3 : ((k : Nat) : Int) < ((i : Nat) : Int) := (by simpa using hgd); (.geq)) ?_
      refine VO.c (.and) ?_
      refine VO.c (.move rfl) ?_
      refine VO.cg (r := ((decide (((k : Nat) : Int) < ((i : Nat) : Int))) && (decide ((((i : Nat) : Int) - w) ≤ ((k : Nat) : Int))))) (w := true) [] trivial (fun hgd => have g8_10 : ((decide (((k : Nat) : Int) < ((i : Nat) : Int))) && (decide ((((i : Nat) : Int) - w) ≤ ((k : Nat) : Int)))) = true := (by simpa using hgd); (.move rfl)) ?_
      refine VO.cg (r := ((decide (((k : Nat) : Int) < ((i : Nat) : Int))) && (decide ((((i : Nat) : Int) - w) ≤ ((k : Nat) : Int))))) (w := true) [] trivial (fun hgd => have g8_10 : ((decide (((k : Nat) : Int) < ((i : Nat) : Int))) && (decide ((((i : Nat) : Int) - w) ≤ ((k : Nat) : Int)))) = true := (by simpa using hgd); (.move rfl)) ?_
      refine VO.cg (r := ((decide (((k : Nat) : Int) < ((i : Nat) : Int))) && (decide ((((i : Nat) : Int) - w) ≤ ((k : Nat) : Int))))) (w := true) [(52, .v (.flt .f32) (mulL g r.2.2.1[k])), (53, .v (.flt .f32) (mulL g r.2.2.1[i]))] ⟨rfl, rfl, trivial⟩ (fun hgd => have g8_10 : ((decide (((k : Nat) : Int) < ((i : Nat) : Int))) && (decide ((((i : Nat) : Int) - w) ≤ ((k : Nat) : Int)))) = true := (by simpa using hgd); (.fcmpD (b := .geq) (ge_L hg hvi hvk))) ?_
      refine VO.c (.and) ?_
      refine VO.c (.move rfl) ?_
      refine VO.splitB (x := 56) rfl (fun g8_15 => ?_) (fun g8_15 => ?_)
      · try simp only [Bool.and_eq_true, Bool.or_eq_true, Bool.and_eq_false_iff, Bool.or_eq_false_iff, Bool.not_eq_true', Bool.not_eq_false', decide_eq_true_eq, decide_eq_false_iff_not] at g8_15
        refine VO.skip ?_
        refine VO.skip ?_
        refine VO.skip ?_
        refine VO.skip ?_
        refine VO.skip ?_
        refine VO.skip ?_
        refine VO.skip ?_
        refine VO.skip ?_
        refine VO.skip ?_
        refine VO.skip ?_
        refine VO.skip ?_
        refine VO.skip ?_
        refine VO.skip ?_
        refine VO.skip ?_
        refine VO.skip ?_
        refine VO.c (.pickT rfl rfl) ?_
        refine VO.nil ?_
        exact ⟨⟨rfl, rfl, rfl, rfl, rfl, slE rfl (by rw [nearE_at hi hkl, Bool.eq_iff_iff]; simp only [Bool.and_eq_true, Bool.or_eq_true, decide_eq_true_eq, Bool.false_eq_true, true_iff, false_iff, iff_true, iff_false] <;> omega), trivial⟩, rfl⟩
      try simp only [Bool.and_eq_true, Bool.or_eq_true, Bool.and_eq_false_iff, Bool.or_eq_false_iff, Bool.not_eq_true', Bool.not_eq_false', decide_eq_true_eq, decide_eq_false_iff_not] at g8_15
      refine VO.c (.move rfl) ?_
      refine VO.c (.move rfl) ?_
      refine VO.c (.gtr) ?_
      refine VO.c (.move rfl) ?_
      refine VO.cg (r := decide (((i : Nat) : Int) < ((k : Nat) : Int))) (w := true) [] trivial (fun hgd => have g8_19 : ((i : Nat) : Int) < ((k : Nat) : Int) := (by simpa using hgd); (.move rfl)) ?_
      refine VO.cg (r := decide (((i : Nat) : Int) < ((k : Nat) : Int))) (w := true) [] trivial (fun hgd => have g8_19 : ((i : Nat) : Int) < ((k : Nat) : Int) := (by simpa using hgd); (.move rfl)) ?_
      refine VO.cg (r := decide (((i : Nat) : Int) < ((k : Nat) : Int))) (w := true) [] trivial (fun hgd => have g8_19 : ((i : Nat) : Int) < ((k : Nat) : Int) := (by simpa using hgd); (.move rfl)) ?_
      refine VO.cg (r := decide (((i : Nat) : Int) < ((k : Nat) : Int))) (w := true) [(62, I ((i : Nat) : Int)), (63, I w)] ⟨rfl, rfl, trivial⟩ (fun hgd => have g8_19 : ((i : Nat) : Int) < ((k : Nat) : Int) := (by simpa using hgd); (.add rfl rfl (by omega))) ?_
      refine VO.cg (r := decide (((i : Nat) : Int) < ((k : Nat) : Int))) (w := true) [(61, I ((k : Nat) : Int)), (64, I (((i : Nat) : Int) + w))] ⟨rfl, rfl, trivial⟩ (fun hgd => have g8_19 : ((i : Nat) : Int) < ((k : Nat) : Int) := (by simpa using hgd); (.leq)) ?_
      refine VO.c (.and) ?_
      refine VO.c (.move rfl) ?_
      refine VO.cg (r := ((decide (((i : Nat) : Int) < ((k : Nat) : Int))) && (decide (((k : Nat) : Int) ≤ (((i : Nat) : Int) + w))))) (w := true) [] trivial (fun hgd => have g8_26 : ((decide (((i : Nat) : Int) < ((k : Nat) : Int))) && (decide (((k : Nat) : Int) ≤ (((i : Nat) : Int) + w)))) = true := (by simpa using hgd); (.move rfl)) ?_
      refine VO.cg (r := ((decide (((i : Nat) : Int) < ((k : Nat) : Int))) && (decide (((k : Nat) : Int) ≤ (((i : Nat) : Int) + w))))) (w := true) [] trivial (fun hgd => have g8_26 : ((decide (((i : Nat) : Int) < ((k : Nat) : Int))) && (decide (((k : Nat) : Int) ≤ (((i : Nat) : Int) + w)))) = true := (by simpa using hgd); (.move rfl)) ?_
      refine VO.cg (r := ((decide (((i : Nat) : Int) < ((k : Nat) : Int))) && (decide (((k : Nat) : Int) ≤ (((i : Nat) : Int) + w))))) (w := true) [(68, .v (.flt .f32) (mulL g r.2.2.1[k])), (69, .v (.flt .f32) (mulL g r.2.2.1[i]))] ⟨rfl, rfl, trivial⟩ (fun hgd => have g8_26 : ((decide (((i : Nat) : Int) < ((k : Nat) : Int))) && (decide (((k : Nat) : Int) ≤ (((i : Nat) : Int) + w)))) = true := (by simpa using hgd); (.fcmpD (b := .gtr) (gt_L hg hvi hvk))) ?_
      refine VO.c (.and) ?_
      refine VO.c (.pickF rfl rfl) ?_
      refine VO.nil ?_
      exact ⟨⟨rfl, rfl, rfl, rfl, rfl, slE rfl (by rw [nearE_at hi hkl, Bool.eq_iff_iff]; simp only [Bool.and_eq_true, Bool.or_eq_true, decide_eq_true_eq, Bool.false_eq_true, true_iff, false_iff, iff_true, iff_false] <;> omega), trivial⟩, rfl⟩
    refine VC.condB rfl (fun c8 => ?_) (fun c8 => ?_)
    · have hbk : beatE r w g i k = true := by
        unfold beatE
        rw [show recB r k = true by simpa using c6, c8] <;> rfl
      refine VC.seq (VC.text ?_)
      refine VO.c (.assign rfl) ?_
      refine VO.go ?_
      refine VC.ret ?_
      exact VEnd.one rfl evT (pvE (by exact (water_t hkl hbk).symm))
    have hbk : beatE r w g i k = false := by
      unfold beatE
      rw [c8, Bool.and_false]
    refine VC.skip (VC.text ?_)
    refine VO.c (.move rfl) ?_
    refine VO.c (.add rfl rfl (by omega)) ?_
    refine VO.c (.assign rfl) ?_
    refine VO.nil ?_
    refine ⟨_, [(1, I w), (2, I ((i : Nat) : Int)), (3, .v (.flt .f32) g), (4, .p y55 r), (9, I (((k + 1) : Nat) : Int))], ?_, ⟨rfl, rfl, rfl, rfl, rfl, trivial⟩, (k + 1), rfl, rfl, rfl, (by omega), (by intro j hj; rcases Nat.lt_succ_iff_lt_or_eq.1 hj with h | h; exact hn j h; subst h; exact hbk)⟩
    omega
  refine VC.exit (VC.seq (VC.text ?_))
  refine VO.c (.assign rfl) ?_
  refine VO.go ?_
  refine VC.ret ?_
  exact VEnd.one rfl evT (pvE (by exact (water_f hri fun j hj => hn j (by omega)).symm))
def watL (r : Rec1) (w : Int) (g : Nat) : Nat → List Int
  | 0 => []
  | i + 1 => if waterE r w g i = true then watL r w g i ++ [(i : Int)] else watL r w g i
theorem watL_len {r : Rec1} {w : Int} {g : Nat} : ∀ i, (watL r w g i).length ≤ i
  | 0 => Nat.le_refl _
  | i + 1 => by
    have := watL_len (r := r) (w := w) (g := g) i
    unfold watL
    split
    · rw [List.length_append, List.length_singleton]; omega
    omega
theorem watL_t {r : Rec1} {w : Int} {g i : Nat} (h : waterE r w g i = true) : watL r w g (i + 1) = watL r w g i ++ [(i : Int)] := by rw [watL, if_pos h]
theorem watL_f {r : Rec1} {w : Int} {g i : Nat} (h : waterE r w g i = false) : watL r w g (i + 1) = watL r w g i := by rw [watL, if_neg (by rw [h]; exact Bool.false_ne_true)]
theorem rWaters_ok {r : ByteArray × Int × (List Nat) × (List (Int × Int))} {w : Int} {g : Nat} (hl : r.2.2.1.length < 1000000) (hgl : r.2.2.2.length < 1000000) (hw : 0 ≤ w ∧ w ≤ 100000) (hv : ∀ x ∈ r.2.2.1, lvlE x = 0) (hg : SgOk g) : VF Tryz.prog OA 62 [.v y55 r, I w, .v (.flt .f32) g] (.v y37 (watL r w g r.2.2.1.length)) := by
  refine VF.enter Tryz.func62 rfl (fun _ _ => rfl) rfl ?_
  show VC _ _ _ _ _ [(0, .v y55 r), (1, I w), (2, .v (.flt .f32) g)] [] _
  refine VC.seq (VC.text ?_)
  refine VO.new (.box) ?_
  refine VO.c (.assign rfl) ?_
  refine VO.go (VC.seq (VC.text ?_))
  refine VO.c (.assign rfl) ?_
  refine VO.go (VC.seq (VC.seq (VC.text ?_)))
  refine VO.c (.assign rfl) ?_
  refine VO.go (VC.block ?_)
  refine VC.cell0 3 (.int .i64) ?_
  refine VC.keep [(1, I w), (2, .v (.flt .f32) g), (3, .p y55 r), (7, .raw (.slice none 0 0)), (8, I ((0 : Nat) : Int))] ⟨rfl, rfl, rfl, rfl, rfl, trivial⟩ ?_
  refine VC.loop (I := fun kk ff ss => ∃ (i : Nat) (out : Value), kk = r.2.2.1.length - i ∧ ff = [(1, I w), (2, .v (.flt .f32) g), (3, .p y55 r), (7, .raw out), (8, I ((i : Nat) : Int))] ∧ ss = [(out, .row 3 (.int .i64) (watL r w g i))] ∧ (i ≤ r.2.2.1.length) ∧ ((watL r w g i).length ≤ i)) ?_ _ _ _ ⟨0, (.slice none 0 0), rfl, rfl, rfl, Nat.zero_le _, (by exact Nat.le_refl _)⟩
  rintro kk ff ss ⟨i, out, hk0, rfl, rfl, hi, hwl⟩
  refine VC.seq (VC.seq (VC.text ?_))
  refine VO.c (.move rfl) ?_
  refine VO.c (.fa (.r (.r (.l .o)))) ?_
  refine VO.r (.ld vt53) ?_
  refine VO.r (.len el53) ?_
  refine VO.c (.lss) ?_
  refine VO.go ?_
  refine VC.condD rfl (fun c3 => ?_) (fun c3 => ?_)
  · refine VC.skip (VC.seq (VC.block (VC.seq (VC.text ?_))))
    refine VO.r (.ld vt55) ?_
    refine VO.c (.move rfl) ?_
    refine VO.c (.move rfl) ?_
    refine VO.c (.move rfl) ?_
    refine VO.call rfl rfl (VF.call (rWater_ok hl hgl (by omega) hw hv hg)) ?_
    refine VO.go ?_
    refine VC.condB rfl (fun c5 => ?_) (fun c5 => ?_)
    · refine VC.text ?_
      refine VO.c (.move rfl) ?_
      refine VO.c (.move rfl) ?_
      refine VO.new (.lit [((i : Nat) : Int)] el37) ?_
      refine VO.app rfl rfl el37 el37 (by simp; omega) ?_
      intro ww1
      refine VO.c (.assign rfl) ?_
      refine VO.nil (VC.text ?_)
      refine VO.c (.move rfl) ?_
      refine VO.c (.add rfl rfl (by omega)) ?_
      refine VO.c (.assign rfl) ?_
      refine VO.nil ?_
      refine ⟨_, [(1, I w), (2, .v (.flt .f32) g), (3, .p y55 r), (7, .raw ww1), (8, I (((i + 1) : Nat) : Int))], ?_, ⟨rfl, rfl, rfl, rfl, rfl, trivial⟩, (i + 1), ww1, rfl, rfl, (by first | (rw [watL_t c5]; done) | (rw [watL_f c5]; done)), (by omega), (by exact watL_len _)⟩
      omega
    refine VC.skip (VC.text ?_)
    refine VO.c (.move rfl) ?_
    refine VO.c (.add rfl rfl (by omega)) ?_
    refine VO.c (.assign rfl) ?_
    refine VO.nil ?_
    refine ⟨_, [(1, I w), (2, .v (.flt .f32) g), (3, .p y55 r), (7, .raw out), (8, I (((i + 1) : Nat) : Int))], ?_, ⟨rfl, rfl, rfl, rfl, rfl, trivial⟩, (i + 1), out, rfl, rfl, (by first | (rw [watL_t c5]; done) | (rw [watL_f c5]; done)), (by omega), (by exact watL_len _)⟩
    omega
  refine VC.exit (VC.seq (VC.text ?_))
  refine VO.c (.move rfl) ?_
  refine VO.c (.assign rfl) ?_
  refine VO.go ?_
  refine VC.ret ?_
  exact VEnd.one rfl (evC (.row m0)) (pvE (by rw [show i = r.2.2.1.length by omega]))
def leB (r : Rec1) (x i : Nat) : Bool := !recB r i || decide (sxE (levE r i) ≤ sxE x)
def belL (r : Rec1) (x n : Nat) : List Bool := (List.range r.2.2.1.length).map fun i => if i < n then leB r x i else false
theorem belL_len {r : Rec1} {x n : Nat} : (belL r x n).length = r.2.2.1.length := by simp [belL]
theorem belL_at {r : Rec1} {x n i : Nat} (h : i < r.2.2.1.length) : (belL r x n)[i]'(by rw [belL_len]; exact h) = if i < n then leB r x i else false := by
  unfold belL
  rw [List.getElem_map, List.getElem_range]
theorem belL_0 {r : Rec1} {x : Nat} : List.replicate r.2.2.1.length false = belL r x 0 := by
  refine List.ext_getElem (by rw [List.length_replicate, belL_len]) fun i h1 h2 => ?_
  rw [belL_len] at h2
  rw [List.getElem_replicate, belL_at h2, if_neg (by omega)]
theorem belL_s {r : Rec1} {x n : Nat} (hn : n < r.2.2.1.length) : belL r x (n + 1) = (belL r x n).set n (leB r x n) := by
  refine List.ext_getElem (by rw [List.length_set, belL_len, belL_len]) fun i h1 h2 => ?_
  rw [belL_len] at h1
  rw [List.getElem_set, belL_at h1]
  by_cases e : n = i
  · subst e
    rw [if_pos rfl, if_pos (by omega)]
  rw [if_neg e, belL_at h1]
  exact ite_congr (propext ⟨fun hh => by omega, fun hh => by omega⟩) (fun _ => rfl) (fun _ => rfl)
theorem le_lv {x y : Nat} (hx : lvlE x = 0) (hy : lvlE y = 0) : fcmpE .leq .f32 x y = decide (sxE x ≤ sxE y) := by
  rw [(fcmp32 (lvl_ok hx).1 (lvl_ok hy).1).2.2.2.1]
  exact decide_eq_decide.2 ⟨fun h => by omega, fun h => by omega⟩
theorem rAbove_ok {r : ByteArray × Int × (List Nat) × (List (Int × Int))} {x : Nat} (hl : r.2.2.1.length < 1000000) (hgl : r.2.2.2.length < 1000000) (hv : ∀ y ∈ r.2.2.1, lvlE y = 0) (hx : lvlE x = 0) : VF Tryz.prog OA 63 [.v y55 r, .v (.flt .f32) x] (.v y22 (gapsE (belL r x r.2.2.1.length) r.2.2.1.length)) := by
  refine VF.enter Tryz.func63 rfl (fun _ _ => rfl) rfl ?_
  show VC _ _ _ _ _ [(0, .v y55 r), (1, .v (.flt .f32) x)] [] _
  refine VC.seq (VC.text ?_)
  refine VO.new (.box) ?_
  refine VO.c (.assign rfl) ?_
  refine VO.go (VC.seq (VC.text ?_))
  refine VO.c (.fa (.r (.r (.l .o)))) ?_
  refine VO.r (.ld vt53) ?_
  refine VO.r (.len el53) ?_
  refine VO.cell (.make (k := r.2.2.1.length) rfl rfl el156 zt4 (by omega)) ?_
  intro ww2
  refine VO.c (.assign rfl) ?_
  refine VO.go (VC.seq (VC.seq (VC.text ?_)))
  refine VO.c (.assign rfl) ?_
  refine VO.go (VC.block ?_)
  refine VC.keep [(1, .v (.flt .f32) x), (2, .p y55 r), (5, .raw ww2), (6, I ((0 : Nat) : Int))] ⟨rfl, rfl, rfl, rfl, trivial⟩ ?_
  refine VC.loop (I := fun kk ff ss => ∃ (i : Nat), kk = r.2.2.1.length - i ∧ ff = [(1, .v (.flt .f32) x), (2, .p y55 r), (5, .raw ww2), (6, I ((i : Nat) : Int))] ∧ ss = [(ww2, .row 4 .bool (belL r x i))] ∧ (i ≤ r.2.2.1.length) ∧ ((belL r x i).length = r.2.2.1.length)) ?_ _ _ _ ⟨0, rfl, rfl, (by rw [← belL_0] <;> rfl), Nat.zero_le _, (by exact belL_len)⟩
  rintro kk ff ss ⟨i, hk0, rfl, rfl, hi, hbl⟩
  refine VC.seq (VC.seq (VC.text ?_))
  refine VO.c (.move rfl) ?_
  refine VO.c (.move rfl) ?_
  refine VO.r (.lenO m0 el156) ?_
  refine VO.c (.lss) ?_
  refine VO.go ?_
  refine VC.condD rfl (fun c3 => ?_) (fun c3 => ?_)
  · have hil : i < r.2.2.1.length := by omega
    have hvi := hv _ (List.getElem_mem hil)
    have hvd : lvlE (r.2.2.1.getD i 0) = 0 := by rw [getDat hil]; exact hvi
    refine VC.skip (VC.seq (VC.block (VC.text ?_)))
    refine VO.c (.move rfl) ?_
    refine VO.c (.move rfl) ?_
    refine VO.r (.ld vt55) ?_
    refine VO.c (.move rfl) ?_
    refine VO.call rfl rfl (VF.call (rRecorded_ok (by first | assumption | omega | simp))) ?_
    refine VO.c (.not) ?_
    refine VO.c (.move rfl) ?_
    refine VO.cg (r := (!(recB r ((i : Nat) : Int)))) (w := false) [] trivial (fun hgd => have g5_6 : (!(recB r ((i : Nat) : Int))) = false := (by simpa using hgd); (.fa (.r (.r (.l .o))))) ?_
    refine VO.rg (r := (!(recB r ((i : Nat) : Int)))) (w := false) [(24, .p y53 r.2.2.1)] ⟨rfl, trivial⟩ (fun hgd => have g5_6 : (!(recB r ((i : Nat) : Int))) = false := (by simpa using hgd); (.ld vt53)) ?_
    refine VO.cg (r := (!(recB r ((i : Nat) : Int)))) (w := false) [] trivial (fun hgd => have g5_6 : (!(recB r ((i : Nat) : Int))) = false := (by simpa using hgd); (.move rfl)) ?_
    refine VO.cg (r := (!(recB r ((i : Nat) : Int)))) (w := false) [(25, .v y53 r.2.2.1), (26, I ((i : Nat) : Int))] ⟨rfl, rfl, trivial⟩ (fun hgd => have g5_6 : (!(recB r ((i : Nat) : Int))) = false := (by simpa using hgd); (.ixD (j := i) rfl rfl 0 el53 (by omega))) ?_
    refine VO.rg (r := (!(recB r ((i : Nat) : Int)))) (w := false) [(27, .p (.flt .f32) (r.2.2.1.getD i 0))] ⟨rfl, trivial⟩ (fun hgd => have g5_6 : (!(recB r ((i : Nat) : Int))) = false := (by simpa using hgd); (.ld vt59)) ?_
    refine VO.cg (r := (!(recB r ((i : Nat) : Int)))) (w := false) [] trivial (fun hgd => have g5_6 : (!(recB r ((i : Nat) : Int))) = false := (by simpa using hgd); (.move rfl)) ?_
    refine VO.cg (r := (!(recB r ((i : Nat) : Int)))) (w := false) [(28, .v (.flt .f32) (r.2.2.1.getD i 0)), (29, .v (.flt .f32) x)] ⟨rfl, rfl, trivial⟩ (fun hgd => have g5_6 : (!(recB r ((i : Nat) : Int))) = false := (by simpa using hgd); (.fcmpD (b := .leq) (le_lv hvd hx))) ?_
    refine VO.c (.or) ?_
    refine VO.c (.ixO (j := i) rfl rfl m0 el156 (by omega)) ?_
    refine VO.setE i rfl rfl vt4 (by omega) ?_
    refine VO.nil (VC.text ?_)
    refine VO.c (.move rfl) ?_
    refine VO.c (.add rfl rfl (by omega)) ?_
    refine VO.c (.assign rfl) ?_
    refine VO.nil ?_
    refine ⟨_, [(1, .v (.flt .f32) x), (2, .p y55 r), (5, .raw ww2), (6, I (((i + 1) : Nat) : Int))], ?_, ⟨rfl, rfl, rfl, rfl, trivial⟩, (i + 1), rfl, rfl, (by rw [belL_s hil] <;> rfl), (by omega), (by exact belL_len)⟩
    omega
  refine VC.exit (VC.seq ?_)
  refine VC.shutL [(ww2, .row 4 .bool (belL r x i))] [(5, .v (.sl .bool) (belL r x i))] rfl (.cons rfl (.row m0) .nil) ?_
  refine VC.text ?_
  refine VO.c (.move rfl) ?_
  refine VO.call rfl rfl (VF.call (rGaps_ok (by omega))) ?_
  refine VO.c (.assign rfl) ?_
  refine VO.go ?_
  refine VC.ret ?_
  exact VEnd.one rfl evT (pvE (by rw [hbl, show i = r.2.2.1.length by omega]))
end Go.Proofs
namespace Go.Proofs
open Go.Fs Ieee
set_option linter.unusedVariables false
set_option maxHeartbeats 400000
theorem zt22 : ZerT Tryz.prog 22 y22 := zerT_of (z := .slice none 0 0) (by kernel_rfl) rfl rfl
def recL (r : Rec1) (i : Nat) : List (Int × Nat) := (List.range' i (r.2.2.1.length - i)).filterMap fun (k : Nat) => if recB r k = true then some ((k : Int), levE r k) else none
theorem recL_end {r : Rec1} {i : Nat} (h : r.2.2.1.length ≤ i) : recL r i = [] := by
  unfold recL
  rw [show r.2.2.1.length - i = 0 by omega] <;> rfl
theorem recL_s {r : Rec1} {i : Nat} (h : i < r.2.2.1.length) : recL r i = if recB r i = true then ((i : Int), levE r i) :: recL r (i + 1) else recL r (i + 1) := by
  unfold recL
  rw [show r.2.2.1.length - i = (r.2.2.1.length - (i + 1)) + 1 by omega, List.range'_succ, List.filterMap_cons]
  by_cases hb : recB r i = true
  · rw [if_pos hb, if_pos hb]
  rw [if_neg hb, if_neg hb]
theorem thereE_at {r : Rec1} {i : Nat} (h : i < r.2.2.1.length) (h2 : i < (thereE r).length) : (thereE r)[i] = recB r i := by
  rw [recB_in h]
  exact offB_at h
theorem thereE_len {r : Rec1} : (thereE r).length = r.2.2.1.length := offB_len
theorem gRecd1_ok {r : ByteArray × Int × (List Nat) × (List (Int × Int))} (hl : r.2.2.1.length ≤ 4096) (hgl : r.2.2.2.length < 1000000) (hsp : ∀ s ∈ r.2.2.2, 0 ≤ s.1 ∧ s.1 < s.2 ∧ s.2 ≤ (r.2.2.1.length : Nat)) : IterC Tryz.prog OA 148 [] [.p y65 r] (fun x : Int × Nat => [I x.1, .v (.flt .f32) x.2]) (recL r 0) := by
  refine IterC.enter Tryz.func148 rfl rfl (fun _ => rfl) fun yv II EE γ hy hI => ?_
  show VC _ _ _ _ _ [(0, .raw yv), (1, .p y65 r)] γ _
  refine VC.seq (VC.text ?_)
  refine VO.r (.ld vt65) ?_
  refine VO.call rfl rfl (VF.call (gThere_ok hl hgl hsp)) ?_
  refine VO.r (.len el156) ?_
  refine VO.c (.move rfl) ?_
  refine VO.go (VC.block ?_)
  refine VC.keep [(0, .raw yv), (1, .p y65 r), (6, .v (.sl .bool) (thereE r)), (7, I (((thereE r).length : Nat) : Int)), (8, I ((0 : Nat) : Int))] ⟨rfl, rfl, rfl, rfl, rfl, trivial⟩ ?_
  refine VC.loop (I := fun kk ff ss => ∃ (i : Nat), kk = (thereE r).length - i ∧ ff = [(0, .raw yv), (1, .p y65 r), (6, .v (.sl .bool) (thereE r)), (7, I (((thereE r).length : Nat) : Int)), (8, I ((i : Nat) : Int))] ∧ (i ≤ (thereE r).length) ∧ II (recL r i) ss) ?_ _ _ _ ⟨0, rfl, rfl, (by omega), (by exact hI)⟩
  rintro kk ff ss ⟨i, hk0, rfl, hi, hI⟩
  refine VC.seq (VC.text ?_)
  refine VO.c (.lss) ?_
  refine VO.go (VC.seq ?_)
  refine VC.condD rfl (fun c1 => ?_) (fun c1 => ?_)
  · have hi' : i < (thereE r).length := by omega
    have htl := thereE_len (r := r)
    have hil : i < r.2.2.1.length := by omega
    have hth := thereE_at hil hi'
    have hlv := levE_at hil
    refine VC.skip (VC.seq (VC.block (VC.seq (VC.text ?_))))
    refine VO.c (.move rfl) ?_
    refine VO.c (.ix (j := i) rfl rfl el156 (by omega)) ?_
    refine VO.r (.ld vt4) ?_
    refine VO.c (.assign rfl) ?_
    refine VO.c (.assign rfl) ?_
    refine VO.go (VC.seq (VC.text ?_))
    refine VO.c (.move rfl) ?_
    refine VO.c (.move rfl) ?_
    refine VO.splitB (x := 14) rfl (fun g3_1 => ?_) (fun g3_1 => ?_)
    · refine VO.c (.move rfl) ?_
      refine VO.c (.move rfl) ?_
      refine VO.c (.fa (.r (.r (.l .o)))) ?_
      refine VO.r (.ld vt53) ?_
      refine VO.c (.move rfl) ?_
      refine VO.c (.ix (j := i) rfl rfl el53 (by omega)) ?_
      refine VO.r (.ld vt59) ?_
      refine VO.callY0 rfl rfl (hy (((i : Nat) : Int), r.2.2.1[i]) (recL r (i + 1)) _ (by rw [recL_s hil, if_pos (by rw [← hth]; exact g3_1), hlv] at hI; exact hI)) ?_
      rintro _ ss (⟨rfl, hI⟩ | ⟨rfl, hE⟩)
      · refine VO.c (.not) ?_
        refine VO.c (.pickT rfl rfl) ?_
        refine VO.go ?_
        refine VC.condF rfl ?_
        refine VC.skip (VC.text ?_)
        refine VO.c (.add rfl rfl (by omega)) ?_
        refine VO.c (.move rfl) ?_
        refine VO.nil ?_
        refine ⟨_, [(0, .raw yv), (1, .p y65 r), (6, .v (.sl .bool) (thereE r)), (7, I (((thereE r).length : Nat) : Int)), (8, I (((i + 1) : Nat) : Int))], ?_, ⟨rfl, rfl, rfl, rfl, rfl, trivial⟩, (i + 1), rfl, rfl, (by omega), (by first | exact hI | (rw [recL_s hil, if_neg (by rw [← hth, g3_1]; exact Bool.false_ne_true)] at hI; exact hI))⟩
        omega
      refine VO.c (.not) ?_
      refine VO.c (.pickT rfl rfl) ?_
      refine VO.go ?_
      refine VC.condT rfl ?_
      refine VC.ret ?_
      exact ⟨rfl, .inr hE⟩
    refine VO.skip ?_
    refine VO.skip ?_
    refine VO.skip ?_
    refine VO.skip ?_
    refine VO.skip ?_
    refine VO.skip ?_
    refine VO.skip ?_
    refine VO.skip ?_
    refine VO.skip ?_
    refine VO.c (.pickF rfl rfl) ?_
    refine VO.go ?_
    refine VC.condF rfl ?_
    refine VC.skip (VC.text ?_)
    refine VO.c (.add rfl rfl (by omega)) ?_
    refine VO.c (.move rfl) ?_
    refine VO.nil ?_
    refine ⟨_, [(0, .raw yv), (1, .p y65 r), (6, .v (.sl .bool) (thereE r)), (7, I (((thereE r).length : Nat) : Int)), (8, I (((i + 1) : Nat) : Int))], ?_, ⟨rfl, rfl, rfl, rfl, rfl, trivial⟩, (i + 1), rfl, rfl, (by omega), (by first | exact hI | (rw [recL_s hil, if_neg (by rw [← hth, g3_1]; exact Bool.false_ne_true)] at hI; exact hI))⟩
    omega
  refine VC.exit ?_
  exact ⟨rfl, .inl (by rw [recL_end (by have := thereE_len (r := r); omega)] at hI; exact hI)⟩
theorem gRecd_ok {r : ByteArray × Int × (List Nat) × (List (Int × Int))} : VF Tryz.prog OA 112 [.v y65 r] (.clo 148 [] [.p y65 r]) := by
  refine VF.enter Tryz.func112 rfl (fun _ _ => rfl) rfl ?_
  show VC _ _ _ _ _ [(0, .v y65 r)] [] _
  refine VC.seq (VC.text ?_)
  refine VO.new (.box) ?_
  refine VO.c (.assign rfl) ?_
  refine VO.go (VC.seq (VC.text ?_))
  refine VO.c (.func) ?_
  refine VO.c (.assign rfl) ?_
  refine VO.go ?_
  refine VC.ret ?_
  exact VEnd.one rfl evT rfl
theorem recL_mem {r : Rec1} : ∀ {n i : Nat}, n = r.2.2.1.length - i → ∀ y ∈ recL r i, ∃ k : Nat, i ≤ k ∧ k < r.2.2.1.length ∧ recB r k = true ∧ y = ((k : Int), levE r k)
  | 0, i, hn, y, hy => by rw [recL_end (by omega)] at hy; cases hy
  | n + 1, i, hn, y, hy => by
    rw [recL_s (by omega)] at hy
    by_cases hb : recB r i = true
    · rw [if_pos hb] at hy
      rcases List.mem_cons.1 hy with rfl | hy
      · exact ⟨i, Nat.le_refl _, by omega, hb, rfl⟩
      obtain ⟨k, h1, h2, h3, h4⟩ := recL_mem (n := n) (by omega) y hy
      exact ⟨k, by omega, h2, h3, h4⟩
    rw [if_neg hb] at hy
    obtain ⟨k, h1, h2, h3, h4⟩ := recL_mem (n := n) (by omega) y hy
    exact ⟨k, by omega, h2, h3, h4⟩
theorem recL_len {r : Rec1} : ∀ {n i : Nat}, n = r.2.2.1.length - i → (recL r i).length ≤ n
  | 0, i, hn => by rw [recL_end (by omega)]; exact Nat.le_refl _
  | n + 1, i, hn => by
    have := recL_len (r := r) (n := n) (i := i + 1) (by omega)
    rw [recL_s (by omega)]
    split
    · rw [List.length_cons]; omega
    omega
theorem recL_ok {r : Rec1} (hv : ∀ x ∈ r.2.2.1, lvlE x = 0) : ∀ y ∈ recL r 0, lvlE y.2 = 0 ∧ 0 ≤ y.1 ∧ y.1 < (r.2.2.1.length : Nat) := fun y hy => by
  obtain ⟨k, h1, h2, h3, rfl⟩ := recL_mem rfl y hy
  rw [levE_at h2]
  exact ⟨hv _ (List.getElem_mem h2), by show (0 : Int) ≤ (k : Int); omega, by show (k : Int) < _; omega⟩
theorem gt_lv {x y : Nat} (hx : lvlE x = 0) (hy : lvlE y = 0) : fcmpE .gtr .f32 x y = decide (sxE y < sxE x) := by
  rw [(fcmp32 (lvl_ok hx).1 (lvl_ok hy).1).2.2.2.2.1]
  exact decide_eq_decide.2 ⟨fun h => by omega, fun h => by omega⟩
def abS (v : Nat) (gs : List (Int × Int)) (x : Int × Nat) : List (Int × Int) := if sxE v < sxE x.2 then gs ++ [(x.1, x.1 + 1)] else gs
theorem abS_len (v : Nat) (gs : List (Int × Int)) (x : Int × Nat) : (abS v gs x).length ≤ gs.length + 1 := by
  unfold abS
  split
  · rw [List.length_append, List.length_singleton]; omega
  omega
def abvC (r : Rec1) (v : Nat) : Int := firstE [recE r, lvlE v]
def abvE (r : Rec1) (v : Nat) : List (Int × Int) := if abvC r v ≠ 0 then [] else canE ((recL r 0).foldl (abS v) [])
theorem gAbove_ok {r : ByteArray × Int × (List Nat) × (List (Int × Int))} {v : Nat} (hl : r.2.2.1.length < 1000000) (hgl : r.2.2.2.length < 1000000) : VF Tryz.prog OA 60 [.v y65 r, .v (.flt .f32) v] (.tup [.v y22 (abvE r v), I (abvC r v)]) := by
  refine VF.enter Tryz.func60 rfl (fun _ _ => rfl) rfl ?_
  show VC _ _ _ _ _ [(0, .v y65 r), (1, .v (.flt .f32) v)] [] _
  refine VC.seq (VC.text ?_)
  refine VO.new (.box) ?_
  refine VO.new (.box) ?_
  refine VO.c (.assign rfl) ?_
  refine VO.c (.assign rfl) ?_
  refine VO.go (VC.seq (VC.seq (VC.drawn ?_)))
  refine VD.r [] (.ld vt65) (.inl rfl) ?_
  refine VD.call rfl rfl (VF.call (gRec_ok (by first | assumption | omega | simp) (by first | assumption | omega | simp))) ?_
  refine VD.r [] (.ld vt59) (.inl rfl) ?_
  refine VD.call rfl rfl (VF.call (gLv_ok )) ?_
  refine VD.new (.lit [recE r, lvlE v] el164) ?_
  refine VD.callO rfl rfl (VF.call (gFirst_ok (by first | assumption | omega | simp))) ?_
  refine VD.nw [14] ?_
  refine VD.c (.assign rfl) ?_
  refine VD.go (VC.seq (VC.text ?_))
  refine VO.c (.move rfl) ?_
  refine VO.c (.neq) ?_
  refine VO.go ?_
  refine VC.condD rfl (fun c2 => ?_) (fun c2 => ?_)
  · refine VC.seq (VC.text ?_)
    refine VO.c (.move rfl) ?_
    refine VO.c (.assign rfl) ?_
    refine VO.c (.assign rfl) ?_
    refine VO.go ?_
    refine VC.ret ?_
    exact VEnd.two rfl (evC .nil) evT (pvE (by rw [abvE, abvC, if_pos c2])) (pvI (by rfl))
  have hz := firstE_zero.1 (Classical.not_not.1 c2)
  have hra := rec_ok (hz (recE r) (by simp))
  have hlv : lvlE v = 0 := hz (lvlE v) (by simp)
  have hrl := recL_len (r := r) (i := 0) rfl
  refine VC.skip (VC.seq (VC.text ?_))
  refine VO.cell (.alloc0 zt22) ?_
  intro ww1
  refine VO.go (VC.seq (VC.seq ?_))
  refine VC.nilRow 39 y39 ?_
  refine VC.text ?_
  refine VO.r (.ld vt65) ?_
  refine VO.call rfl rfl (VF.call (gRecd_ok )) ?_
  refine VO.go (VC.block ?_)
  refine VC.keep [(3, .p (.flt .f32) v), (7, .raw ww1), (20, .clo 148 [] [.p y65 r])] ⟨rfl, rfl, rfl, trivial⟩ ?_
  refine VC.rangeFunc rfl (gRecd1_ok (show r.2.2.1.length ≤ 4096 from hra.2.1) hgl hra.2.2.2.2) (fun _ => rfl) rfl rfl (fun rest ss => ∃ (gs : List (Int × Int)), ∃ (wg : Value), ss = [(wg, .row 39 y39 gs), (ww1, .var [.raw wg])] ∧ (rest.foldl (abS v) gs = (recL r 0).foldl (abS v) []) ∧ (∀ y ∈ rest, lvlE y.2 = 0 ∧ 0 ≤ y.1 ∧ y.1 < (r.2.2.1.length : Nat)) ∧ (gs.length + rest.length ≤ 4096)) (fun ee ss => False) ⟨[], (.slice none 0 0), rfl, (by rfl), (by exact recL_ok hra.2.2.2.1), (by (have := hra.2.1; simp; omega))⟩ ?_ ?_ ?_
  · rintro jj x rest _ ⟨gs, wg, rfl, hg, hm, hgn⟩
    show VC _ _ _ _ _ [(22, .v (.flt .f32) x.2), (21, I x.1), (3, .p (.flt .f32) v), (7, .raw ww1), (20, .clo 148 [] [.p y65 r])] [(wg, .row 39 y39 gs), (ww1, .var [.raw wg])] _
    refine VC.seq (VC.text ?_)
    have hx := hm x List.mem_cons_self
    have hgn2 := hgn
    rw [List.length_cons] at hgn2
    refine VO.c (.assign rfl) ?_
    refine VO.go (VC.text ?_)
    refine VO.c (.assign rfl) ?_
    refine VO.nil ?_
    refine ⟨rfl, ?_⟩
    refine VC.block (VC.seq (VC.text ?_))
    refine VO.c (.move rfl) ?_
    refine VO.r (.ld vt59) ?_
    refine VO.c (.fcmpD (b := .gtr) (gt_lv hx.1 hlv)) ?_
    refine VO.go ?_
    refine VC.condD rfl (fun c8 => ?_) (fun c8 => ?_)
    · refine VC.text ?_
      refine VO.r (.ldV m1 vt22AP) ?_
      refine VO.c (.move rfl) ?_
      refine VO.c (.move rfl) ?_
      refine VO.c (.add rfl rfl (by omega)) ?_
      refine VO.c (.build (x.1, (x.1 + (1 : Int))) bt39) ?_
      refine VO.new (.lit [(x.1, (x.1 + (1 : Int)))] el22) ?_
      refine VO.app rfl rfl el22 el22 (by simp; omega) ?_
      intro ww2
      refine VO.perm swap1 ?_
      refine VO.one m1 fun ho3 => ?_
      refine VO.setV (cs' := [.raw ww2]) vt22AP (.raw rfl (agg_one ho3) ho3) ?_
      refine VO.perm swap1 ?_
      refine VO.nil ?_
      exact .inl ⟨rfl, abS v gs x, ww2, (by first | (rw [abS, if_pos c8]; done) | (rw [abS, if_neg c8]; done)), (by exact hg), (by exact fun y hy => hm y (List.mem_cons_of_mem _ hy)), (by (have h1 := abS_len v gs x; have h2 := hgn; rw [List.length_cons] at h2; omega))⟩
    refine VC.skip ?_
    exact .inl ⟨rfl, abS v gs x, wg, (by first | (rw [abS, if_pos c8]; done) | (rw [abS, if_neg c8]; done)), (by exact hg), (by exact fun y hy => hm y (List.mem_cons_of_mem _ hy)), (by (have h1 := abS_len v gs x; have h2 := hgn; rw [List.length_cons] at h2; omega))⟩
  · rintro _ ⟨gs, wg, rfl, hg, hm, hgn⟩
    refine VC.seq (VC.text ?_)
    refine VO.r (.ldV m1 vt22AP) ?_
    refine VO.callG [(wg, .row 39 y39 gs)] rfl rfl rfl (VFG.call (gCanonO_ok (by have := hgn; rw [List.length_nil] at this; omega))) ?_
    rintro _ _ ⟨rfl, rfl⟩
    show VO _ _ _ _ _ _ [(ww1, .var [.raw wg])] _
    refine VO.c (.assign rfl) ?_
    refine VO.c (.assign rfl) ?_
    refine VO.go ?_
    refine VC.ret ?_
    exact VEnd.two rfl evT evT (pvE (by rw [abvE, abvC, if_neg c2, ← hg]; rfl)) (pvI (by exact (Classical.not_not.1 c2).symm))
  rintro _ _ _ ⟨⟩
end Go.Proofs
namespace Go.Proofs
open Go.Fs Ieee
set_option linter.unusedVariables false
set_option maxHeartbeats 400000
theorem vt37 : ValT Tryz.prog 37 y37 := valT_of (by kernel_rfl)
theorem zt37 : ZerT Tryz.prog 37 y37 := zerT_of (z := .slice none 0 0) (by kernel_rfl) rfl rfl
theorem zt156 : ZerT Tryz.prog 156 (.sl .bool) := zerT_of (z := .slice none 0 0) (by kernel_rfl) rfl rfl
def hiE (r : Rec1) (w : Int) (g i : Nat) (k0 : Int) : Nat → Bool
  | 0 => true
  | k + 1 => if k0 ≤ (k : Int) ∧ beatE r w g i k = true then false else hiE r w g i k0 k
theorem hiE_0 {r : Rec1} {w : Int} {g i : Nat} {k0 : Int} : ∀ k : Nat, (k : Int) ≤ k0 → hiE r w g i k0 k = true
  | 0, _ => rfl
  | k + 1, h => by
    unfold hiE
    rw [if_neg (fun hh => by have := hh.1; omega)]
    exact hiE_0 k (by omega)
theorem hiE_t {r : Rec1} {w : Int} {g i : Nat} {k0 : Int} {k : Nat} (h : k0 ≤ (k : Int)) (hb : beatE r w g i k = true) : hiE r w g i k0 (k + 1) = false := by unfold hiE; rw [if_pos ⟨h, hb⟩]
theorem hiE_f {r : Rec1} {w : Int} {g i : Nat} {k0 : Int} {k : Nat} (hb : beatE r w g i k = false) : hiE r w g i k0 (k + 1) = hiE r w g i k0 k := by
  show (if _ then _ else _) = _
  rw [if_neg (fun hh => by rw [hb] at hh; exact Bool.false_ne_true hh.2)]
theorem hiE_all {r : Rec1} {w : Int} {g i : Nat} {k0 : Int} : ∀ k : Nat, (hiE r w g i k0 k = true ↔ ∀ j : Nat, k0 ≤ (j : Int) → j < k → beatE r w g i j = false)
  | 0 => ⟨fun _ j _ h => absurd h (by omega), fun _ => rfl⟩
  | k + 1 => by
    unfold hiE
    by_cases hc : k0 ≤ (k : Int) ∧ beatE r w g i k = true
    · rw [if_pos hc]
      exact ⟨fun h => (by cases h), fun h => (by have := h k hc.1 (by omega); rw [hc.2] at this; cases this)⟩
    rw [if_neg hc, hiE_all k]
    refine ⟨fun h j h1 h2 => ?_, fun h j h1 h2 => h j h1 (by omega)⟩
    by_cases e : j = k
    · subst e
      cases hb : beatE r w g i j with
      | false => rfl
      | true => exact absurd ⟨h1, hb⟩ hc
    exact h j h1 (by omega)
theorem hi_water {r : Rec1} {w : Int} {g i k : Nat} (hw : 0 ≤ w) (hi : i < r.2.2.1.length) (hr : recB r i = true) (hk : (k : Int) = min (r.2.2.1.length : Int) ((i : Int) + w + 1)) : hiE r w g i (max 0 ((i : Int) - w)) k = waterE r w g i := by
  have hfar : ∀ j : Nat, j < r.2.2.1.length → ¬ (max 0 ((i : Int) - w) ≤ (j : Int) ∧ j < k) → beatE r w g i j = false := fun j hj hn => by
    unfold beatE nearE
    rw [Bool.and_eq_false_iff]
    refine .inr ?_
    rw [Bool.eq_false_iff]
    simp only [ne_eq, Bool.or_eq_true, Bool.and_eq_true, decide_eq_true_eq]
    omega
  cases hh : hiE r w g i (max 0 ((i : Int) - w)) k with
  | true =>
    have h1 := (hiE_all k).1 hh
    exact (water_f hr fun j hj => if hc : max 0 ((i : Int) - w) ≤ (j : Int) ∧ j < k then h1 j hc.1 hc.2 else hfar j hj hc).symm
  | false =>
    cases hw2 : waterE r w g i with
    | false => rfl
    | true =>
      have : hiE r w g i (max 0 ((i : Int) - w)) k = true := (hiE_all k).2 fun j h1 h2 => by
        cases hb : beatE r w g i j with
        | false => rfl
        | true => rw [water_t (show j < r.2.2.1.length by omega) hb] at hw2; cases hw2
      rw [hh] at this; cases this
def wtS (r : Rec1) (w : Int) (g : Nat) (gs : List Int) (x : Int × Nat) : List Int := if waterE r w g x.1.toNat = true then gs ++ [x.1] else gs
theorem wtS_len {r : Rec1} {w : Int} {g : Nat} (gs : List Int) (x : Int × Nat) : (wtS r w g gs x).length ≤ gs.length + 1 := by
  unfold wtS
  split
  · rw [List.length_append, List.length_singleton]; omega
  omega
theorem wt_fold {r : Rec1} {w : Int} {g : Nat} : ∀ {n i : Nat}, n = r.2.2.1.length - i → i ≤ r.2.2.1.length → (recL r i).foldl (wtS r w g) (watL r w g i) = watL r w g r.2.2.1.length
  | 0, i, hn, hi => by rw [recL_end (by omega), show i = r.2.2.1.length by omega] <;> rfl
  | n + 1, i, hn, hi => by
    have ih := wt_fold (r := r) (w := w) (g := g) (n := n) (i := i + 1) (by omega) (by omega)
    rw [recL_s (by omega)]
    by_cases hb : recB r i = true
    · rw [if_pos hb, List.foldl_cons]
      cases hc : waterE r w g i with
      | true =>
        rw [show wtS r w g (watL r w g i) ((i : Int), levE r i) = watL r w g (i + 1) by rw [watL_t hc]; exact if_pos hc]; exact ih
      | false =>
        rw [show wtS r w g (watL r w g i) ((i : Int), levE r i) = watL r w g (i + 1) by rw [watL_f hc]; exact if_neg (by show ¬ waterE r w g i = true; rw [hc]; exact Bool.false_ne_true)]; exact ih
    rw [if_neg hb]
    have hc : waterE r w g i = false := by unfold waterE; rw [show recB r i = false by simpa using hb] <;> rfl
    rw [← watL_f hc]; exact ih
def wtrC (r : Rec1) (w : Int) : Int := firstE [recE r, rangeE w 1 4096]
def wtrE (r : Rec1) (w : Int) (g : Nat) : List Int := if wtrC r w ≠ 0 then [] else watL r w g r.2.2.1.length
theorem range14 {w : Int} (h : rangeE w 1 4096 = 0) : 1 ≤ w ∧ w ≤ 4096 := by
  unfold rangeE at h
  split at h
  · cases h
  omega
theorem gWaters_ok {r : ByteArray × Int × (List Nat) × (List (Int × Int))} {w : Int} {g : Nat} (hl : r.2.2.1.length < 1000000) (hgl : r.2.2.2.length < 1000000) (hg : SgOk g) : VF Tryz.prog OA 111 [.v y65 r, I w, .v (.flt .f32) g] (.tup [.v y37 (wtrE r w g), I (wtrC r w)]) := by
  refine VF.enter Tryz.func111 rfl (fun _ _ => rfl) rfl ?_
  show VC _ _ _ _ _ [(0, .v y65 r), (1, I w), (2, .v (.flt .f32) g)] [] _
  refine VC.seq (VC.text ?_)
  refine VO.new (.box) ?_
  refine VO.new (.box) ?_
  refine VO.new (.box) ?_
  refine VO.c (.assign rfl) ?_
  refine VO.c (.assign rfl) ?_
  refine VO.go (VC.seq (VC.seq (VC.drawn ?_)))
  refine VD.r [] (.ld vt65) (.inl rfl) ?_
  refine VD.call rfl rfl (VF.call (gRec_ok (by first | assumption | omega | simp) (by first | assumption | omega | simp))) ?_
  refine VD.r [] (.ld vt3) (.inl rfl) ?_
  refine VD.call rfl rfl (VF.call (gWithin_ok )) ?_
  refine VD.new (.lit [recE r, rangeE w (1 : Int) (4096 : Int)] el164) ?_
  refine VD.callO rfl rfl (VF.call (gFirst_ok (by first | assumption | omega | simp))) ?_
  refine VD.nw [20] ?_
  refine VD.c (.assign rfl) ?_
  refine VD.go (VC.seq (VC.text ?_))
  refine VO.c (.move rfl) ?_
  refine VO.c (.neq) ?_
  refine VO.go ?_
  refine VC.condD rfl (fun c2 => ?_) (fun c2 => ?_)
  · refine VC.seq (VC.text ?_)
    refine VO.c (.move rfl) ?_
    refine VO.c (.assign rfl) ?_
    refine VO.c (.assign rfl) ?_
    refine VO.go ?_
    refine VC.ret ?_
    exact VEnd.two rfl (evC .nil) evT (pvE (by rw [wtrE, wtrC, if_pos c2])) (pvI (by rfl))
  have hz := firstE_zero.1 (Classical.not_not.1 c2)
  have hra := rec_ok (hz (recE r) (by simp))
  have hw := range14 (hz (rangeE w 1 4096) (by simp))
  have hrl := recL_len (r := r) (i := 0) rfl
  have htl := thereE_len (r := r)
  refine VC.skip (VC.seq (VC.text ?_))
  refine VO.r (.ld vt65) ?_
  refine VO.call rfl rfl (VF.call (gThere_ok (show r.2.2.1.length ≤ 4096 from hra.2.1) hgl hra.2.2.2.2)) ?_
  refine VO.cell (.alloc zt156) ?_
  intro ww1
  refine VO.setV (cs' := [.v (.sl .bool) (thereE r)]) vt156 .v ?_
  refine VO.shut [(9, .p (.sl .bool) (thereE r))] (.cons rfl (.var m0 .refl) .nil) ?_
  refine VO.go (VC.seq (VC.text ?_))
  refine VO.cell (.alloc0 zt37) ?_
  intro ww2
  refine VO.go (VC.seq (VC.seq ?_))
  refine VC.nilRow 3 (.int .i64) ?_
  refine VC.text ?_
  refine VO.r (.ld vt65) ?_
  refine VO.call rfl rfl (VF.call (gRecd_ok )) ?_
  refine VO.go (VC.block ?_)
  refine VC.keep [(3, .p y65 r), (4, .p (.int .i64) w), (5, .p (.flt .f32) g), (9, .p (.sl .bool) (thereE r)), (10, .raw ww2), (28, .clo 148 [] [.p y65 r])] ⟨rfl, rfl, rfl, rfl, rfl, rfl, trivial⟩ ?_
  refine VC.rangeFunc rfl (gRecd1_ok (show r.2.2.1.length ≤ 4096 from hra.2.1) hgl hra.2.2.2.2) (fun _ => rfl) rfl rfl (fun rest ss => ∃ (gs : List Int), ∃ (wg : Value), ss = [(wg, .row 3 (.int .i64) gs), (ww2, .var [.raw wg])] ∧ (rest.foldl (wtS r w g) gs = (recL r 0).foldl (wtS r w g) []) ∧ (∀ y ∈ rest, ∃ k : Nat, 0 ≤ k ∧ k < r.2.2.1.length ∧ recB r k = true ∧ y = ((k : Int), levE r k)) ∧ (gs.length + rest.length ≤ 4096)) (fun ee ss => False) ⟨[], (.slice none 0 0), rfl, (by rfl), (by exact recL_mem rfl), (by (have := hra.2.1; simp; omega))⟩ ?_ ?_ ?_
  · rintro jj x rest _ ⟨gs, wg, rfl, hgf, hm, hgn⟩
    show VC _ _ _ _ _ [(30, .v (.flt .f32) x.2), (29, I x.1), (3, .p y65 r), (4, .p (.int .i64) w), (5, .p (.flt .f32) g), (9, .p (.sl .bool) (thereE r)), (10, .raw ww2), (28, .clo 148 [] [.p y65 r])] [(wg, .row 3 (.int .i64) gs), (ww2, .var [.raw wg])] _
    refine VC.seq (VC.text ?_)
    obtain ⟨i, -, hin, hri, hxe⟩ := hm x List.mem_cons_self
    have hx1 : x.1 = (i : Int) := by rw [hxe]
    have hx2 : x.2 = r.2.2.1[i] := by rw [hxe]; exact levE_at hin
    have hxl : lvlE x.2 = 0 := by rw [hx2]; exact hra.2.2.2.1 _ (List.getElem_mem hin)
    have hgn2 := hgn
    rw [List.length_cons] at hgn2
    refine VO.c (.assign rfl) ?_
    refine VO.go (VC.text ?_)
    refine VO.c (.assign rfl) ?_
    refine VO.nil ?_
    refine ⟨rfl, ?_⟩
    refine VC.block (VC.seq (VC.text ?_))
    refine VO.c (.assign rfl) ?_
    refine VO.go (VC.seq (VC.seq (VC.text ?_)))
    refine VO.c (.move rfl) ?_
    refine VO.r (.ld vt3) ?_
    refine VO.c (.sub rfl rfl (by omega)) ?_
    refine VO.r (.max) ?_
    refine VO.c (.assign rfl) ?_
    refine VO.go (VC.block ?_)
    refine VC.keep [(3, .p y65 r), (4, .p (.int .i64) w), (5, .p (.flt .f32) g), (9, .p (.sl .bool) (thereE r)), (10, .raw ww2), (11, I x.1), (12, .v (.flt .f32) x.2), (13, B (hiE r w g i (max 0 ((i : Int) - w)) ((max 0 (x.1 - w)).toNat))), (14, I ((((max 0 (x.1 - w)).toNat) : Nat) : Int))] ⟨rfl, rfl, rfl, rfl, rfl, rfl, rfl, slE rfl (by exact (hiE_0 _ (by omega)).symm), slI rfl (by omega), trivial⟩ ?_
    refine VC.loop (I := fun kk ff ss => ∃ (k : Nat), kk = 5000 - k ∧ ff = [(3, .p y65 r), (4, .p (.int .i64) w), (5, .p (.flt .f32) g), (9, .p (.sl .bool) (thereE r)), (10, .raw ww2), (11, I x.1), (12, .v (.flt .f32) x.2), (13, B (hiE r w g i (max 0 ((i : Int) - w)) k)), (14, I ((k : Nat) : Int))] ∧ ss = [(wg, .row 3 (.int .i64) gs), (ww2, .var [.raw wg])] ∧ (max 0 ((i : Int) - w) ≤ (k : Int)) ∧ ((k : Int) ≤ min (r.2.2.1.length : Int) ((i : Int) + w + 1))) ?_ _ _ _ ⟨(max 0 (x.1 - w)).toNat, rfl, rfl, rfl, (by omega), (by omega)⟩
    rintro kk ff ss ⟨k, hk2, rfl, rfl, hk0, hk1⟩
    refine VC.seq (VC.seq (VC.text ?_))
    refine VO.c (.move rfl) ?_
    refine VO.r (.ld vt156) ?_
    refine VO.r (.len el156) ?_
    refine VO.c (.move rfl) ?_
    refine VO.r (.ld vt3) ?_
    refine VO.c (.add rfl rfl (by omega)) ?_
    refine VO.c (.add rfl rfl (by omega)) ?_
    refine VO.r (.min) ?_
    refine VO.c (.lss) ?_
    refine VO.go ?_
    refine VC.condD rfl (fun c11 => ?_) (fun c11 => ?_)
    · have hkl : k < r.2.2.1.length := by omega
      have hvk := hra.2.2.2.1 _ (List.getElem_mem hkl)
      have hth := thereE_at hkl (show k < (thereE r).length by omega)
      refine VC.skip (VC.seq (VC.block (VC.seq (VC.drawn ?_))))
      refine VD.c (.fa (.r (.r (.l .o)))) ?_
      refine VD.r [] (.ld vt53) (.inl rfl) ?_
      refine VD.c (.move rfl) ?_
      refine VD.c (.ix (j := k) rfl rfl el53 (by omega)) ?_
      refine VD.r [] (.ld vt59) (.inl rfl) ?_
      refine VD.r [] (.ld vt59) (.inl rfl) ?_
      refine VD.nw [] ?_
      refine VD.c (.fop (mul32E (mulR_ok hg hvk).1)) ?_
      refine VD.c (.assign rfl) ?_
      refine VD.go (VC.seq ?_)
      refine VC.join [(3, .p y65 r), (4, .p (.int .i64) w), (5, .p (.flt .f32) g), (9, .p (.sl .bool) (thereE r)), (10, .raw ww2), (11, I x.1), (12, .v (.flt .f32) x.2), (13, B (hiE r w g i (max 0 ((i : Int) - w)) k)), (14, I ((k : Nat) : Int)), (80, B (beatE r w g i k))] [(wg, .row 3 (.int .i64) gs), (ww2, .var [.raw wg])] ?_ ?_
      · skip
        refine VC.text ?_
        refine VO.r (.ld vt156) ?_
        refine VO.c (.move rfl) ?_
        refine VO.c (.ix (j := k) rfl rfl el156 (by omega)) ?_
        refine VO.r (.ld vt4) ?_
        refine VO.c (.move rfl) ?_
        refine VO.splitB (x := 57) rfl (fun g14_4 => ?_) (fun g14_4 => ?_)
        · refine VO.c (.move rfl) ?_
          refine VO.c (.move rfl) ?_
          refine VO.c (.lss) ?_
          refine VO.c (.move rfl) ?_
          refine VO.cg (r := decide (((k : Nat) : Int) < x.1)) (w := true) [] trivial (fun hgd => have g14_8 : ((k : Nat) : Int) < x.1 := (by simpa using hgd); (.move rfl)) ?_
          refine VO.cg (r := decide (((k : Nat) : Int) < x.1)) (w := true) [] trivial (fun hgd => have g14_8 : ((k : Nat) : Int) < x.1 := (by simpa using hgd); (.move rfl)) ?_
          refine VO.rg (r := decide (((k : Nat) : Int) < x.1)) (w := true) [] trivial (fun hgd => have g14_8 : ((k : Nat) : Int) < x.1 := (by simpa using hgd); (.ld vt59)) ?_
          refine VO.cg (r := decide (((k : Nat) : Int) < x.1)) (w := true) [(63, .v (.flt .f32) x.2), (64, .v (.flt .f32) g)] ⟨rfl, rfl, trivial⟩ (fun hgd => have g14_8 : ((k : Nat) : Int) < x.1 := (by simpa using hgd); (.fop (mul32E (mulR_ok hg hxl).1))) ?_
          refine VO.cg (r := decide (((k : Nat) : Int) < x.1)) (w := true) [(62, .v (.flt .f32) (mulR g r.2.2.1[k])), (65, .v (.flt .f32) (mulR g x.2))] ⟨rfl, rfl, trivial⟩ (fun hgd => have g14_8 : ((k : Nat) : Int) < x.1 := (by simpa using hgd); (.fcmpD (b := .geq) (ge_R hg hxl hvk))) ?_
          refine VO.c (.and) ?_
          refine VO.c (.move rfl) ?_
          refine VO.splitB (x := 68) rfl (fun g14_15 => ?_) (fun g14_15 => ?_)
          · try simp only [Bool.and_eq_true, Bool.or_eq_true, Bool.and_eq_false_iff, Bool.or_eq_false_iff, Bool.not_eq_true', Bool.not_eq_false', decide_eq_true_eq, decide_eq_false_iff_not] at g14_15
            refine VO.skip ?_
            refine VO.skip ?_
            refine VO.skip ?_
            refine VO.skip ?_
            refine VO.skip ?_
            refine VO.skip ?_
            refine VO.skip ?_
            refine VO.skip ?_
            refine VO.skip ?_
            refine VO.skip ?_
            refine VO.c (.pickT rfl rfl) ?_
            refine VO.c (.pickT rfl rfl) ?_
            refine VO.nil ?_
            exact ⟨⟨rfl, rfl, rfl, rfl, rfl, rfl, rfl, rfl, rfl, slE rfl (by rw [Bool.eq_iff_iff]; unfold beatE; rw [nearE_at hin hkl, ← hth, ← hx2]; cases hbt : (thereE r)[k] <;> simp only [Bool.true_eq_false, Bool.false_and, Bool.true_and, Bool.and_eq_true, Bool.or_eq_true, decide_eq_true_eq, Bool.false_eq_true, true_iff, false_iff, iff_true, iff_false, false_and, true_and, not_false_eq_true] <;> first | omega | (simp_all; done) | (simp_all; omega)), trivial⟩, rfl⟩
          try simp only [Bool.and_eq_true, Bool.or_eq_true, Bool.and_eq_false_iff, Bool.or_eq_false_iff, Bool.not_eq_true', Bool.not_eq_false', decide_eq_true_eq, decide_eq_false_iff_not] at g14_15
          refine VO.c (.move rfl) ?_
          refine VO.c (.move rfl) ?_
          refine VO.c (.gtr) ?_
          refine VO.c (.move rfl) ?_
          refine VO.cg (r := decide (x.1 < ((k : Nat) : Int))) (w := true) [] trivial (fun hgd => have g14_19 : x.1 < ((k : Nat) : Int) := (by simpa using hgd); (.move rfl)) ?_
          refine VO.cg (r := decide (x.1 < ((k : Nat) : Int))) (w := true) [] trivial (fun hgd => have g14_19 : x.1 < ((k : Nat) : Int) := (by simpa using hgd); (.move rfl)) ?_
          refine VO.rg (r := decide (x.1 < ((k : Nat) : Int))) (w := true) [] trivial (fun hgd => have g14_19 : x.1 < ((k : Nat) : Int) := (by simpa using hgd); (.ld vt59)) ?_
          refine VO.cg (r := decide (x.1 < ((k : Nat) : Int))) (w := true) [(74, .v (.flt .f32) x.2), (75, .v (.flt .f32) g)] ⟨rfl, rfl, trivial⟩ (fun hgd => have g14_19 : x.1 < ((k : Nat) : Int) := (by simpa using hgd); (.fop (mul32E (mulR_ok hg hxl).1))) ?_
          refine VO.cg (r := decide (x.1 < ((k : Nat) : Int))) (w := true) [(73, .v (.flt .f32) (mulR g r.2.2.1[k])), (76, .v (.flt .f32) (mulR g x.2))] ⟨rfl, rfl, trivial⟩ (fun hgd => have g14_19 : x.1 < ((k : Nat) : Int) := (by simpa using hgd); (.fcmpD (b := .gtr) (gt_R hg hxl hvk))) ?_
          refine VO.c (.and) ?_
          refine VO.c (.pickF rfl rfl) ?_
          refine VO.c (.pickT rfl rfl) ?_
          refine VO.nil ?_
          exact ⟨⟨rfl, rfl, rfl, rfl, rfl, rfl, rfl, rfl, rfl, slE rfl (by rw [Bool.eq_iff_iff]; unfold beatE; rw [nearE_at hin hkl, ← hth, ← hx2]; cases hbt : (thereE r)[k] <;> simp only [Bool.true_eq_false, Bool.false_and, Bool.true_and, Bool.and_eq_true, Bool.or_eq_true, decide_eq_true_eq, Bool.false_eq_true, true_iff, false_iff, iff_true, iff_false, false_and, true_and, not_false_eq_true] <;> first | omega | (simp_all; done) | (simp_all; omega)), trivial⟩, rfl⟩
        refine VO.skip ?_
        refine VO.skip ?_
        refine VO.skip ?_
        refine VO.skip ?_
        refine VO.skip ?_
        refine VO.skip ?_
        refine VO.skip ?_
        refine VO.skip ?_
        refine VO.skip ?_
        refine VO.skip ?_
        refine VO.skip ?_
        refine VO.skip ?_
        refine VO.skip ?_
        refine VO.skip ?_
        refine VO.skip ?_
        refine VO.skip ?_
        refine VO.skip ?_
        refine VO.skip ?_
        refine VO.skip ?_
        refine VO.skip ?_
        refine VO.skip ?_
        refine VO.skip ?_
        refine VO.c (.pickF rfl rfl) ?_
        refine VO.nil ?_
        exact ⟨⟨rfl, rfl, rfl, rfl, rfl, rfl, rfl, rfl, rfl, slE rfl (by rw [Bool.eq_iff_iff]; unfold beatE; rw [nearE_at hin hkl, ← hth, ← hx2]; cases hbt : (thereE r)[k] <;> simp only [Bool.true_eq_false, Bool.false_and, Bool.true_and, Bool.and_eq_true, Bool.or_eq_true, decide_eq_true_eq, Bool.false_eq_true, true_iff, false_iff, iff_true, iff_false, false_and, true_and, not_false_eq_true] <;> first | omega | (simp_all; done) | (simp_all; omega)), trivial⟩, rfl⟩
      refine VC.condB rfl (fun c14 => ?_) (fun c14 => ?_)
      · refine VC.text ?_
        refine VO.c (.assign rfl) ?_
        refine VO.nil (VC.text ?_)
        refine VO.c (.move rfl) ?_
        refine VO.c (.add rfl rfl (by omega)) ?_
        refine VO.c (.assign rfl) ?_
        refine VO.nil ?_
        refine ⟨_, [(3, .p y65 r), (4, .p (.int .i64) w), (5, .p (.flt .f32) g), (9, .p (.sl .bool) (thereE r)), (10, .raw ww2), (11, I x.1), (12, .v (.flt .f32) x.2), (13, B (hiE r w g i (max 0 ((i : Int) - w)) (k + 1))), (14, I (((k + 1) : Nat) : Int))], ?_, ⟨rfl, rfl, rfl, rfl, rfl, rfl, rfl, slE rfl (by first | exact (hiE_t hk0 c14).symm | exact (hiE_f c14).symm), rfl, trivial⟩, (k + 1), rfl, rfl, rfl, (by omega), (by omega)⟩
        omega
      refine VC.skip (VC.text ?_)
      refine VO.c (.move rfl) ?_
      refine VO.c (.add rfl rfl (by omega)) ?_
      refine VO.c (.assign rfl) ?_
      refine VO.nil ?_
      refine ⟨_, [(3, .p y65 r), (4, .p (.int .i64) w), (5, .p (.flt .f32) g), (9, .p (.sl .bool) (thereE r)), (10, .raw ww2), (11, I x.1), (12, .v (.flt .f32) x.2), (13, B (hiE r w g i (max 0 ((i : Int) - w)) (k + 1))), (14, I (((k + 1) : Nat) : Int))], ?_, ⟨rfl, rfl, rfl, rfl, rfl, rfl, rfl, slE rfl (by first | exact (hiE_t hk0 c14).symm | exact (hiE_f c14).symm), rfl, trivial⟩, (k + 1), rfl, rfl, rfl, (by omega), (by omega)⟩
      omega
    refine VC.exit (VC.seq (VC.text ?_))
    have hwt := hi_water (r := r) (w := w) (g := g) (i := i) (k := k) (by omega) hin hri (by omega)
    refine VO.c (.move rfl) ?_
    refine VO.go ?_
    refine VC.condB rfl (fun c16 => ?_) (fun c16 => ?_)
    · have hc : waterE r w g x.1.toNat = true := by rw [hx1]; show waterE r w g i = true; rw [← hwt]; exact c16
      refine VC.text ?_
      refine VO.r (.ldV m1 vt37) ?_
      refine VO.c (.move rfl) ?_
      refine VO.new (.lit [x.1] el37) ?_
      refine VO.app rfl rfl el37 el37 (by simp; omega) ?_
      intro ww3
      refine VO.perm swap1 ?_
      refine VO.one m1 fun ho4 => ?_
      refine VO.setV (cs' := [.raw ww3]) vt37 (.raw rfl (agg_one ho4) ho4) ?_
      refine VO.perm swap1 ?_
      refine VO.nil ?_
      exact .inl ⟨rfl, wtS r w g gs x, ww3, (by first | (rw [wtS, if_pos hc]; done) | (rw [wtS, if_neg hc]; done)), (by exact hgf), (by exact fun y hy => hm y (List.mem_cons_of_mem _ hy)), (by (have h1 := wtS_len (r := r) (w := w) (g := g) gs x; have h2 := hgn; rw [List.length_cons] at h2; omega))⟩
    have hc : ¬ waterE r w g x.1.toNat = true := by rw [hx1]; show ¬ waterE r w g i = true; rw [← hwt, c16]; exact Bool.false_ne_true
    refine VC.skip ?_
    exact .inl ⟨rfl, wtS r w g gs x, wg, (by first | (rw [wtS, if_pos hc]; done) | (rw [wtS, if_neg hc]; done)), (by exact hgf), (by exact fun y hy => hm y (List.mem_cons_of_mem _ hy)), (by (have h1 := wtS_len (r := r) (w := w) (g := g) gs x; have h2 := hgn; rw [List.length_cons] at h2; omega))⟩
  · rintro _ ⟨gs, wg, rfl, hgf, hm, hgn⟩
    refine VC.seq (VC.text ?_)
    refine VO.r (.ldV m1 vt37) ?_
    refine VO.c (.assign rfl) ?_
    refine VO.c (.assign rfl) ?_
    refine VO.go ?_
    refine VC.ret ?_
    exact VEnd.two rfl (evC (.row m0)) evT (pvE (by rw [wtrE, wtrC, if_neg c2, ← wt_fold (r := r) (w := w) (g := g) rfl (Nat.zero_le _)]; exact hgf)) (pvI (by exact (Classical.not_not.1 c2).symm))
  rintro _ _ _ ⟨⟩
end Go.Proofs
namespace Go.Fs
variable {P : Program} {h : Heap} {S : List Nat}
def eqE : (τ : Ty) → τ.den → τ.den → Bool
  | .int _, x, y => (show Int from x) == (show Int from y)
  | .bool, x, y => (show Bool from x) == (show Bool from y)
  | .str, x, y => decide ((show ByteArray from x) = (show ByteArray from y))
  | .flt k, x, y => Op.floatEq k x y
  | .unit, _, _ => true
  | .pair a b, x, y => eqE a x.1 y.1 && eqE b x.2 y.2
  | _, _, _ => false
def eqW (P : Program) : Nat → Ty → TypeId → Bool
  | 0, _, _ => false
  | d + 1, τ, T => valB P T τ && match P.underlying T, τ with
    | some (.int k), .int k' => k == k'
    | some .bool, .bool => true
    | some .string, .str => true
    | some (.float k), .flt k' => k == k'
    | some (.struct fs), .pair a b => !P.stoodInHeld T && eqF (eqW P d) fs.toList 0 (.pair a b)
    | _, _ => false
theorem fields_eqE {E : Ty → TypeId → Bool} {n : Nat} {cs ds : Array Value} (hE : ∀ τ T, E τ T = true → ValT P T τ ∧ ∀ (u v : Value) (x y : τ.den), RepV h S τ u x → RepV h S τ v y → runPure P (Op.equalIn n T u v) = some (eqE τ x y)) :
    ∀ (l : List Field) (o : Nat) (τ : Ty) (x y : τ.den), eqF E l o τ = true → RepC h S τ (cs.toList.drop o) x → RepC h S τ (ds.toList.drop o) y →
    runPure P (forIn l (none, ()) fun f __s =>
            if f.name ≠ "_" then do
              let __do_lift ← part f.type cs f.offset
              let __do_lift_1 ← part f.type ds f.offset
              let __do_lift ← Op.equalIn n f.type __do_lift __do_lift_1
              if (!__do_lift) = true then pure (ForInStep.done (some false, ())) else pure (ForInStep.yield (none, ()))
            else pure (ForInStep.yield (none, ()))) = some (if eqE τ x y = true then ((none : Option Bool), ()) else (some false, ())) := by
  intro l
  have key : ∀ (f : Field) (r : List Field) (o : Nat) (τ : Ty) (x y : τ.den) (R : Option (Option Bool × Unit)), (!(f.name == "_")) = true → Nat.beq f.offset o = true → E τ f.type = true → RepC h S τ ((cs.toList.drop o).take τ.size) x → RepC h S τ ((ds.toList.drop o).take τ.size) y →
      runPure P (forIn (f :: r) (none, ()) fun f __s =>
            if f.name ≠ "_" then do
              let __do_lift ← part f.type cs f.offset
              let __do_lift_1 ← part f.type ds f.offset
              let __do_lift ← Op.equalIn n f.type __do_lift __do_lift_1
              if (!__do_lift) = true then pure (ForInStep.done (some false, ())) else pure (ForInStep.yield (none, ()))
            else pure (ForInStep.yield (none, ()))) = if eqE τ x y = true then runPure P (forIn r (none, ()) fun f __s =>
            if f.name ≠ "_" then do
              let __do_lift ← part f.type cs f.offset
              let __do_lift_1 ← part f.type ds f.offset
              let __do_lift ← Op.equalIn n f.type __do_lift __do_lift_1
              if (!__do_lift) = true then pure (ForInStep.done (some false, ())) else pure (ForInStep.yield (none, ()))
            else pure (ForInStep.yield (none, ()))) else some (some false, ()) := by
    intro f r o τ x y R n1 n2 n3 r1 r2
    obtain ⟨hT, hq⟩ := hE _ _ n3
    obtain ⟨u, u1, u2⟩ := part_rep hT r1
    obtain ⟨v, v1, v2⟩ := part_rep hT r2
    have hn : f.name ≠ "_" := by simpa using n1
    have ho := nbeq n2
    rw [List.forIn_cons]
    simp only [hn, ne_eq, not_false_eq_true, if_true, runPure_bind, ho, u1, v1, Option.bind_some, hq u v x y u2 v2]
    cases he : eqE τ x y <;> simp [runPure_pure, runPure_bind]
  induction l with
  | nil =>
    intro o τ x y hb hx hy
    cases τ <;> first | (cases hb; done) | skip
    simp [runPure_pure, eqE]
  | cons f r ih =>
    intro o τ x y hb hx hy
    by_cases hp : (∀ a b, τ ≠ .pair a b) ∨ (r = [] ∧ (!(f.name == "_")) = true ∧ Nat.beq f.offset o = true ∧ E τ f.type = true)
    · have hs : r = [] ∧ (!(f.name == "_")) = true ∧ Nat.beq f.offset o = true ∧ E τ f.type = true := by
        rcases hp with hp | hp
        · cases τ with
          | pair a b => exact absurd rfl (hp a b)
          | _ =>
            cases r with
            | cons f' r => cases hb
            | nil =>
              obtain ⟨n1, n3⟩ := band (show (!(f.name == "_") && Nat.beq f.offset o && E _ f.type) = true from hb)
              obtain ⟨n1, n2⟩ := band n1
              exact ⟨rfl, n1, n2, n3⟩
        exact hp
      obtain ⟨rfl, n1, n2, n3⟩ := hs
      rw [key f [] o τ x y none n1 n2 n3 (by rw [List.take_of_length_le (Nat.le_of_eq hx.len)]; exact hx) (by rw [List.take_of_length_le (Nat.le_of_eq hy.len)]; exact hy)]
      cases he : eqE τ x y <;> simp [runPure_pure]
    cases τ with
    | pair a b =>
      have hb2 : ((!(f.name == "_") && Nat.beq f.offset o && E a f.type && eqF E r (o + a.size) b) || (r.isEmpty && !(f.name == "_") && Nat.beq f.offset o && E (.pair a b) f.type)) = true := hb
      rcases Bool.or_eq_true_iff.1 hb2 with h1 | h1
      · obtain ⟨h1, n4⟩ := band h1
        obtain ⟨h1, n3⟩ := band h1
        obtain ⟨n1, n2⟩ := band h1
        rw [key f r o a x.1 y.1 none n1 n2 n3 hx.1 hy.1]
        have h2 := ih (o + a.size) b x.2 y.2 n4 (by rw [← List.drop_drop]; exact hx.2) (by rw [← List.drop_drop]; exact hy.2)
        rw [h2]
        show (if eqE a x.1 y.1 = true then some (if eqE b x.2 y.2 = true then _ else _) else _) = some (if (eqE a x.1 y.1 && eqE b x.2 y.2) = true then _ else _)
        cases eqE a x.1 y.1 <;> cases eqE b x.2 y.2 <;> rfl
      obtain ⟨h1, n3⟩ := band h1
      obtain ⟨h1, n2⟩ := band h1
      obtain ⟨h1, n1⟩ := band h1
      exact absurd (.inr ⟨by simpa using h1, n1, n2, n3⟩) hp
    | _ => exact absurd (.inl fun _ _ h => by cases h) hp
theorem eqW_ok : ∀ (d : Nat) (τ : Ty) (T : TypeId), eqW P d τ T = true → ∀ (D : Nat) (u v : Value) (x y : τ.den), RepV h S τ u x → RepV h S τ v y → runPure P (Op.equalIn (D + d) T u v) = some (eqE τ x y) := by
  intro d
  induction d with
  | zero => intro τ T hb; cases hb
  | succ d ih =>
    intro τ T hb D u v x y hu hv
    unfold eqW at hb
    obtain ⟨hvt, hb⟩ := band hb
    cases hU : P.underlying T with
    | none => simp only [hU] at hb; cases hb
    | some dsc =>
      simp only [hU] at hb
      cases τ <;> cases dsc <;> try (cases hb; done)
      · rename_i k _ k'
        obtain rfl : k = k' := by
          have : (k' == k) = true := hb
          exact (by simpa using this : k' = k).symm
        obtain rfl := RepV.int hu
        obtain rfl := RepV.int hv
        rw [show D + (d + 1) = (D + d) + 1 from rfl, Op.equalIn, runPure_bind, runPure_underlying hU]
        simp only [Option.bind_some, if_true]
        rfl
      · obtain rfl := RepV.bool hu
        obtain rfl := RepV.bool hv
        rw [show D + (d + 1) = (D + d) + 1 from rfl, Op.equalIn, runPure_bind, runPure_underlying hU]
        simp only [Option.bind_some]
        rfl
      · obtain rfl := RepV.str hu
        obtain rfl := RepV.str hv
        rw [show D + (d + 1) = (D + d) + 1 from rfl, Op.equalIn, runPure_bind, runPure_underlying hU]
        simp only [Option.bind_some]
        show some (_ == _) = some (decide (x = y))
        by_cases he : x = y
        · rw [decide_eq_true he]; exact congrArg some (bytes_beq_t he)
        rw [decide_eq_false he]; exact congrArg some (bytes_beq_f he)
      · rename_i k _ k'
        obtain rfl : k = k' := by
          have : (k' == k) = true := hb
          exact (by simpa using this : k' = k).symm
        obtain rfl := RepV.flt hu
        obtain rfl := RepV.flt hv
        rw [show D + (d + 1) = (D + d) + 1 from rfl, Op.equalIn, runPure_bind, runPure_underlying hU]
        simp only [Option.bind_some, if_true]
        rfl
      rename_i a b fs
      obtain ⟨h1, h2⟩ := band hb
      have hs : P.stoodInHeld T = false := by simpa using h1
      obtain ⟨cs, rfl⟩ : ∃ cs, u = .agg cs := by
        have := hu.1
        cases u <;> first | exact ⟨_, rfl⟩ | cases this
      obtain ⟨ds, rfl⟩ : ∃ cs, v = .agg cs := by
        have := hv.1
        cases v <;> first | exact ⟨_, rfl⟩ | cases this
      rw [show D + (d + 1) = (D + d) + 1 from rfl, Op.equalIn]
      rw [runPure_bind, runPure_underlying hU]
      simp only [Option.bind_some, runPure_bind, runPure_program, hs, Bool.false_eq_true, if_false]
      simp only [← Array.forIn_toList]
      have hF := fields_eqE (h := h) (S := S) (cs := cs) (ds := ds) (n := D + d) (fun τ T hb => ⟨valT_of ?_, fun u v x y => ih τ T hb D u v x y⟩) fs.toList 0 _ x y h2 hu.2 hv.2
      · rw [hF]
        cases he : eqE _ x y <;> simp [runPure_pure]
      cases d with
      | zero => cases hb
      | succ d => unfold eqW at hb; exact (band hb).1
variable {fl : VL} {σ : Sto} {x y : Operand} {T T' : TypeId} {τ : Ty}
theorem CalmV.eeqW {p q : τ.den} (hb : (eqW P 40 τ T && !P.eqGuardType P.depth T && τ.agg && τ.isFlat) = true) (hx : evV fl x = some (.v τ p) := by rfl) (hy : evV fl y = some (.v τ q) := by rfl) : CalmV P fl σ (.binOp .eql T x y T') (.v .bool (eqE τ p q)) :=
  .bin hx hy fun h S a c ha hc => by
    obtain ⟨hb, b4⟩ := band hb
    obtain ⟨hb, b3⟩ := band hb
    obtain ⟨b1, b2⟩ := band hb
    have b2 : P.eqGuardType P.depth T = false := by simpa using b2
    have h1 : runPure P (Op.equal T a c) = some (eqE τ p q) := eqW_ok 40 τ T b1 9960 a c p q ha hc
    obtain ⟨cs, rfl⟩ := aggOf b3 ha
    obtain ⟨ds, rfl⟩ := aggOf b3 hc
    refine ⟨.bool (eqE τ p q), RepV.ofBool _, ?_, ?_⟩
    · rw [(RepPV.flat (pv := .v τ p) b4 ha).1, (RepPV.flat (pv := .v τ q) b4 hc).1]; rfl
    have he : runPure P (eqGuard .eql T x y (.agg cs) (.agg ds)) = some () := by
      unfold eqGuard
      simp [runPure_bind, runPure_program, b2, runPure_pure]
    have hb : runPure P (binOp .eql T (.agg cs) (.agg ds)) = some (.bool (eqE τ p q)) := by
      unfold binOp
      simp only [runPure_bind, h1, Option.bind_some, runPure_pure]
    unfold purely
    rw [runPure_bind, he]
    simp only [Option.bind_some, hb]; rfl
def fminE (p q : Nat) : Nat := match Ieee.single.order p q with
  | some .lt => p
  | some .gt => q
  | _ => if (FloatKind.f32.decode p).neg then p else q
def fmaxE (p q : Nat) : Nat := match Ieee.single.order p q with
  | some .lt => q
  | some .gt => p
  | _ => if (FloatKind.f32.decode p).neg then q else p
theorem ReadV.fmin {a : Array TypeId} {p q : Nat} {c : Ordering} (ho : Ieee.single.order p q = some c) (hx : evV fl x = some (.v (.flt .f32) p) := by rfl) (hy : evV fl y = some (.v (.flt .f32) q) := by rfl) : ReadV P fl σ (.call { callee := .builtin .min, args := #[x, y], argTypes := a }) (.v (.flt .f32) (fminE p q)) :=
  ⟨rfl, fun h S t hs _ => by
    have h1 := RepV.flt (hs x (by simp [Op.operands, Call.operands]) _ hx)
    have h2 := RepV.flt (hs y (by simp [Op.operands, Call.operands]) _ hy)
    refine ⟨_, RepV.ofFlt _ _, fun H _ d ty pos after g => ?_⟩
    show (if [evalO t x, evalO t y].all af = true then (purely P (Builtin.min_ a ty [evalO t x, evalO t y].toArray)).map fun v => (v, H) else none) = _
    rw [h1, h2]
    have ho' : FloatKind.f32.format.order p q = some c := ho
    have : (purely P (Builtin.min_ a ty [Value.float .f32 p, Value.float .f32 q].toArray)) = some (.float .f32 (fminE p q)) := by
      unfold fminE
      rw [ho]
      simp only [Builtin.min_, List.foldlM, Builtin.min2, ho']
      cases c <;> rfl
    rw [this]; rfl⟩
theorem ReadV.fmax {a : Array TypeId} {p q : Nat} {c : Ordering} (ho : Ieee.single.order p q = some c) (hx : evV fl x = some (.v (.flt .f32) p) := by rfl) (hy : evV fl y = some (.v (.flt .f32) q) := by rfl) : ReadV P fl σ (.call { callee := .builtin .max, args := #[x, y], argTypes := a }) (.v (.flt .f32) (fmaxE p q)) :=
  ⟨rfl, fun h S t hs _ => by
    have h1 := RepV.flt (hs x (by simp [Op.operands, Call.operands]) _ hx)
    have h2 := RepV.flt (hs y (by simp [Op.operands, Call.operands]) _ hy)
    refine ⟨_, RepV.ofFlt _ _, fun H _ d ty pos after g => ?_⟩
    show (if [evalO t x, evalO t y].all af = true then (purely P (Builtin.max_ a ty [evalO t x, evalO t y].toArray)).map fun v => (v, H) else none) = _
    rw [h1, h2]
    have ho' : FloatKind.f32.format.order p q = some c := ho
    have : (purely P (Builtin.max_ a ty [Value.float .f32 p, Value.float .f32 q].toArray)) = some (.float .f32 (fmaxE p q)) := by
      unfold fmaxE
      rw [ho]
      simp only [Builtin.max_, List.foldlM, Builtin.max2, ho']
      cases c <;> rfl
    rw [this]; rfl⟩
end Go.Fs
namespace Go.Proofs
open Go.Fs Ieee
set_option linter.unusedVariables false
set_option maxHeartbeats 400000
abbrev y98 : Ty := (.pair (.int .i64) (.pair (.int .i64) (.pair (.flt .f32) (.flt .f32))))
theorem vt98 : ValT Tryz.prog 98 y98 := valT_of (by kernel_rfl)
theorem zt98 : ZerT Tryz.prog 98 y98 := zerT_of (z := .agg #[.int .i64 0, .int .i64 0, .float .f32 0, .float .f32 0]) (by kernel_rfl) rfl rfl
theorem bt98 : BldT Tryz.prog 98 y98 [(0, 1), (1, 1), (2, 1), (3, 1)] := bldT_of zt98 rfl (by kernel_rfl)
theorem gHighs_ok {r : ByteArray × Int × (List Nat) × (List (Int × Int))} {w : Int} (hl : r.2.2.1.length < 1000000) (hgl : r.2.2.2.length < 1000000) : VF Tryz.prog OA 58 [.v y65 r, I w] (.tup [.v y37 (wtrE r w 1065353216), I (wtrC r w)]) := by
  refine VF.enter Tryz.func58 rfl (fun _ _ => rfl) rfl ?_
  show VC _ _ _ _ _ [(0, .v y65 r), (1, I w)] [] _
  refine VC.seq (VC.text ?_)
  refine VO.new (.box) ?_
  refine VO.c (.assign rfl) ?_
  refine VO.c (.assign rfl) ?_
  refine VO.go (VC.seq (VC.text ?_))
  refine VO.r (.ld vt65) ?_
  refine VO.c (.move rfl) ?_
  refine VO.call rfl rfl (VF.call (gWaters_ok hl hgl (.inl rfl))) ?_
  refine VO.c (.extract) ?_
  refine VO.c (.extract) ?_
  refine VO.c (.assign rfl) ?_
  refine VO.c (.assign rfl) ?_
  refine VO.go ?_
  refine VC.ret ?_
  exact VEnd.two rfl evT evT (pvE (by rfl)) (pvI (by rfl))
theorem gLows_ok {r : ByteArray × Int × (List Nat) × (List (Int × Int))} {w : Int} (hl : r.2.2.1.length < 1000000) (hgl : r.2.2.2.length < 1000000) : VF Tryz.prog OA 59 [.v y65 r, I w] (.tup [.v y37 (wtrE r w 3212836864), I (wtrC r w)]) := by
  refine VF.enter Tryz.func59 rfl (fun _ _ => rfl) rfl ?_
  show VC _ _ _ _ _ [(0, .v y65 r), (1, I w)] [] _
  refine VC.seq (VC.text ?_)
  refine VO.new (.box) ?_
  refine VO.c (.assign rfl) ?_
  refine VO.c (.assign rfl) ?_
  refine VO.go (VC.seq (VC.text ?_))
  refine VO.r (.ld vt65) ?_
  refine VO.c (.move rfl) ?_
  refine VO.call rfl rfl (VF.call (gWaters_ok hl hgl (.inr rfl))) ?_
  refine VO.c (.extract) ?_
  refine VO.c (.extract) ?_
  refine VO.c (.assign rfl) ?_
  refine VO.c (.assign rfl) ?_
  refine VO.go ?_
  refine VC.ret ?_
  exact VEnd.two rfl evT evT (pvE (by rfl)) (pvI (by rfl))
abbrev Sta := Int × Int × Nat × Nat
def loS (S : Sta) (x : Nat) : Nat := if S.1 = 0 ∨ sxE x < sxE S.2.2.1 then x else S.2.2.1
def hiS (S : Sta) (x : Nat) : Nat := if S.1 = 0 ∨ sxE S.2.2.2 < sxE x then x else S.2.2.2
def sumS (S : Sta) (x : Nat) : Sta := (S.1 + 1, S.2.1 + sxE x, loS S x, hiS S x)
def refS (r : Rec1) : Nat → Sta
  | 0 => (0, 0, 0, 0)
  | i + 1 => if recB r i = true then sumS (refS r i) (levE r i) else refS r i
theorem refS_t {r : Rec1} {i : Nat} (h : recB r i = true) : refS r (i + 1) = sumS (refS r i) (levE r i) := by
  show (if _ then _ else _) = _
  rw [if_pos h]
theorem refS_f {r : Rec1} {i : Nat} (h : recB r i = false) : refS r (i + 1) = refS r i := by
  show (if _ then _ else _) = _
  rw [if_neg (by rw [h]; exact Bool.false_ne_true)]
theorem lv_0 : lvlE 0 = 0 := by decide +kernel
def StaOk (i : Nat) (S : Sta) : Prop := 0 ≤ S.1 ∧ S.1 ≤ (i : Int) ∧ -(1024 * (i : Int)) ≤ S.2.1 ∧ S.2.1 ≤ 1024 * (i : Int) ∧ lvlE S.2.2.1 = 0 ∧ lvlE S.2.2.2 = 0
theorem sta_step {i : Nat} {S : Sta} {x : Nat} (h : StaOk i S) (hx : lvlE x = 0) : StaOk (i + 1) (sumS S x) := by
  obtain ⟨h1, h2, h3, h4, h5, h6⟩ := h
  obtain ⟨g1, g2, g3⟩ := lvl_ok hx
  refine ⟨?_, ?_, ?_, ?_, ?_, ?_⟩
  · show 0 ≤ S.1 + 1; omega
  · show S.1 + 1 ≤ _; omega
  · show _ ≤ S.2.1 + sxE x; omega
  · show S.2.1 + sxE x ≤ _; omega
  · show lvlE (loS S x) = 0
    unfold loS; split
    · exact hx
    exact h5
  show lvlE (hiS S x) = 0
  unfold hiS; split
  · exact hx
  exact h6
theorem refS_ok {r : Rec1} (hv : ∀ x ∈ r.2.2.1, lvlE x = 0) : ∀ i : Nat, i ≤ r.2.2.1.length → StaOk i (refS r i)
  | 0, _ => ⟨Int.le_refl _, Int.le_refl _, Int.le_refl _, Int.le_refl _, lv_0, lv_0⟩
  | i + 1, h => by
    have ih := refS_ok hv i (by omega)
    cases hb : recB r i with
    | true =>
      rw [refS_t hb]
      refine sta_step ih ?_
      rw [levE_at (show i < r.2.2.1.length by omega)]
      exact hv _ (List.getElem_mem _)
    | false =>
      rw [refS_f hb]
      obtain ⟨h1, h2, h3, h4, h5, h6⟩ := ih
      exact ⟨h1, by omega, by omega, by omega, h5, h6⟩
theorem lt_lv {x y : Nat} (hx : lvlE x = 0) (hy : lvlE y = 0) : fcmpE .lss .f32 x y = decide (sxE x < sxE y) := by
  rw [(fcmp32 (lvl_ok hx).1 (lvl_ok hy).1).2.2.1]
  exact decide_eq_decide.2 ⟨fun h => by omega, fun h => by omega⟩
def staE (S : Sta) : Sta := if S.1 = 0 then (0, 0, 0, 0) else S
theorem rSum_ok {r : ByteArray × Int × (List Nat) × (List (Int × Int))} (hl : r.2.2.1.length < 1000000) (hgl : r.2.2.2.length < 1000000) (hv : ∀ y ∈ r.2.2.1, lvlE y = 0) : VF Tryz.prog OA 64 [.v y55 r] (.tup [.v y98 (staE (refS r r.2.2.1.length)), I (if (refS r r.2.2.1.length).1 = 0 then 12 else 0)]) := by
  refine VF.enter Tryz.func64 rfl (fun _ _ => rfl) rfl ?_
  show VC _ _ _ _ _ [(0, .v y55 r)] [] _
  refine VC.seq (VC.text ?_)
  refine VO.new (.box) ?_
  refine VO.cell (.alloc zt98) ?_
  intro ww1
  refine VO.c (.assign rfl) ?_
  refine VO.go (VC.seq (VC.text ?_))
  refine VO.cell (.alloc zt98) ?_
  intro ww2
  refine VO.go (VC.seq (VC.seq (VC.text ?_)))
  refine VO.c (.assign rfl) ?_
  refine VO.go (VC.block ?_)
  refine VC.keep [(1, .p y55 r), (2, .raw ww1), (4, .raw ww2), (5, I ((0 : Nat) : Int))] ⟨rfl, rfl, rfl, rfl, trivial⟩ ?_
  refine VC.loop (I := fun kk ff ss => ∃ (i : Nat), kk = r.2.2.1.length - i ∧ ff = [(1, .p y55 r), (2, .raw ww1), (4, .raw ww2), (5, I ((i : Nat) : Int))] ∧ ss = [(ww2, .var [I ((refS r i).1), I ((refS r i).2.1), .v (.flt .f32) ((refS r i).2.2.1), .v (.flt .f32) ((refS r i).2.2.2)]), (ww1, .var [I (0 : Int), I (0 : Int), .v (.flt .f32) (0 : Nat), .v (.flt .f32) (0 : Nat)])] ∧ (i ≤ r.2.2.1.length)) ?_ _ _ _ ⟨0, rfl, rfl, rfl, Nat.zero_le _⟩
  rintro kk ff ss ⟨i, hk0, rfl, rfl, hi⟩
  refine VC.seq (VC.seq (VC.text ?_))
  refine VO.c (.move rfl) ?_
  refine VO.c (.fa (.r (.r (.l .o)))) ?_
  refine VO.r (.ld vt53) ?_
  refine VO.r (.len el53) ?_
  refine VO.c (.lss) ?_
  refine VO.go ?_
  refine VC.condD rfl (fun c3 => ?_) (fun c3 => ?_)
  · have hil : i < r.2.2.1.length := by omega
    have hvi := hv _ (List.getElem_mem hil)
    have hle := levE_at hil
    obtain ⟨k1, k2, k3, k4, k5, k6⟩ := refS_ok hv i (by omega)
    obtain ⟨v1, v2, v3⟩ := lvl_ok hvi
    refine VC.skip (VC.seq (VC.block (VC.seq (VC.seq (VC.text ?_)))))
    refine VO.r (.ld vt55) ?_
    refine VO.c (.move rfl) ?_
    refine VO.call rfl rfl (VF.call (rRecorded_ok (by first | assumption | omega | simp))) ?_
    refine VO.c (.not) ?_
    refine VO.go ?_
    refine VC.condB rfl (fun c5 => ?_) (fun c5 => ?_)
    · try simp only [Bool.and_eq_true, Bool.or_eq_true, Bool.and_eq_false_iff, Bool.or_eq_false_iff, Bool.not_eq_true', Bool.not_eq_false', decide_eq_true_eq, decide_eq_false_iff_not] at c5
      refine VC.exit (VC.text ?_)
      refine VO.c (.move rfl) ?_
      refine VO.c (.add rfl rfl (by omega)) ?_
      refine VO.c (.assign rfl) ?_
      refine VO.nil ?_
      refine ⟨_, [(1, .p y55 r), (2, .raw ww1), (4, .raw ww2), (5, I (((i + 1) : Nat) : Int))], ?_, ⟨rfl, rfl, rfl, rfl, trivial⟩, (i + 1), rfl, rfl, (by first | (rw [refS_f (by simpa using c5)]; done) | (rw [refS_t hri, hle]; rfl)), (by omega)⟩
      omega
    try simp only [Bool.and_eq_true, Bool.or_eq_true, Bool.and_eq_false_iff, Bool.or_eq_false_iff, Bool.not_eq_true', Bool.not_eq_false', decide_eq_true_eq, decide_eq_false_iff_not] at c5
    have hri : recB r i = true := by simpa using c5
    refine VC.skip (VC.seq (VC.text ?_))
    refine VO.c (.fa (.r (.r (.l .o)))) ?_
    refine VO.r (.ld vt53) ?_
    refine VO.c (.move rfl) ?_
    refine VO.c (.ix (j := i) rfl rfl el53 (by omega)) ?_
    refine VO.r (.ld vt59) ?_
    refine VO.c (.assign rfl) ?_
    refine VO.go (VC.seq (VC.seq (VC.text ?_)))
    refine VO.c (.faO (k := 0) m0) ?_
    refine VO.r (.ldF (k := 0) m0 vt3) ?_
    refine VO.c (.eql) ?_
    refine VO.c (.move rfl) ?_
    refine VO.cg (r := decide (((refS r i).1) = (0 : Int))) (w := false) [] trivial (fun hgd => have g7_3 : ¬ (((refS r i).1) = (0 : Int)) := (by simpa using hgd); (.move rfl)) ?_
    refine VO.cg (r := decide (((refS r i).1) = (0 : Int))) (w := false) [] trivial (fun hgd => have g7_3 : ¬ (((refS r i).1) = (0 : Int)) := (by simpa using hgd); (.faO (k := 2) m0)) ?_
    refine VO.rg (r := decide (((refS r i).1) = (0 : Int))) (w := false) [(28, .raw (padd ww2 2))] ⟨rfl, trivial⟩ (fun hgd => have g7_3 : ¬ (((refS r i).1) = (0 : Int)) := (by simpa using hgd); (.ldF (k := 2) m0 vt59)) ?_
    refine VO.cg (r := decide (((refS r i).1) = (0 : Int))) (w := false) [(27, .v (.flt .f32) (r.2.2.1[i])), (29, .v (.flt .f32) ((refS r i).2.2.1))] ⟨rfl, rfl, trivial⟩ (fun hgd => have g7_3 : ¬ (((refS r i).1) = (0 : Int)) := (by simpa using hgd); (.fcmpD (b := .lss) (lt_lv hvi k5))) ?_
    refine VO.c (.or) ?_
    refine VO.go ?_
    refine VC.join [(1, .p y55 r), (2, .raw ww1), (4, .raw ww2), (5, I ((i : Nat) : Int)), (6, .v (.flt .f32) (r.2.2.1[i]))] [(ww2, .var [I ((refS r i).1), I ((refS r i).2.1), .v (.flt .f32) (loS (refS r i) r.2.2.1[i]), .v (.flt .f32) ((refS r i).2.2.2)]), (ww1, .var [I (0 : Int), I (0 : Int), .v (.flt .f32) (0 : Nat), .v (.flt .f32) (0 : Nat)])] ?_ ?_
    refine VC.condB rfl (fun c7 => ?_) (fun c7 => ?_)
    · try simp only [Bool.and_eq_true, Bool.or_eq_true, Bool.and_eq_false_iff, Bool.or_eq_false_iff, Bool.not_eq_true', Bool.not_eq_false', decide_eq_true_eq, decide_eq_false_iff_not] at c7
      refine VC.text ?_
      refine VO.c (.move rfl) ?_
      refine VO.c (.faO (k := 2) m0) ?_
      refine VO.setF (cs' := [I ((refS r i).1), I ((refS r i).2.1), .v (.flt .f32) (r.2.2.1[i]), .v (.flt .f32) ((refS r i).2.2.2)]) 2 vt59 .v ?_
      refine VO.nil ?_
      exact ⟨⟨rfl, rfl, rfl, rfl, rfl, trivial⟩, (by first | (rw [loS, if_pos c7]; done) | (rw [loS, if_neg (not_or.2 c7)]; done))⟩
    · try simp only [Bool.and_eq_true, Bool.or_eq_true, Bool.and_eq_false_iff, Bool.or_eq_false_iff, Bool.not_eq_true', Bool.not_eq_false', decide_eq_true_eq, decide_eq_false_iff_not] at c7
      refine VC.skip ?_
      exact ⟨⟨rfl, rfl, rfl, rfl, rfl, trivial⟩, (by first | (rw [loS, if_pos c7]; done) | (rw [loS, if_neg (not_or.2 c7)]; done))⟩
    refine VC.seq (VC.seq (VC.text ?_))
    refine VO.c (.faO (k := 0) m0) ?_
    refine VO.r (.ldF (k := 0) m0 vt3) ?_
    refine VO.c (.eql) ?_
    refine VO.c (.move rfl) ?_
    refine VO.cg (r := decide (((refS r i).1) = (0 : Int))) (w := false) [] trivial (fun hgd => have g9_3 : ¬ (((refS r i).1) = (0 : Int)) := (by simpa using hgd); (.move rfl)) ?_
    refine VO.cg (r := decide (((refS r i).1) = (0 : Int))) (w := false) [] trivial (fun hgd => have g9_3 : ¬ (((refS r i).1) = (0 : Int)) := (by simpa using hgd); (.faO (k := 3) m0)) ?_
    refine VO.rg (r := decide (((refS r i).1) = (0 : Int))) (w := false) [(39, .raw (padd ww2 3))] ⟨rfl, trivial⟩ (fun hgd => have g9_3 : ¬ (((refS r i).1) = (0 : Int)) := (by simpa using hgd); (.ldF (k := 3) m0 vt59)) ?_
    refine VO.cg (r := decide (((refS r i).1) = (0 : Int))) (w := false) [(38, .v (.flt .f32) (r.2.2.1[i])), (40, .v (.flt .f32) ((refS r i).2.2.2))] ⟨rfl, rfl, trivial⟩ (fun hgd => have g9_3 : ¬ (((refS r i).1) = (0 : Int)) := (by simpa using hgd); (.fcmpD (b := .gtr) (gt_lv hvi k6))) ?_
    refine VO.c (.or) ?_
    refine VO.go ?_
    refine VC.join [(1, .p y55 r), (2, .raw ww1), (4, .raw ww2), (5, I ((i : Nat) : Int)), (6, .v (.flt .f32) (r.2.2.1[i]))] [(ww2, .var [I ((refS r i).1), I ((refS r i).2.1), .v (.flt .f32) (loS (refS r i) r.2.2.1[i]), .v (.flt .f32) (hiS (refS r i) r.2.2.1[i])]), (ww1, .var [I (0 : Int), I (0 : Int), .v (.flt .f32) (0 : Nat), .v (.flt .f32) (0 : Nat)])] ?_ ?_
    refine VC.condB rfl (fun c9 => ?_) (fun c9 => ?_)
    · try simp only [Bool.and_eq_true, Bool.or_eq_true, Bool.and_eq_false_iff, Bool.or_eq_false_iff, Bool.not_eq_true', Bool.not_eq_false', decide_eq_true_eq, decide_eq_false_iff_not] at c9
      refine VC.text ?_
      refine VO.c (.move rfl) ?_
      refine VO.c (.faO (k := 3) m0) ?_
      refine VO.setF (cs' := [I ((refS r i).1), I ((refS r i).2.1), .v (.flt .f32) (loS (refS r i) r.2.2.1[i]), .v (.flt .f32) (r.2.2.1[i])]) 3 vt59 .v ?_
      refine VO.nil ?_
      exact ⟨⟨rfl, rfl, rfl, rfl, rfl, trivial⟩, (by first | (rw [hiS, if_pos c9]; done) | (rw [hiS, if_neg (not_or.2 c9)]; done))⟩
    · try simp only [Bool.and_eq_true, Bool.or_eq_true, Bool.and_eq_false_iff, Bool.or_eq_false_iff, Bool.not_eq_true', Bool.not_eq_false', decide_eq_true_eq, decide_eq_false_iff_not] at c9
      refine VC.skip ?_
      exact ⟨⟨rfl, rfl, rfl, rfl, rfl, trivial⟩, (by first | (rw [hiS, if_pos c9]; done) | (rw [hiS, if_neg (not_or.2 c9)]; done))⟩
    refine VC.seq (VC.text ?_)
    refine VO.c (.faO (k := 0) m0) ?_
    refine VO.r (.ldF (k := 0) m0 vt3) ?_
    refine VO.c (.add rfl rfl (by omega)) ?_
    refine VO.c (.faO (k := 0) m0) ?_
    refine VO.setF (cs' := [I (((refS r i).1) + (1 : Int)), I ((refS r i).2.1), .v (.flt .f32) (loS (refS r i) r.2.2.1[i]), .v (.flt .f32) (hiS (refS r i) r.2.2.1[i])]) 0 vt3 .v ?_
    refine VO.go (VC.drawn ?_)
    refine VD.co (.faO (k := 1) m0) ?_
    refine VD.r [(ww2, .var [I (((refS r i).1) + (1 : Int)), I ((refS r i).2.1), .v (.flt .f32) (loS (refS r i) r.2.2.1[i]), .v (.flt .f32) (hiS (refS r i) r.2.2.1[i])]), (ww1, .var [I (0 : Int), I (0 : Int), .v (.flt .f32) (0 : Nat), .v (.flt .f32) (0 : Nat)])] (.ldF (k := 1) m0 vt3) (.inr ⟨rfl, rfl⟩) ?_
    refine VD.c (.move rfl) ?_
    refine VD.call rfl rfl (VF.call (rSix_ok (by first | assumption | omega | simp))) ?_
    refine VD.c (.add rfl rfl (by omega)) ?_
    refine VD.co (.faO (k := 1) m0) ?_
    refine VD.nw [] ?_
    refine VD.mk0 (MakeV.setF (k := 1) vt3 .v (Nat.le_of_ble_eq_true rfl) (.inl rfl) rfl rfl) ?_
    rintro _ _ tl3 ⟨rfl, rfl⟩
    refine VD.nil ?_
    refine VC.keep [(1, .p y55 r), (2, .raw ww1), (4, .raw ww2), (5, I ((i : Nat) : Int))] ⟨rfl, rfl, rfl, rfl, trivial⟩ ?_
    refine VC.text ?_
    refine VO.c (.move rfl) ?_
    refine VO.c (.add rfl rfl (by omega)) ?_
    refine VO.c (.assign rfl) ?_
    refine VO.nil ?_
    refine ⟨_, [(1, .p y55 r), (2, .raw ww1), (4, .raw ww2), (5, I (((i + 1) : Nat) : Int))], ?_, ⟨rfl, rfl, rfl, rfl, trivial⟩, (i + 1), rfl, rfl, (by first | (rw [refS_f (by simpa using c5)]; done) | (rw [refS_t hri, hle]; rfl)), (by omega)⟩
    omega
  refine VC.exit (VC.seq (VC.seq (VC.text ?_)))
  have hin : i = r.2.2.1.length := by omega
  refine VO.c (.faO (k := 0) m0) ?_
  refine VO.r (.ldF (k := 0) m0 vt3) ?_
  refine VO.c (.eql) ?_
  refine VO.go ?_
  refine VC.condD rfl (fun c13 => ?_) (fun c13 => ?_)
  · refine VC.seq (VC.text ?_)
    refine VO.c (.build (0, 0, 0, 0) bt98) ?_
    refine VO.perm swap1 ?_
    refine VO.setV (cs' := [I 0, I 0, .v (.flt .f32) 0, .v (.flt .f32) 0]) vt98 .v ?_
    refine VO.c (.assign rfl) ?_
    refine VO.go ?_
    refine VC.ret ?_
    exact VEnd.two rfl (.cell (x := (0, 0, 0, 0)) rfl m0 vt98 .refl) evT (pvE (by rw [staE, if_pos (by rw [← hin]; exact c13)])) (pvI (by rw [if_pos (by rw [← hin]; exact c13)]))
  refine VC.skip (VC.seq (VC.text ?_))
  refine VO.r (.ldA (dx := (((refS r i).1), ((refS r i).2.1), ((refS r i).2.2.1), ((refS r i).2.2.2))) m0 vt98) ?_
  refine VO.perm swap1 ?_
  refine VO.setV (cs' := [I ((refS r i).1), I ((refS r i).2.1), .v (.flt .f32) ((refS r i).2.2.1), .v (.flt .f32) ((refS r i).2.2.2)]) vt98 .v ?_
  refine VO.c (.assign rfl) ?_
  refine VO.go ?_
  refine VC.ret ?_
  exact VEnd.two rfl (.cell (x := (((refS r i).1), ((refS r i).2.1), ((refS r i).2.2.1), ((refS r i).2.2.2))) rfl m0 vt98 .refl) evT (pvE (by rw [staE, if_neg (by rw [← hin]; exact c13), hin])) (pvI (by rw [if_neg (by rw [← hin]; exact c13)]))
theorem plus_lv {x : Nat} (h : lvlE x = 0) : lvlE (plusZ x) = 0 ∧ sxE (plusZ x) = sxE x := by
  have h1 := plusZ_ok h
  have h2 := lvl_ok h
  exact lvl_of (h1.2.2.trans h2.1) h2.2.1 h2.2.2
theorem ord_lv {x y : Nat} (hx : lvlE x = 0) (hy : lvlE y = 0) : single.order x y = some (compare (sxE x * 44601490397061246283071436545296723011960832) (sxE y * 44601490397061246283071436545296723011960832)) := Format.order_units (lvl_ok hx).1 (lvl_ok hy).1
theorem fmin_lv {x y : Nat} (hx : lvlE x = 0) (hy : lvlE y = 0) : lvlE (fminE x y) = 0 ∧ sxE (fminE x y) = min (sxE x) (sxE y) := by
  unfold fminE
  rw [ord_lv hx hy]
  cases hc : compare (sxE x * 44601490397061246283071436545296723011960832) (sxE y * 44601490397061246283071436545296723011960832) with
  | lt => have := Int.compare_eq_lt.1 hc; exact ⟨hx, by show sxE x = _; omega⟩
  | gt => have := Int.compare_eq_gt.1 hc; exact ⟨hy, by show sxE y = _; omega⟩
  | eq =>
    have := Int.compare_eq_eq.1 hc
    show lvlE (if _ then x else y) = 0 ∧ sxE (if _ then x else y) = _
    split
    · exact ⟨hx, by omega⟩
    exact ⟨hy, by omega⟩
theorem fmax_lv {x y : Nat} (hx : lvlE x = 0) (hy : lvlE y = 0) : lvlE (fmaxE x y) = 0 ∧ sxE (fmaxE x y) = max (sxE x) (sxE y) := by
  unfold fmaxE
  rw [ord_lv hx hy]
  cases hc : compare (sxE x * 44601490397061246283071436545296723011960832) (sxE y * 44601490397061246283071436545296723011960832) with
  | lt => have := Int.compare_eq_lt.1 hc; exact ⟨hy, by show sxE y = _; omega⟩
  | gt => have := Int.compare_eq_gt.1 hc; exact ⟨hx, by show sxE x = _; omega⟩
  | eq =>
    have := Int.compare_eq_eq.1 hc
    show lvlE (if _ then y else x) = 0 ∧ sxE (if _ then y else x) = _
    split
    · exact ⟨hy, by omega⟩
    exact ⟨hx, by omega⟩
def sumP (S : Sta) (x : Int × Nat) : Sta := (S.1 + 1, S.2.1 + sxE x.2, fminE S.2.2.1 (plusZ x.2), fmaxE S.2.2.2 (plusZ x.2))
def staP0 : Sta := (0, 0, 1115684864, 3263168512)
def progS (r : Rec1) : Sta := (recL r 0).foldl sumP staP0
def SideS (P R : Sta) : Prop := P.1 = R.1 ∧ P.2.1 = R.2.1 ∧ lvlE P.2.2.1 = 0 ∧ lvlE P.2.2.2 = 0 ∧ (R.1 = 0 → sxE P.2.2.1 = 1024 ∧ sxE P.2.2.2 = -1024) ∧ (R.1 ≠ 0 → sxE P.2.2.1 = sxE R.2.2.1 ∧ sxE P.2.2.2 = sxE R.2.2.2)
theorem side_0 : SideS staP0 (0, 0, 0, 0) := ⟨rfl, rfl, by decide +kernel, by decide +kernel, fun _ => ⟨by decide +kernel, by decide +kernel⟩, fun h => absurd rfl h⟩
theorem side_step {P R : Sta} {k : Int} {x : Nat} (h : SideS P R) (h0 : 0 ≤ R.1) (hx : lvlE x = 0) : SideS (sumP P (k, x)) (sumS R x) := by
  obtain ⟨h1, h2, h3, h4, h5, h6⟩ := h
  obtain ⟨p1, p2⟩ := plus_lv hx
  obtain ⟨a1, a2⟩ := fmin_lv h3 p1
  obtain ⟨b1, b2⟩ := fmax_lv h4 p1
  obtain ⟨v1, v2, v3⟩ := lvl_ok hx
  refine ⟨by show P.1 + 1 = R.1 + 1; omega, by show P.2.1 + sxE x = R.2.1 + sxE x; omega, a1, b1, fun hh => ?_, fun _ => ?_⟩
  · have : R.1 + 1 = 0 := hh
    omega
  show sxE (fminE P.2.2.1 (plusZ x)) = sxE (loS R x) ∧ sxE (fmaxE P.2.2.2 (plusZ x)) = sxE (hiS R x)
  rw [a2, b2, p2]
  unfold loS hiS
  by_cases hz : R.1 = 0
  · have := h5 hz
    rw [if_pos (.inl hz), if_pos (.inl hz)]
    omega
  have := h6 hz
  refine ⟨?_, ?_⟩
  · split
    · rename_i hc; rcases hc with hc | hc
      · exact absurd hc hz
      omega
    rename_i hc; have := (not_or.1 hc).2; omega
  split
  · rename_i hc; rcases hc with hc | hc
    · exact absurd hc hz
    omega
  rename_i hc; have := (not_or.1 hc).2; omega
theorem side_all {r : Rec1} (hv : ∀ x ∈ r.2.2.1, lvlE x = 0) : ∀ {n i : Nat} {P : Sta}, n = r.2.2.1.length - i → i ≤ r.2.2.1.length → SideS P (refS r i) → SideS ((recL r i).foldl sumP P) (refS r r.2.2.1.length)
  | 0, i, P, hn, hi, h => by rw [recL_end (by omega), show r.2.2.1.length = i by omega]; exact h
  | n + 1, i, P, hn, hi, h => by
    have hil : i < r.2.2.1.length := by omega
    rw [recL_s hil]
    cases hb : recB r i with
    | true =>
      rw [if_pos rfl, List.foldl_cons]
      refine side_all hv (n := n) (i := i + 1) (by omega) (by omega) ?_
      rw [refS_t hb]
      exact side_step h (refS_ok hv i hi).1 (by rw [levE_at hil]; exact hv _ (List.getElem_mem hil))
    | false =>
      rw [if_neg Bool.false_ne_true]
      refine side_all hv (n := n) (i := i + 1) (by omega) (by omega) ?_
      rw [refS_f hb]; exact h
theorem side_ok {r : Rec1} (hv : ∀ x ∈ r.2.2.1, lvlE x = 0) : SideS (progS r) (refS r r.2.2.1.length) := side_all hv rfl (Nat.zero_le _) side_0
end Go.Proofs
namespace Go.Proofs
open Go.Fs Ieee
set_option linter.unusedVariables false
set_option maxHeartbeats 400000
abbrev y95 : Ty := (.pair (.int .i64) (.pair (.int .i64) (.pair (.flt .f32) (.flt .f32))))
theorem vt95 : ValT Tryz.prog 95 y95 := valT_of (by kernel_rfl)
theorem zt95 : ZerT Tryz.prog 95 y95 := zerT_of (z := .agg #[.int .i64 0, .int .i64 0, .float .f32 0, .float .f32 0]) (by kernel_rfl) rfl rfl
theorem bt95 : BldT Tryz.prog 95 y95 [(0, 1), (1, 1), (2, 1), (3, 1)] := bldT_of zt95 rfl (by kernel_rfl)
abbrev tySta : Ty := y95
theorem refS_z {r : Rec1} : ∀ i : Nat, 0 ≤ (refS r i).1 ∧ ((refS r i).1 = 0 → refS r i = (0, 0, 0, 0))
  | 0 => ⟨Int.le_refl _, fun _ => rfl⟩
  | i + 1 => by
    have ih := refS_z (r := r) i
    cases hb : recB r i with
    | true =>
      rw [refS_t hb]
      have h0 := ih.1
      exact ⟨by show 0 ≤ (refS r i).1 + 1; omega, fun h => by have : (refS r i).1 + 1 = 0 := h; omega⟩
    | false => rw [refS_f hb]; exact ih
theorem feq_lv {x y : Nat} (hx : lvlE x = 0) (hy : lvlE y = 0) : Op.floatEq .f32 x y = decide (sxE x = sxE y) := by
  show (single.order x y == some .eq) = _
  rw [ord_lv hx hy]
  by_cases h : sxE x = sxE y
  · rw [h, decide_eq_true rfl, show compare (sxE y * 44601490397061246283071436545296723011960832) (sxE y * 44601490397061246283071436545296723011960832) = Ordering.eq from Int.compare_eq_eq.2 rfl] <;> rfl
  rw [decide_eq_false h]
  cases hc : compare (sxE x * 44601490397061246283071436545296723011960832) (sxE y * 44601490397061246283071436545296723011960832) with
  | eq => exact absurd (by have := Int.compare_eq_eq.1 hc; omega) h
  | lt => rfl
  | gt => rfl
theorem eq_sta {P Q : Sta} (h1 : P.1 = Q.1) (h2 : P.2.1 = Q.2.1) (p1 : lvlE P.2.2.1 = 0) (p2 : lvlE P.2.2.2 = 0) (q1 : lvlE Q.2.2.1 = 0) (q2 : lvlE Q.2.2.2 = 0) (h3 : sxE P.2.2.1 = sxE Q.2.2.1) (h4 : sxE P.2.2.2 = sxE Q.2.2.2) : eqE y95 P Q = true := by
  show ((P.1 == Q.1) && ((P.2.1 == Q.2.1) && (Op.floatEq .f32 P.2.2.1 Q.2.2.1 && Op.floatEq .f32 P.2.2.2 Q.2.2.2))) = true
  rw [feq_lv p1 q1, feq_lv p2 q2, decide_eq_true h3, decide_eq_true h4, h1, h2]; simp
theorem eq_sta_f {P Q : Sta} (h1 : P.1 ≠ Q.1) : eqE y95 P Q = false := by
  show ((P.1 == Q.1) && _) = false
  rw [show (P.1 == Q.1) = false by simpa using h1] <;> rfl
theorem eq_start {r : Rec1} (hv : ∀ x ∈ r.2.2.1, lvlE x = 0) : eqE y95 (progS r) (0, 0, 1115684864, 3263168512) = decide ((refS r r.2.2.1.length).1 = 0) := by
  obtain ⟨s1, s2, s3, s4, s5, s6⟩ := side_ok hv
  by_cases h : (refS r r.2.2.1.length).1 = 0
  · have hz := (refS_z r.2.2.1.length).2 h
    rw [decide_eq_true h]
    refine eq_sta (by rw [s1, h]) (by rw [s2, hz]) s3 s4 (by decide +kernel) (by decide +kernel) ?_ ?_
    · rw [(s5 h).1]; decide +kernel
    rw [(s5 h).2]; decide +kernel
  rw [decide_eq_false h]
  exact eq_sta_f (by rw [s1]; exact h)
def smE (r : Rec1) : Sta := if recE r ≠ 0 then (0, 0, 0, 0) else if (refS r r.2.2.1.length).1 = 0 then (0, 0, 0, 0) else progS r
def smC (r : Rec1) : Int := if recE r ≠ 0 then recE r else if (refS r r.2.2.1.length).1 = 0 then 12 else 0
theorem gSum_ok {r : ByteArray × Int × (List Nat) × (List (Int × Int))} (hl : r.2.2.1.length < 1000000) (hgl : r.2.2.2.length < 1000000) : VF Tryz.prog OA 61 [.v y65 r] (.tup [.v y95 (smE r), I (smC r)]) := by
  refine VF.enter Tryz.func61 rfl (fun _ _ => rfl) rfl ?_
  show VC _ _ _ _ _ [(0, .v y65 r)] [] _
  refine VC.seq (VC.text ?_)
  refine VO.new (.box) ?_
  refine VO.cell (.alloc zt95) ?_
  intro ww1
  refine VO.c (.assign rfl) ?_
  refine VO.go (VC.seq (VC.seq (VC.text ?_)))
  refine VO.r (.ld vt65) ?_
  refine VO.call rfl rfl (VF.call (gRec_ok (by first | assumption | omega | simp) (by first | assumption | omega | simp))) ?_
  refine VO.c (.assign rfl) ?_
  refine VO.go (VC.seq (VC.text ?_))
  refine VO.c (.move rfl) ?_
  refine VO.c (.neq) ?_
  refine VO.go ?_
  refine VC.condD rfl (fun c2 => ?_) (fun c2 => ?_)
  · refine VC.seq (VC.text ?_)
    refine VO.c (.build (0, 0, 0, 0) bt95) ?_
    refine VO.c (.move rfl) ?_
    refine VO.setV (cs' := [I 0, I 0, .v (.flt .f32) 0, .v (.flt .f32) 0]) vt95 .v ?_
    refine VO.c (.assign rfl) ?_
    refine VO.go ?_
    refine VC.ret ?_
    exact VEnd.two rfl (.cell (x := (0, 0, 0, 0)) rfl m0 vt95 .refl) evT (pvE (by exact (if_pos c2).symm)) (pvI (by exact (if_pos c2).symm))
  have hra := rec_ok (Classical.not_not.1 c2)
  have hrl := recL_len (r := r) (i := 0) rfl
  refine VC.skip (VC.seq (VC.text ?_))
  refine VO.c (.build (0, 0, (1115684864 : Nat), (3263168512 : Nat)) bt95) ?_
  refine VO.cell (.alloc zt95) ?_
  intro ww2
  refine VO.setV (cs' := [I 0, I 0, .v (.flt .f32) (1115684864 : Nat), .v (.flt .f32) (3263168512 : Nat)]) vt95 .v ?_
  refine VO.go (VC.seq (VC.seq (VC.text ?_)))
  refine VO.r (.ld vt65) ?_
  refine VO.call rfl rfl (VF.call (gRecd_ok )) ?_
  refine VO.go (VC.block ?_)
  refine VC.keep [(2, .raw ww1), (5, .raw ww2), (16, .clo 148 [] [.p y65 r])] ⟨rfl, rfl, rfl, trivial⟩ ?_
  refine VC.rangeFunc rfl (gRecd1_ok (show r.2.2.1.length ≤ 4096 from hra.2.1) hgl hra.2.2.2.2) (fun _ => rfl) rfl rfl (fun rest ss => ∃ (P : Sta), ss = [(ww2, .var [I P.1, I P.2.1, .v (.flt .f32) P.2.2.1, .v (.flt .f32) P.2.2.2]), (ww1, .var [I (0 : Int), I (0 : Int), .v (.flt .f32) (0 : Nat), .v (.flt .f32) (0 : Nat)])] ∧ (rest.foldl sumP P = progS r) ∧ (∀ y ∈ rest, lvlE y.2 = 0 ∧ 0 ≤ y.1 ∧ y.1 < (r.2.2.1.length : Nat)) ∧ (0 ≤ P.1 ∧ P.1 + rest.length ≤ 4096) ∧ (-(1024 * P.1) ≤ P.2.1 ∧ P.2.1 ≤ 1024 * P.1) ∧ (lvlE P.2.2.1 = 0 ∧ lvlE P.2.2.2 = 0)) (fun ee ss => False) ⟨staP0, rfl, (by rfl), (by exact recL_ok hra.2.2.2.1), (by exact ⟨Int.le_refl _, (by show (0 : Int) + _ ≤ _; have := hra.2.1; omega)⟩), (by exact ⟨Int.le_refl _, Int.le_refl _⟩), (by exact ⟨(by decide +kernel), (by decide +kernel)⟩)⟩ ?_ ?_ ?_
  · rintro jj x rest _ ⟨P, rfl, hf, hm, hn, hs, hp⟩
    show VC _ _ _ _ _ [(18, .v (.flt .f32) x.2), (17, I x.1), (2, .raw ww1), (5, .raw ww2), (16, .clo 148 [] [.p y65 r])] [(ww2, .var [I P.1, I P.2.1, .v (.flt .f32) P.2.2.1, .v (.flt .f32) P.2.2.2]), (ww1, .var [I (0 : Int), I (0 : Int), .v (.flt .f32) (0 : Nat), .v (.flt .f32) (0 : Nat)])] _
    refine VC.text ?_
    have hx := (hm x List.mem_cons_self).1
    have hpz := plus_lv hx
    obtain ⟨v1, v2, v3⟩ := lvl_ok hx
    have hn2 := hn
    rw [List.length_cons] at hn2
    refine VO.c (.assign rfl) ?_
    refine VO.nil ?_
    refine ⟨rfl, ?_⟩
    refine VC.block (VC.drawn ?_)
    refine VD.co (.faO (k := 0) m0) ?_
    refine VD.r [(ww2, .var [I P.1, I P.2.1, .v (.flt .f32) P.2.2.1, .v (.flt .f32) P.2.2.2]), (ww1, .var [I (0 : Int), I (0 : Int), .v (.flt .f32) (0 : Nat), .v (.flt .f32) (0 : Nat)])] (.ldF (k := 0) m0 vt3) (.inr ⟨rfl, rfl⟩) ?_
    refine VD.c (.add rfl rfl (by omega)) ?_
    refine VD.co (.faO (k := 1) m0) ?_
    refine VD.r [(ww2, .var [I P.1, I P.2.1, .v (.flt .f32) P.2.2.1, .v (.flt .f32) P.2.2.2]), (ww1, .var [I (0 : Int), I (0 : Int), .v (.flt .f32) (0 : Nat), .v (.flt .f32) (0 : Nat)])] (.ldF (k := 1) m0 vt3) (.inr ⟨rfl, rfl⟩) ?_
    refine VD.c (.move rfl) ?_
    refine VD.nw [] ?_
    refine VD.call rfl rfl (VF.call (gSixL_ok (by first | assumption | omega | simp))) ?_
    refine VD.c (.add rfl rfl (by omega)) ?_
    refine VD.co (.faO (k := 2) m0) ?_
    refine VD.r [(ww2, .var [I P.1, I P.2.1, .v (.flt .f32) P.2.2.1, .v (.flt .f32) P.2.2.2]), (ww1, .var [I (0 : Int), I (0 : Int), .v (.flt .f32) (0 : Nat), .v (.flt .f32) (0 : Nat)])] (.ldF (k := 2) m0 vt59) (.inr ⟨rfl, rfl⟩) ?_
    refine VD.c (.move rfl) ?_
    refine VD.c (.fop (add32E (plusZ_ok hx).1)) ?_
    refine VD.r [] (.fmin (ord_lv hp.1 hpz.1)) (.inl rfl) ?_
    refine VD.nw [] ?_
    refine VD.co (.faO (k := 3) m0) ?_
    refine VD.r [(ww2, .var [I P.1, I P.2.1, .v (.flt .f32) P.2.2.1, .v (.flt .f32) P.2.2.2]), (ww1, .var [I (0 : Int), I (0 : Int), .v (.flt .f32) (0 : Nat), .v (.flt .f32) (0 : Nat)])] (.ldF (k := 3) m0 vt59) (.inr ⟨rfl, rfl⟩) ?_
    refine VD.c (.move rfl) ?_
    refine VD.c (.fop (add32E (plusZ_ok hx).1)) ?_
    refine VD.r [] (.fmax (ord_lv hp.2 hpz.1)) (.inl rfl) ?_
    refine VD.c (.build ((P.1 + (1 : Int)), (P.2.1 + sxE x.2), fminE P.2.2.1 (plusZ x.2), fmaxE P.2.2.2 (plusZ x.2)) bt95) ?_
    refine VD.mk0 (MakeV.setF (k := 0) vt95 .v (Nat.le_of_ble_eq_true rfl) (.inr ⟨rfl, rfl⟩) rfl rfl) ?_
    rintro _ _ tl3 ⟨rfl, rfl⟩
    refine VD.nil ?_
    exact .inl ⟨rfl, sumP P x, rfl, (by exact hf), (by exact fun y hy => hm y (List.mem_cons_of_mem _ hy)), (by exact ⟨(by show 0 ≤ P.1 + 1; omega), (by show P.1 + 1 + _ ≤ _; omega)⟩), (by exact ⟨(by show -(1024 * (P.1 + 1)) ≤ P.2.1 + sxE x.2; omega), (by show P.2.1 + sxE x.2 ≤ 1024 * (P.1 + 1); omega)⟩), (by exact ⟨(fmin_lv hp.1 hpz.1).1, (fmax_lv hp.2 hpz.1).1⟩)⟩
  · rintro _ ⟨P, rfl, hf, hm, hn, hs, hp⟩
    refine VC.seq (VC.seq (VC.text ?_))
    have hP : P = progS r := hf
    have hst : eqE tySta P (0, 0, 1115684864, 3263168512) = decide ((refS r r.2.2.1.length).1 = 0) := by rw [hP]; exact eq_start hra.2.2.2.1
    refine VO.r (.ldA (dx := (P.1, P.2.1, P.2.2.1, P.2.2.2)) m0 vt95) ?_
    refine VO.c (.build (0, 0, (1115684864 : Nat), (3263168512 : Nat)) bt95) ?_
    refine VO.c (.eeqW (by kernel_rfl)) ?_
    refine VO.go ?_
    refine VC.condB rfl (fun c8 => ?_) (fun c8 => ?_)
    · refine VC.seq (VC.text ?_)
      refine VO.c (.build (0, 0, 0, 0) bt95) ?_
      refine VO.perm swap1 ?_
      refine VO.setV (cs' := [I 0, I 0, .v (.flt .f32) 0, .v (.flt .f32) 0]) vt95 .v ?_
      refine VO.c (.assign rfl) ?_
      refine VO.go ?_
      refine VC.ret ?_
      exact VEnd.two rfl (.cell (x := (0, 0, 0, 0)) rfl m0 vt95 .refl) evT (pvE (by rw [smE, if_neg c2, if_pos (of_decide_eq_true (hst.symm.trans c8))])) (pvI (by rw [smC, if_neg c2, if_pos (of_decide_eq_true (hst.symm.trans c8))]))
    refine VC.skip (VC.seq (VC.text ?_))
    refine VO.r (.ldA (dx := (P.1, P.2.1, P.2.2.1, P.2.2.2)) m0 vt95) ?_
    refine VO.perm swap1 ?_
    refine VO.setV (cs' := [I P.1, I P.2.1, .v (.flt .f32) P.2.2.1, .v (.flt .f32) P.2.2.2]) vt95 .v ?_
    refine VO.c (.assign rfl) ?_
    refine VO.go ?_
    refine VC.ret ?_
    exact VEnd.two rfl (.cell (x := (P.1, P.2.1, P.2.2.1, P.2.2.2)) rfl m0 vt95 .refl) evT (pvE (by rw [smE, if_neg c2, if_neg (of_decide_eq_false (hst.symm.trans c8))]; exact hP)) (pvI (by rw [smC, if_neg c2, if_neg (of_decide_eq_false (hst.symm.trans c8))]))
  rintro _ _ _ ⟨⟩
end Go.Proofs
namespace Go.Proofs
open Go.Fs Ieee
set_option linter.unusedVariables false
set_option maxHeartbeats 400000

theorem above_fold {r : Rec1} {v : Nat} : ∀ {n i : Nat}, n = r.2.2.1.length - i → i ≤ r.2.2.1.length → (recL r i).foldl (abS v) (unitE (belL r v r.2.2.1.length) i) = unitE (belL r v r.2.2.1.length) r.2.2.1.length
  | 0, i, hn, hi => by rw [recL_end (by omega), show i = r.2.2.1.length by omega] <;> rfl
  | n + 1, i, hn, hi => by
    have ih := above_fold (r := r) (v := v) (n := n) (i := i + 1) (by omega) (by omega)
    have hil : i < r.2.2.1.length := by omega
    have hbl : i < (belL r v r.2.2.1.length).length := by rw [belL_len]; exact hil
    have hat : (belL r v r.2.2.1.length)[i] = leB r v i := by rw [belL_at hil, if_pos hil]
    rw [recL_s hil]
    cases hb : recB r i with
    | true =>
      rw [if_pos rfl, List.foldl_cons]
      by_cases hc : sxE v < sxE (levE r i)
      · have h1 : (belL r v r.2.2.1.length)[i] = false := by rw [hat]; unfold leB; rw [hb, decide_eq_false (by omega)] <;> rfl
        rw [unitE_f hbl (by rw [h1]; exact Bool.false_ne_true)] at ih
        rw [show abS v (unitE (belL r v r.2.2.1.length) i) ((i : Int), levE r i) = unitE (belL r v r.2.2.1.length) i ++ [((i : Int), (i : Int) + 1)] from if_pos hc]
        exact ih
      have h1 : (belL r v r.2.2.1.length)[i] = true := by rw [hat]; unfold leB; rw [hb, decide_eq_true (by omega)] <;> rfl
      rw [unitE_t hbl h1] at ih
      rw [show abS v (unitE (belL r v r.2.2.1.length) i) ((i : Int), levE r i) = unitE (belL r v r.2.2.1.length) i from if_neg hc]
      exact ih
    | false =>
      rw [if_neg Bool.false_ne_true]
      have h1 : (belL r v r.2.2.1.length)[i] = true := by rw [hat]; unfold leB; rw [hb] <;> rfl
      rw [unitE_t hbl h1] at ih
      exact ih
theorem above_eq {r : Rec1} {v : Nat} (h : firstE [recE r, lvlE v] = 0) : gapsE (belL r v r.2.2.1.length) r.2.2.1.length = abvE r v := by
  rw [abvE, if_neg (fun hh => hh h), ← unit_can, ← above_fold (r := r) (v := v) rfl (Nat.zero_le _)] <;> rfl
def wS (r : Rec1) : Sta := if recE r ≠ 0 then (0, 0, 0, 0) else staE (refS r r.2.2.1.length)
theorem sta_same {r : Rec1} : eqE tySta (smE r) (wS r) = true := by
  unfold smE wS staE
  by_cases h : recE r ≠ 0
  · rw [if_pos h, if_pos h]; exact eq_sta rfl rfl lv_0 lv_0 lv_0 lv_0 rfl rfl
  rw [if_neg h, if_neg h]
  by_cases h2 : (refS r r.2.2.1.length).1 = 0
  · rw [if_pos h2, if_pos h2]; exact eq_sta rfl rfl lv_0 lv_0 lv_0 lv_0 rfl rfl
  rw [if_neg h2, if_neg h2]
  have hra := rec_ok (Classical.not_not.1 h)
  obtain ⟨s1, s2, s3, s4, s5, s6⟩ := side_ok hra.2.2.2.1
  obtain ⟨k1, k2, k3, k4, k5, k6⟩ := refS_ok hra.2.2.2.1 r.2.2.1.length (Nat.le_refl _)
  exact eq_sta s1 s2 s3 s4 k5 k6 (s6 h2).1 (s6 h2).2
theorem watL_t0 {r : Rec1} {w : Int} {g : Nat} (h : firstE [recE r, rangeE w 1 4096] = 0) : watL r w g r.2.2.1.length = wtrE r w g := (if_neg (fun hh => hh h)).symm
theorem watL_f0 {r : Rec1} {w : Int} {g : Nat} (h : ¬ firstE [recE r, rangeE w 1 4096] = 0) : [] = wtrE r w g := (if_pos h).symm
theorem abv_f0 {r : Rec1} {v : Nat} (h : ¬ firstE [recE r, lvlE v] = 0) : [] = abvE r v := (if_pos h).symm
theorem smC_t {r : Rec1} (h : recE r = 0) : (if (refS r r.2.2.1.length).1 = 0 then (12 : Int) else 0) = smC r := (if_neg (fun hh => hh h)).symm
theorem smC_f {r : Rec1} (h : ¬ recE r = 0) : recE r = smC r := by rw [smC, if_pos h]
theorem wtrE_len {r : Rec1} {w : Int} {g : Nat} : (wtrE r w g).length ≤ r.2.2.1.length := by
  unfold wtrE
  split
  · exact Nat.zero_le _
  exact watL_len _
theorem abvE_len {r : Rec1} {v : Nat} : (abvE r v).length ≤ r.2.2.1.length := by
  by_cases h : firstE [recE r, lvlE v] = 0
  · rw [← above_eq h]; exact gapsE_len _ _
  rw [← abv_f0 h]; exact Nat.zero_le _
theorem law8_ok {r : ByteArray × Int × (List Nat) × (List (Int × Int))} {w : Int} {v : Nat} : VF Tryz.prog OA 9 [.v y55 r, I w, .v (.flt .f32) v] (B true) := by
  refine VF.enter Tryz.func9 rfl (fun _ _ => rfl) rfl ?_
  show VC _ _ _ _ _ [(0, .v y55 r), (1, I w), (2, .v (.flt .f32) v)] [] _
  refine VC.seq (VC.text ?_)
  refine VO.new (.box) ?_
  refine VO.c (.assign rfl) ?_
  refine VO.go (VC.seq (VC.seq (VC.text ?_)))
  refine VO.call rfl rfl (VF.call (awake_ok )) ?_
  refine VO.c (.not) ?_
  refine VO.c (.move rfl) ?_
  refine VO.r (.ld vt55) ?_
  refine VO.call rfl rfl (VF.call (rShort_ok )) ?_
  refine VO.c (.not) ?_
  refine VO.c (.pickF rfl rfl) ?_
  refine VO.go ?_
  refine VC.condB rfl (fun c1 => ?_) (fun c1 => ?_)
  · try simp only [Bool.and_eq_true, Bool.or_eq_true, Bool.and_eq_false_iff, Bool.or_eq_false_iff, Bool.not_eq_true', Bool.not_eq_false', decide_eq_true_eq, decide_eq_false_iff_not] at c1
    refine VC.seq (VC.text ?_)
    refine VO.call rfl rfl (VF.call (awake_ok )) ?_
    refine VO.c (.assign rfl) ?_
    refine VO.go ?_
    refine VC.ret ?_
    exact VEnd.one rfl evT (pvE (by rfl))
  try simp only [Bool.and_eq_true, Bool.or_eq_true, Bool.and_eq_false_iff, Bool.or_eq_false_iff, Bool.not_eq_true', Bool.not_eq_false', decide_eq_true_eq, decide_eq_false_iff_not] at c1
  have hs := shortE_t c1
  have hl : r.2.2.1.length < 1000000 := by omega
  have hgl : r.2.2.2.length < 1000000 := by omega
  have heq := sta_same (r := r)
  have hw1 := wtrE_len (r := r) (w := w) (g := 1065353216)
  have hw2 := wtrE_len (r := r) (w := w) (g := 3212836864)
  have hab := abvE_len (r := r) (v := v)
  refine VC.skip (VC.seq (VC.text ?_))
  refine VO.r (.ld vt55) ?_
  refine VO.call rfl rfl (VF.call (lRecord_ok (by first | assumption | omega | simp) (by first | assumption | omega | simp))) ?_
  refine VO.c (.move rfl) ?_
  refine VO.call rfl rfl (VF.call (gHighs_ok (by first | assumption | omega | simp) (by first | assumption | omega | simp))) ?_
  refine VO.c (.move rfl) ?_
  refine VO.c (.extract) ?_
  refine VO.c (.extract) ?_
  refine VO.c (.assign rfl) ?_
  refine VO.c (.assign rfl) ?_
  refine VO.go (VC.seq (VC.text ?_))
  refine VO.r (.ld vt55) ?_
  refine VO.call rfl rfl (VF.call (lRecord_ok (by first | assumption | omega | simp) (by first | assumption | omega | simp))) ?_
  refine VO.c (.move rfl) ?_
  refine VO.call rfl rfl (VF.call (gLows_ok (by first | assumption | omega | simp) (by first | assumption | omega | simp))) ?_
  refine VO.c (.move rfl) ?_
  refine VO.c (.extract) ?_
  refine VO.c (.extract) ?_
  refine VO.c (.assign rfl) ?_
  refine VO.c (.assign rfl) ?_
  refine VO.go (VC.seq (VC.text ?_))
  refine VO.r (.ld vt55) ?_
  refine VO.call rfl rfl (VF.call (lRecord_ok (by first | assumption | omega | simp) (by first | assumption | omega | simp))) ?_
  refine VO.c (.move rfl) ?_
  refine VO.call rfl rfl (VF.call (gAbove_ok (by first | assumption | omega | simp) (by first | assumption | omega | simp))) ?_
  refine VO.c (.move rfl) ?_
  refine VO.c (.extract) ?_
  refine VO.c (.extract) ?_
  refine VO.c (.assign rfl) ?_
  refine VO.c (.assign rfl) ?_
  refine VO.go (VC.seq ?_)
  refine VC.keep [(1, I w), (2, .v (.flt .f32) v), (3, .p y55 r), (7, .v y37 (wtrE r w 1065353216)), (8, I (wtrC r w)), (9, .v y37 (wtrE r w 3212836864)), (10, I (wtrC r w)), (11, .v y22 (abvE r v)), (12, I (abvC r v))] ⟨rfl, rfl, rfl, rfl, rfl, rfl, rfl, rfl, rfl, trivial⟩ ?_
  refine VC.text ?_
  refine VO.r (.ld vt55) ?_
  refine VO.call rfl rfl (VF.call (lRecord_ok (by first | assumption | omega | simp) (by first | assumption | omega | simp))) ?_
  refine VO.call rfl rfl (VF.call (gSum_ok (by first | assumption | omega | simp) (by first | assumption | omega | simp))) ?_
  refine VO.c (.move rfl) ?_
  refine VO.c (.extract) ?_
  refine VO.c (.extract) ?_
  refine VO.cell (.alloc zt95) ?_
  intro ww1
  refine VO.setV (cs' := [I ((smE r).1), I ((smE r).2.1), .v (.flt .f32) ((smE r).2.2.1), .v (.flt .f32) ((smE r).2.2.2)]) vt95 .v ?_
  refine VO.shut [(13, .p y95 (smE r))] (.cons rfl (.var m0 .refl) .nil) ?_
  refine VO.c (.assign rfl) ?_
  refine VO.go (VC.seq (VC.text ?_))
  refine VO.r (.ld vt55) ?_
  refine VO.call rfl rfl (VF.call (rRec_ok (by first | assumption | omega | simp) (by first | assumption | omega | simp))) ?_
  refine VO.c (.assign rfl) ?_
  refine VO.go (VC.seq (VC.text ?_))
  refine VO.c (.move rfl) ?_
  refine VO.c (.move rfl) ?_
  refine VO.call rfl rfl (VF.call (rCheckRange_ok )) ?_
  refine VO.new (.lit [recE r, rangeE w (1 : Int) (4096 : Int)] el37) ?_
  refine VO.call rfl rfl (VF.call (lFirst_ok (by first | assumption | omega | simp))) ?_
  refine VO.c (.move rfl) ?_
  refine VO.c (.move rfl) ?_
  refine VO.call rfl rfl (VF.call (rLv_ok )) ?_
  refine VO.new (.lit [recE r, lvlE v] el37) ?_
  refine VO.call rfl rfl (VF.call (lFirst_ok (by first | assumption | omega | simp))) ?_
  refine VO.c (.move rfl) ?_
  refine VO.c (.assign rfl) ?_
  refine VO.c (.assign rfl) ?_
  refine VO.c (.assign rfl) ?_
  refine VO.go (VC.seq (VC.text ?_))
  refine VO.c (.assign rfl) ?_
  refine VO.c (.assign rfl) ?_
  refine VO.go (VC.seq ?_)
  refine VC.nilD 19 (.int .i64) rfl ?_
  refine VC.text ?_
  refine VO.c (.assign rfl) ?_
  refine VO.go (VC.seq ?_)
  refine VC.nilD 20 (.int .i64) rfl ?_
  refine VC.text ?_
  refine VO.cell (.alloc zt98) ?_
  intro ww2
  refine VO.go (VC.seq (VC.seq ?_))
  refine VC.nilD 21 y39 rfl ?_
  refine VC.text ?_
  refine VO.c (.move rfl) ?_
  refine VO.c (.eql) ?_
  refine VO.go ?_
  refine VC.join [(2, .v (.flt .f32) v), (3, .p y55 r), (7, .v y37 (wtrE r w 1065353216)), (8, I (wtrC r w)), (9, .v y37 (wtrE r w 3212836864)), (10, I (wtrC r w)), (11, .v y22 (abvE r v)), (12, I (abvC r v)), (13, .p y95 (smE r)), (14, I (smC r)), (16, I (firstE [recE r, rangeE w (1 : Int) (4096 : Int)])), (17, I (firstE [recE r, lvlE v])), (18, I (recE r)), (19, .v y37 (wtrE r w 1065353216)), (20, .v y37 (wtrE r w 3212836864)), (21, .v y22 []), (22, .raw ww2)] [(ww2, .var [I (0 : Int), I (0 : Int), .v (.flt .f32) (0 : Nat), .v (.flt .f32) (0 : Nat)])] ?_ ?_
  refine VC.condD rfl (fun c12 => ?_) (fun c12 => ?_)
  · have hra := rec_ok (firstE_zero.1 c12 (recE r) (by simp))
    have hwr := range14 (firstE_zero.1 c12 (rangeE w 1 4096) (by simp))
    refine VC.keep [(1, I w), (2, .v (.flt .f32) v), (3, .p y55 r), (7, .v y37 (wtrE r w 1065353216)), (8, I (wtrC r w)), (9, .v y37 (wtrE r w 3212836864)), (10, I (wtrC r w)), (11, .v y22 (abvE r v)), (12, I (abvC r v)), (13, .p y95 (smE r)), (14, I (smC r)), (16, I (firstE [recE r, rangeE w (1 : Int) (4096 : Int)])), (17, I (firstE [recE r, lvlE v])), (18, I (recE r)), (21, .v y22 []), (22, .raw ww2)] ⟨rfl, rfl, rfl, rfl, rfl, rfl, rfl, rfl, rfl, rfl, rfl, rfl, rfl, rfl, rfl, rfl, trivial⟩ ?_
    refine VC.drawn ?_
    refine VD.r [] (.ld vt55) (.inl rfl) ?_
    refine VD.c (.move rfl) ?_
    refine VD.call rfl rfl (VF.call (rWaters_ok hl hgl (by omega) hra.2.2.2.1 (.inl rfl))) ?_
    refine VD.r [] (.ld vt55) (.inl rfl) ?_
    refine VD.c (.move rfl) ?_
    refine VD.call rfl rfl (VF.call (rWaters_ok hl hgl (by omega) hra.2.2.2.1 (.inr rfl))) ?_
    refine VD.nw [78, 75] ?_
    refine VD.c (.assign rfl) ?_
    refine VD.c (.assign rfl) ?_
    refine VD.nil ?_
    exact ⟨⟨rfl, rfl, rfl, rfl, rfl, rfl, rfl, rfl, rfl, rfl, rfl, rfl, rfl, slE rfl (by first | exact watL_t0 c12 | exact watL_f0 c12), slE rfl (by first | exact watL_t0 c12 | exact watL_f0 c12), rfl, rfl, trivial⟩, rfl⟩
  · refine VC.skip ?_
    exact ⟨⟨rfl, rfl, rfl, rfl, rfl, rfl, rfl, rfl, rfl, rfl, rfl, rfl, rfl, slE rfl (by first | exact watL_t0 c12 | exact watL_f0 c12), slE rfl (by first | exact watL_t0 c12 | exact watL_f0 c12), rfl, rfl, trivial⟩, rfl⟩
  refine VC.seq (VC.seq ?_)
  refine VC.keep [(2, .v (.flt .f32) v), (3, .p y55 r), (7, .v y37 (wtrE r w 1065353216)), (8, I (wtrC r w)), (9, .v y37 (wtrE r w 3212836864)), (10, I (wtrC r w)), (11, .v y22 (abvE r v)), (12, I (abvC r v)), (13, .p y95 (smE r)), (14, I (smC r)), (16, I (firstE [recE r, rangeE w (1 : Int) (4096 : Int)])), (17, I (firstE [recE r, lvlE v])), (18, I (recE r)), (19, .v y37 (wtrE r w 1065353216)), (20, .v y37 (wtrE r w 3212836864)), (21, .v y22 []), (22, .raw ww2)] ⟨rfl, rfl, rfl, rfl, rfl, rfl, rfl, rfl, rfl, rfl, rfl, rfl, rfl, rfl, rfl, rfl, rfl, trivial⟩ ?_
  refine VC.text ?_
  refine VO.c (.move rfl) ?_
  refine VO.c (.eql) ?_
  refine VO.go ?_
  refine VC.join [(3, .p y55 r), (7, .v y37 (wtrE r w 1065353216)), (8, I (wtrC r w)), (9, .v y37 (wtrE r w 3212836864)), (10, I (wtrC r w)), (11, .v y22 (abvE r v)), (12, I (abvC r v)), (13, .p y95 (smE r)), (14, I (smC r)), (16, I (firstE [recE r, rangeE w (1 : Int) (4096 : Int)])), (17, I (firstE [recE r, lvlE v])), (18, I (recE r)), (19, .v y37 (wtrE r w 1065353216)), (20, .v y37 (wtrE r w 3212836864)), (21, .v y22 (abvE r v)), (22, .raw ww2)] [(ww2, .var [I (0 : Int), I (0 : Int), .v (.flt .f32) (0 : Nat), .v (.flt .f32) (0 : Nat)])] ?_ ?_
  refine VC.condD rfl (fun c14 => ?_) (fun c14 => ?_)
  · have hra := rec_ok (firstE_zero.1 c14 (recE r) (by simp))
    have hvr : lvlE v = 0 := firstE_zero.1 c14 (lvlE v) (by simp)
    refine VC.text ?_
    refine VO.r (.ld vt55) ?_
    refine VO.c (.move rfl) ?_
    refine VO.call rfl rfl (VF.call (rAbove_ok hl hgl hra.2.2.2.1 hvr)) ?_
    refine VO.c (.assign rfl) ?_
    refine VO.nil ?_
    exact ⟨⟨rfl, rfl, rfl, rfl, rfl, rfl, rfl, rfl, rfl, rfl, rfl, rfl, rfl, rfl, slE rfl (by first | exact above_eq c14 | exact abv_f0 c14), rfl, trivial⟩, rfl⟩
  · refine VC.skip ?_
    exact ⟨⟨rfl, rfl, rfl, rfl, rfl, rfl, rfl, rfl, rfl, rfl, rfl, rfl, rfl, rfl, slE rfl (by first | exact above_eq c14 | exact abv_f0 c14), rfl, trivial⟩, rfl⟩
  refine VC.seq (VC.seq (VC.text ?_))
  refine VO.c (.move rfl) ?_
  refine VO.c (.eql) ?_
  refine VO.go ?_
  refine VC.join [(7, .v y37 (wtrE r w 1065353216)), (8, I (wtrC r w)), (9, .v y37 (wtrE r w 3212836864)), (10, I (wtrC r w)), (11, .v y22 (abvE r v)), (12, I (abvC r v)), (13, .p y95 (smE r)), (14, I (smC r)), (16, I (firstE [recE r, rangeE w (1 : Int) (4096 : Int)])), (17, I (firstE [recE r, lvlE v])), (18, I (smC r)), (19, .v y37 (wtrE r w 1065353216)), (20, .v y37 (wtrE r w 3212836864)), (21, .v y22 (abvE r v)), (22, .raw ww2)] [(ww2, .var [I ((wS r).1), I ((wS r).2.1), .v (.flt .f32) ((wS r).2.2.1), .v (.flt .f32) ((wS r).2.2.2)])] ?_ ?_
  refine VC.condD rfl (fun c16 => ?_) (fun c16 => ?_)
  · have hra := rec_ok c16
    refine VC.text ?_
    refine VO.r (.ld vt55) ?_
    refine VO.call rfl rfl (VF.call (rSum_ok hl hgl hra.2.2.2.1)) ?_
    refine VO.c (.move rfl) ?_
    refine VO.c (.extract) ?_
    refine VO.c (.extract) ?_
    refine VO.setV (cs' := [I ((staE (refS r r.2.2.1.length)).1), I ((staE (refS r r.2.2.1.length)).2.1), .v (.flt .f32) ((staE (refS r r.2.2.1.length)).2.2.1), .v (.flt .f32) ((staE (refS r r.2.2.1.length)).2.2.2)]) vt98 .v ?_
    refine VO.c (.assign rfl) ?_
    refine VO.nil ?_
    exact ⟨⟨rfl, rfl, rfl, rfl, rfl, rfl, rfl, rfl, rfl, rfl, slI rfl (by first | exact smC_t c16 | exact smC_f c16), rfl, rfl, rfl, rfl, trivial⟩, (by first | (rw [wS, if_neg (fun hh => hh c16)]; done) | (rw [wS, if_pos c16]; done) | (rw [wS, if_pos c16]; rfl))⟩
  · refine VC.skip ?_
    exact ⟨⟨rfl, rfl, rfl, rfl, rfl, rfl, rfl, rfl, rfl, rfl, slI rfl (by first | exact smC_t c16 | exact smC_f c16), rfl, rfl, rfl, rfl, trivial⟩, (by first | (rw [wS, if_neg (fun hh => hh c16)]; done) | (rw [wS, if_pos c16]; done) | (rw [wS, if_pos c16]; rfl))⟩
  refine VC.seq (VC.text ?_)
  refine VO.c (.move rfl) ?_
  refine VO.c (.move rfl) ?_
  refine VO.call rfl rfl (VF.call (rSameI_ok (by first | assumption | omega | simp) (by first | assumption | omega | simp))) ?_
  refine VO.c (.move rfl) ?_
  refine VO.cg (r := decide ((wtrE r w 1065353216) = (wtrE r w 1065353216))) (w := true) [] trivial (fun hgd => have g18_3 : decide ((wtrE r w 1065353216) = (wtrE r w 1065353216)) = true := (by simpa using hgd); (.move rfl)) ?_
  refine VO.cg (r := decide ((wtrE r w 1065353216) = (wtrE r w 1065353216))) (w := true) [] trivial (fun hgd => have g18_3 : decide ((wtrE r w 1065353216) = (wtrE r w 1065353216)) = true := (by simpa using hgd); (.move rfl)) ?_
  refine VO.cg (r := decide ((wtrE r w 1065353216) = (wtrE r w 1065353216))) (w := true) [(95, I (wtrC r w)), (96, I (firstE [recE r, rangeE w (1 : Int) (4096 : Int)]))] ⟨rfl, rfl, trivial⟩ (fun hgd => have g18_3 : decide ((wtrE r w 1065353216) = (wtrE r w 1065353216)) = true := (by simpa using hgd); (.eql)) ?_
  refine VO.c (.and) ?_
  refine VO.c (.move rfl) ?_
  refine VO.cg (r := ((decide ((wtrE r w 1065353216) = (wtrE r w 1065353216))) && (decide (wtrC r w = firstE [recE r, rangeE w (1 : Int) (4096 : Int)])))) (w := true) [] trivial (fun hgd => have g18_8 : ((decide ((wtrE r w 1065353216) = (wtrE r w 1065353216))) && (decide (wtrC r w = firstE [recE r, rangeE w (1 : Int) (4096 : Int)]))) = true := (by simpa using hgd); (.move rfl)) ?_
  refine VO.cg (r := ((decide ((wtrE r w 1065353216) = (wtrE r w 1065353216))) && (decide (wtrC r w = firstE [recE r, rangeE w (1 : Int) (4096 : Int)])))) (w := true) [] trivial (fun hgd => have g18_8 : ((decide ((wtrE r w 1065353216) = (wtrE r w 1065353216))) && (decide (wtrC r w = firstE [recE r, rangeE w (1 : Int) (4096 : Int)]))) = true := (by simpa using hgd); (.move rfl)) ?_
  refine VO.callg (r0 := ((decide ((wtrE r w 1065353216) = (wtrE r w 1065353216))) && (decide (wtrC r w = firstE [recE r, rangeE w (1 : Int) (4096 : Int)])))) (w := true) [(100, .v y37 (wtrE r w 3212836864)), (101, .v y37 (wtrE r w 3212836864))] ⟨rfl, rfl, trivial⟩ rfl rfl .same .refl rfl (fun hgd => have g18_8 : ((decide ((wtrE r w 1065353216) = (wtrE r w 1065353216))) && (decide (wtrC r w = firstE [recE r, rangeE w (1 : Int) (4096 : Int)]))) = true := (by simpa using hgd); VF.call (rSameI_ok (by first | assumption | omega | simp) (by first | assumption | omega | simp))) ?_
  refine VO.c (.and) ?_
  refine VO.c (.move rfl) ?_
  refine VO.cg (r := (((decide ((wtrE r w 1065353216) = (wtrE r w 1065353216))) && (decide (wtrC r w = firstE [recE r, rangeE w (1 : Int) (4096 : Int)]))) && (decide ((wtrE r w 3212836864) = (wtrE r w 3212836864))))) (w := true) [] trivial (fun hgd => have g18_13 : (((decide ((wtrE r w 1065353216) = (wtrE r w 1065353216))) && (decide (wtrC r w = firstE [recE r, rangeE w (1 : Int) (4096 : Int)]))) && (decide ((wtrE r w 3212836864) = (wtrE r w 3212836864)))) = true := (by simpa using hgd); (.move rfl)) ?_
  refine VO.cg (r := (((decide ((wtrE r w 1065353216) = (wtrE r w 1065353216))) && (decide (wtrC r w = firstE [recE r, rangeE w (1 : Int) (4096 : Int)]))) && (decide ((wtrE r w 3212836864) = (wtrE r w 3212836864))))) (w := true) [] trivial (fun hgd => have g18_13 : (((decide ((wtrE r w 1065353216) = (wtrE r w 1065353216))) && (decide (wtrC r w = firstE [recE r, rangeE w (1 : Int) (4096 : Int)]))) && (decide ((wtrE r w 3212836864) = (wtrE r w 3212836864)))) = true := (by simpa using hgd); (.move rfl)) ?_
  refine VO.cg (r := (((decide ((wtrE r w 1065353216) = (wtrE r w 1065353216))) && (decide (wtrC r w = firstE [recE r, rangeE w (1 : Int) (4096 : Int)]))) && (decide ((wtrE r w 3212836864) = (wtrE r w 3212836864))))) (w := true) [(105, I (wtrC r w)), (106, I (firstE [recE r, rangeE w (1 : Int) (4096 : Int)]))] ⟨rfl, rfl, trivial⟩ (fun hgd => have g18_13 : (((decide ((wtrE r w 1065353216) = (wtrE r w 1065353216))) && (decide (wtrC r w = firstE [recE r, rangeE w (1 : Int) (4096 : Int)]))) && (decide ((wtrE r w 3212836864) = (wtrE r w 3212836864)))) = true := (by simpa using hgd); (.eql)) ?_
  refine VO.c (.and) ?_
  refine VO.c (.move rfl) ?_
  refine VO.cg (r := ((((decide ((wtrE r w 1065353216) = (wtrE r w 1065353216))) && (decide (wtrC r w = firstE [recE r, rangeE w (1 : Int) (4096 : Int)]))) && (decide ((wtrE r w 3212836864) = (wtrE r w 3212836864)))) && (decide (wtrC r w = firstE [recE r, rangeE w (1 : Int) (4096 : Int)])))) (w := true) [] trivial (fun hgd => have g18_18 : ((((decide ((wtrE r w 1065353216) = (wtrE r w 1065353216))) && (decide (wtrC r w = firstE [recE r, rangeE w (1 : Int) (4096 : Int)]))) && (decide ((wtrE r w 3212836864) = (wtrE r w 3212836864)))) && (decide (wtrC r w = firstE [recE r, rangeE w (1 : Int) (4096 : Int)]))) = true := (by simpa using hgd); (.move rfl)) ?_
  refine VO.cg (r := ((((decide ((wtrE r w 1065353216) = (wtrE r w 1065353216))) && (decide (wtrC r w = firstE [recE r, rangeE w (1 : Int) (4096 : Int)]))) && (decide ((wtrE r w 3212836864) = (wtrE r w 3212836864)))) && (decide (wtrC r w = firstE [recE r, rangeE w (1 : Int) (4096 : Int)])))) (w := true) [] trivial (fun hgd => have g18_18 : ((((decide ((wtrE r w 1065353216) = (wtrE r w 1065353216))) && (decide (wtrC r w = firstE [recE r, rangeE w (1 : Int) (4096 : Int)]))) && (decide ((wtrE r w 3212836864) = (wtrE r w 3212836864)))) && (decide (wtrC r w = firstE [recE r, rangeE w (1 : Int) (4096 : Int)]))) = true := (by simpa using hgd); (.move rfl)) ?_
  refine VO.callg (r0 := ((((decide ((wtrE r w 1065353216) = (wtrE r w 1065353216))) && (decide (wtrC r w = firstE [recE r, rangeE w (1 : Int) (4096 : Int)]))) && (decide ((wtrE r w 3212836864) = (wtrE r w 3212836864)))) && (decide (wtrC r w = firstE [recE r, rangeE w (1 : Int) (4096 : Int)])))) (w := true) [(110, .v y22 (abvE r v)), (111, .v y22 (abvE r v))] ⟨rfl, rfl, trivial⟩ rfl rfl .same .refl rfl (fun hgd => have g18_18 : ((((decide ((wtrE r w 1065353216) = (wtrE r w 1065353216))) && (decide (wtrC r w = firstE [recE r, rangeE w (1 : Int) (4096 : Int)]))) && (decide ((wtrE r w 3212836864) = (wtrE r w 3212836864)))) && (decide (wtrC r w = firstE [recE r, rangeE w (1 : Int) (4096 : Int)]))) = true := (by simpa using hgd); VF.call (rSameSp_ok (by first | assumption | omega | simp) (by first | assumption | omega | simp))) ?_
  refine VO.c (.and) ?_
  refine VO.c (.move rfl) ?_
  refine VO.cg (r := (((((decide ((wtrE r w 1065353216) = (wtrE r w 1065353216))) && (decide (wtrC r w = firstE [recE r, rangeE w (1 : Int) (4096 : Int)]))) && (decide ((wtrE r w 3212836864) = (wtrE r w 3212836864)))) && (decide (wtrC r w = firstE [recE r, rangeE w (1 : Int) (4096 : Int)]))) && (decide ((abvE r v) = (abvE r v))))) (w := true) [] trivial (fun hgd => have g18_23 : (((((decide ((wtrE r w 1065353216) = (wtrE r w 1065353216))) && (decide (wtrC r w = firstE [recE r, rangeE w (1 : Int) (4096 : Int)]))) && (decide ((wtrE r w 3212836864) = (wtrE r w 3212836864)))) && (decide (wtrC r w = firstE [recE r, rangeE w (1 : Int) (4096 : Int)]))) && (decide ((abvE r v) = (abvE r v)))) = true := (by simpa using hgd); (.move rfl)) ?_
  refine VO.cg (r := (((((decide ((wtrE r w 1065353216) = (wtrE r w 1065353216))) && (decide (wtrC r w = firstE [recE r, rangeE w (1 : Int) (4096 : Int)]))) && (decide ((wtrE r w 3212836864) = (wtrE r w 3212836864)))) && (decide (wtrC r w = firstE [recE r, rangeE w (1 : Int) (4096 : Int)]))) && (decide ((abvE r v) = (abvE r v))))) (w := true) [] trivial (fun hgd => have g18_23 : (((((decide ((wtrE r w 1065353216) = (wtrE r w 1065353216))) && (decide (wtrC r w = firstE [recE r, rangeE w (1 : Int) (4096 : Int)]))) && (decide ((wtrE r w 3212836864) = (wtrE r w 3212836864)))) && (decide (wtrC r w = firstE [recE r, rangeE w (1 : Int) (4096 : Int)]))) && (decide ((abvE r v) = (abvE r v)))) = true := (by simpa using hgd); (.move rfl)) ?_
  refine VO.cg (r := (((((decide ((wtrE r w 1065353216) = (wtrE r w 1065353216))) && (decide (wtrC r w = firstE [recE r, rangeE w (1 : Int) (4096 : Int)]))) && (decide ((wtrE r w 3212836864) = (wtrE r w 3212836864)))) && (decide (wtrC r w = firstE [recE r, rangeE w (1 : Int) (4096 : Int)]))) && (decide ((abvE r v) = (abvE r v))))) (w := true) [(115, I (abvC r v)), (116, I (firstE [recE r, lvlE v]))] ⟨rfl, rfl, trivial⟩ (fun hgd => have g18_23 : (((((decide ((wtrE r w 1065353216) = (wtrE r w 1065353216))) && (decide (wtrC r w = firstE [recE r, rangeE w (1 : Int) (4096 : Int)]))) && (decide ((wtrE r w 3212836864) = (wtrE r w 3212836864)))) && (decide (wtrC r w = firstE [recE r, rangeE w (1 : Int) (4096 : Int)]))) && (decide ((abvE r v) = (abvE r v)))) = true := (by simpa using hgd); (.eql)) ?_
  refine VO.c (.and) ?_
  refine VO.c (.move rfl) ?_
  refine VO.rg (r := ((((((decide ((wtrE r w 1065353216) = (wtrE r w 1065353216))) && (decide (wtrC r w = firstE [recE r, rangeE w (1 : Int) (4096 : Int)]))) && (decide ((wtrE r w 3212836864) = (wtrE r w 3212836864)))) && (decide (wtrC r w = firstE [recE r, rangeE w (1 : Int) (4096 : Int)]))) && (decide ((abvE r v) = (abvE r v)))) && (decide (abvC r v = firstE [recE r, lvlE v])))) (w := true) [] trivial (fun hgd => have g18_28 : ((((((decide ((wtrE r w 1065353216) = (wtrE r w 1065353216))) && (decide (wtrC r w = firstE [recE r, rangeE w (1 : Int) (4096 : Int)]))) && (decide ((wtrE r w 3212836864) = (wtrE r w 3212836864)))) && (decide (wtrC r w = firstE [recE r, rangeE w (1 : Int) (4096 : Int)]))) && (decide ((abvE r v) = (abvE r v)))) && (decide (abvC r v = firstE [recE r, lvlE v]))) = true := (by simpa using hgd); (.ld vt95)) ?_
  refine VO.rg (r := ((((((decide ((wtrE r w 1065353216) = (wtrE r w 1065353216))) && (decide (wtrC r w = firstE [recE r, rangeE w (1 : Int) (4096 : Int)]))) && (decide ((wtrE r w 3212836864) = (wtrE r w 3212836864)))) && (decide (wtrC r w = firstE [recE r, rangeE w (1 : Int) (4096 : Int)]))) && (decide ((abvE r v) = (abvE r v)))) && (decide (abvC r v = firstE [recE r, lvlE v])))) (w := true) [] trivial (fun hgd => have g18_28 : ((((((decide ((wtrE r w 1065353216) = (wtrE r w 1065353216))) && (decide (wtrC r w = firstE [recE r, rangeE w (1 : Int) (4096 : Int)]))) && (decide ((wtrE r w 3212836864) = (wtrE r w 3212836864)))) && (decide (wtrC r w = firstE [recE r, rangeE w (1 : Int) (4096 : Int)]))) && (decide ((abvE r v) = (abvE r v)))) && (decide (abvC r v = firstE [recE r, lvlE v]))) = true := (by simpa using hgd); (.ldA (dx := (((wS r).1), ((wS r).2.1), ((wS r).2.2.1), ((wS r).2.2.2))) m0 vt98)) ?_
  refine VO.cg (r := ((((((decide ((wtrE r w 1065353216) = (wtrE r w 1065353216))) && (decide (wtrC r w = firstE [recE r, rangeE w (1 : Int) (4096 : Int)]))) && (decide ((wtrE r w 3212836864) = (wtrE r w 3212836864)))) && (decide (wtrC r w = firstE [recE r, rangeE w (1 : Int) (4096 : Int)]))) && (decide ((abvE r v) = (abvE r v)))) && (decide (abvC r v = firstE [recE r, lvlE v])))) (w := true) [(120, .v y95 (smE r)), (121, .v y98 (((wS r).1), ((wS r).2.1), ((wS r).2.2.1), ((wS r).2.2.2)))] ⟨rfl, rfl, trivial⟩ (fun hgd => have g18_28 : ((((((decide ((wtrE r w 1065353216) = (wtrE r w 1065353216))) && (decide (wtrC r w = firstE [recE r, rangeE w (1 : Int) (4096 : Int)]))) && (decide ((wtrE r w 3212836864) = (wtrE r w 3212836864)))) && (decide (wtrC r w = firstE [recE r, rangeE w (1 : Int) (4096 : Int)]))) && (decide ((abvE r v) = (abvE r v)))) && (decide (abvC r v = firstE [recE r, lvlE v]))) = true := (by simpa using hgd); (.eeqW (by kernel_rfl))) ?_
  refine VO.c (.and) ?_
  refine VO.c (.move rfl) ?_
  refine VO.cg (r := (((((((decide ((wtrE r w 1065353216) = (wtrE r w 1065353216))) && (decide (wtrC r w = firstE [recE r, rangeE w (1 : Int) (4096 : Int)]))) && (decide ((wtrE r w 3212836864) = (wtrE r w 3212836864)))) && (decide (wtrC r w = firstE [recE r, rangeE w (1 : Int) (4096 : Int)]))) && (decide ((abvE r v) = (abvE r v)))) && (decide (abvC r v = firstE [recE r, lvlE v]))) && (eqE tySta (smE r) ((wS r).1, (wS r).2.1, (wS r).2.2.1, (wS r).2.2.2)))) (w := true) [] trivial (fun hgd => have g18_33 : (((((((decide ((wtrE r w 1065353216) = (wtrE r w 1065353216))) && (decide (wtrC r w = firstE [recE r, rangeE w (1 : Int) (4096 : Int)]))) && (decide ((wtrE r w 3212836864) = (wtrE r w 3212836864)))) && (decide (wtrC r w = firstE [recE r, rangeE w (1 : Int) (4096 : Int)]))) && (decide ((abvE r v) = (abvE r v)))) && (decide (abvC r v = firstE [recE r, lvlE v]))) && (eqE tySta (smE r) ((wS r).1, (wS r).2.1, (wS r).2.2.1, (wS r).2.2.2))) = true := (by simpa using hgd); (.move rfl)) ?_
  refine VO.cg (r := (((((((decide ((wtrE r w 1065353216) = (wtrE r w 1065353216))) && (decide (wtrC r w = firstE [recE r, rangeE w (1 : Int) (4096 : Int)]))) && (decide ((wtrE r w 3212836864) = (wtrE r w 3212836864)))) && (decide (wtrC r w = firstE [recE r, rangeE w (1 : Int) (4096 : Int)]))) && (decide ((abvE r v) = (abvE r v)))) && (decide (abvC r v = firstE [recE r, lvlE v]))) && (eqE tySta (smE r) ((wS r).1, (wS r).2.1, (wS r).2.2.1, (wS r).2.2.2)))) (w := true) [] trivial (fun hgd => have g18_33 : (((((((decide ((wtrE r w 1065353216) = (wtrE r w 1065353216))) && (decide (wtrC r w = firstE [recE r, rangeE w (1 : Int) (4096 : Int)]))) && (decide ((wtrE r w 3212836864) = (wtrE r w 3212836864)))) && (decide (wtrC r w = firstE [recE r, rangeE w (1 : Int) (4096 : Int)]))) && (decide ((abvE r v) = (abvE r v)))) && (decide (abvC r v = firstE [recE r, lvlE v]))) && (eqE tySta (smE r) ((wS r).1, (wS r).2.1, (wS r).2.2.1, (wS r).2.2.2))) = true := (by simpa using hgd); (.move rfl)) ?_
  refine VO.cg (r := (((((((decide ((wtrE r w 1065353216) = (wtrE r w 1065353216))) && (decide (wtrC r w = firstE [recE r, rangeE w (1 : Int) (4096 : Int)]))) && (decide ((wtrE r w 3212836864) = (wtrE r w 3212836864)))) && (decide (wtrC r w = firstE [recE r, rangeE w (1 : Int) (4096 : Int)]))) && (decide ((abvE r v) = (abvE r v)))) && (decide (abvC r v = firstE [recE r, lvlE v]))) && (eqE tySta (smE r) ((wS r).1, (wS r).2.1, (wS r).2.2.1, (wS r).2.2.2)))) (w := true) [(125, I (smC r)), (126, I (smC r))] ⟨rfl, rfl, trivial⟩ (fun hgd => have g18_33 : (((((((decide ((wtrE r w 1065353216) = (wtrE r w 1065353216))) && (decide (wtrC r w = firstE [recE r, rangeE w (1 : Int) (4096 : Int)]))) && (decide ((wtrE r w 3212836864) = (wtrE r w 3212836864)))) && (decide (wtrC r w = firstE [recE r, rangeE w (1 : Int) (4096 : Int)]))) && (decide ((abvE r v) = (abvE r v)))) && (decide (abvC r v = firstE [recE r, lvlE v]))) && (eqE tySta (smE r) ((wS r).1, (wS r).2.1, (wS r).2.2.1, (wS r).2.2.2))) = true := (by simpa using hgd); (.eql)) ?_
  refine VO.c (.and) ?_
  refine VO.c (.assign rfl) ?_
  refine VO.go ?_
  refine VC.ret ?_
  exact VEnd.one rfl evT (pvE (by first | (simp [show eqE tySta (smE r) ((wS r).1, (wS r).2.1, (wS r).2.2.1, (wS r).2.2.2) = true from heq, wtrC, abvC]; done) | (exfalso; simp_all; done)))
end Go.Proofs
namespace Go.Fs
open Go.RowKit (Below)
variable {P : Program}
def orcB (fi fj fc : FuncId) (T : TypeId) : FuncId → List Value → Heap → Option (Value × Heap) := fun f xs h =>
  bif Nat.beq f fc then
    match xs with
    | [.pointer (some ⟨b, 0, none⟩)] =>
      match h.get b with
      | some (.row e [p, v] true false) =>
        bif Nat.beq e T then
          match p with
          | .pointer none => some (.tuple #[], h.set b (.row e [.pointer (some ⟨b, 0, none⟩), v] true false))
          | .pointer (some ⟨b', 0, none⟩) => bif Nat.beq b' b then some (.tuple #[], h) else none
          | _ => none
        else none
      | _ => none
    | _ => none
  else orcS fi fj f xs h
theorem orcB_sound {B : Nat} {w0 : World} {fi fj fc : FuncId} {T : TypeId} (hz : w0.drawn = 0) (hS : CallSound P B w0 (orcS fi fj)) (hc : Enters P fc)
    (hF : ∀ (b : Nat) (w : World), w.cell? ⟨b, 0, none⟩ = some (.pointer none) → w.shape? b = some (T, 2) → w.frozen? ⟨b, 0, none⟩ = false →
      Calls P fc #[.pointer (some ⟨b, 0, none⟩)] w fun e w' => e = .returned (.tuple #[]) ∧ w' = w.setCell ⟨b, 0, none⟩ (.pointer (some ⟨b, 0, none⟩)))
    (hU : ∀ (b : Nat) (w : World), w.cell? ⟨b, 0, none⟩ = some (.pointer (some ⟨b, 0, none⟩)) → Calls P fc #[.pointer (some ⟨b, 0, none⟩)] w fun e w' => e = .returned (.tuple #[]) ∧ w' = w) :
    CallSound P B w0 (orcB fi fj fc T) := by
  intro f xs h v h' hf
  unfold orcB at hf
  cases hb : Nat.beq f fc with
  | false =>
    rw [hb] at hf
    exact hS f xs h v h' hf
  | true =>
    have := nbeq hb
    subst this
    rw [hb] at hf
    simp only [cond_true] at hf
    split at hf
    · rename_i b
      split at hf
      · rename_i e p u hg
        obtain ⟨he, hf2⟩ := bif_some hf
        obtain rfl := nbeq he
        refine ⟨hc, fun ρ S w args' hr ha nn => ?_⟩
        obtain ⟨hsb, cur, k1, k2, k3, k4, k5, k6, k7⟩ := hr.objs b _ hg
        have hcl : cur.length = 2 := (k6 rfl).symm
        match cur, hcl with
        | [p', u'], _ =>
        have hp : VR ρ S p p' := k7 0 (by simp)
        have hu : VR ρ S u u' := k7 1 (by simp)
        have hat : (ρ b).at 0 = ⟨(ρ b).block, 0, none⟩ := by unfold Loc.at; rw [k2]
        have harg : args' = [.pointer (some ⟨(ρ b).block, 0, none⟩)] := by
          have h1 := ha.1
          match args', h1 with
          | [a], _ =>
            have h2 : VR ρ S (.pointer (some ⟨b, 0, none⟩)) a := ha.2 0 (by simp)
            rw [h2.ptr_inv.2, hat]
        subst harg
        have hcell : w.cell? ⟨(ρ b).block, 0, none⟩ = some p' := by simp [World.cell?, k1]
        split at hf2
        · simp only [Option.some.injEq, Prod.mk.injEq] at hf2
          obtain ⟨rfl, rfl⟩ := hf2
          obtain rfl := hp.eq_of_af0 rfl
          have hC : CallsIn Fence.wide nn P f #[.pointer (some ⟨(ρ b).block, 0, none⟩)] w _ := callsIn_wide.2 (hF (ρ b).block w hcell (by simp [World.shape?, k1]) (frozen_soft k1 (by rw [k3]; exact Nat.zero_lt_succ _)))
          refine hC.mono fun e2 w' hret => ?_
          obtain ⟨rfl, rfl⟩ := hret
          refine ⟨ρ, Moved.set hr hg rfl rfl rfl rfl rfl (by simp [World.setCell]) (fun k hk => ?_) ?_, VR.tuple' LR.nil⟩
          · simp only [World.setCell, Array.getElem?_modify]
            rw [if_neg (fun e0 => hk e0.symm)]
          refine ⟨[.pointer (some ⟨(ρ b).block, 0, none⟩), u'], ?_, k2, k3, k4, Nat.le_refl _, fun _ => rfl, fun i hi => ?_⟩
          · simp only [World.setCell, Array.getElem?_modify, if_pos rfl, k1]
            simp
          match i, hi with
          | 0, _ => show VR ρ S (.pointer (some ⟨b, 0, none⟩)) (.pointer (some ⟨(ρ b).block, 0, none⟩)); rw [← hat]; exact .ptr b 0 hsb
          | 1, _ => exact hu
        · rename_i b'
          obtain ⟨hbb, hf3⟩ := bif_some hf2
          obtain rfl := nbeq hbb
          simp only [Option.some.injEq, Prod.mk.injEq] at hf3
          obtain ⟨rfl, rfl⟩ := hf3
          have hp2 := hp.ptr_inv.2
          rw [hat] at hp2
          subst hp2
          have hC : CallsIn Fence.wide nn P f #[.pointer (some ⟨(ρ b').block, 0, none⟩)] w _ := callsIn_wide.2 (hU (ρ b').block w hcell)
          refine hC.mono fun e2 w' hret => ?_
          obtain ⟨rfl, rfl⟩ := hret
          exact ⟨ρ, Moved.same hr, VR.tuple' LR.nil⟩
        cases hf2
      cases hf
    cases hf
end Go.Fs
namespace Go.Fs
open Go.RowKit (Below)
variable {P : Program} {ops : Array Oper} {n : Nat}
def sameV : Value → Value → Bool
  | .int k a, .int k' b => decide (k = k') && decide (a = b)
  | .bool a, .bool b => decide (a = b)
  | _, _ => false
theorem sameV_eq {a b : Value} (h : sameV a b = true) : a = b := by
  unfold sameV at h
  split at h
  · obtain ⟨h1, h2⟩ := band h
    rw [of_decide_eq_true h1, of_decide_eq_true h2]
  · rw [of_decide_eq_true h]
  cases h
def sameL : List Value → List Value → Bool
  | [], [] => true
  | a :: r, b :: q => sameV a b && sameL r q
  | _, _ => false
theorem sameL_eq : ∀ {a b : List Value}, sameL a b = true → a = b
  | [], [], _ => rfl
  | [], _ :: _, h => by cases h
  | _ :: _, [], h => by cases h
  | a :: r, b :: q, h => by
    obtain ⟨h1, h2⟩ := band (h : (sameV a b && sameL r q) = true)
    rw [sameV_eq h1, sameL_eq h2]
def sameO : AObj → AObj → Bool
  | .row e cs o m, .row e' cs' o' m' => Nat.beq e e' && sameL cs cs' && decide (o = o') && decide (m = m')
  | _, _ => false
theorem sameO_eq {a b : AObj} (h : sameO a b = true) : a = b := by
  unfold sameO at h
  split at h
  · obtain ⟨h, h1⟩ := band h
    obtain ⟨h, h2⟩ := band h
    obtain ⟨h, h3⟩ := band h
    rw [nbeq h, sameL_eq h3, of_decide_eq_true h2, of_decide_eq_true h1]
  cases h
def okRd (rd : List (Nat × AObj)) (h : Heap) : Bool := rd.all fun p => match h.get p.1 with
  | some ob => sameO ob p.2
  | none => false
theorem stLook_mem {b : Nat} {ob : AObj} : ∀ {l : List (Nat × AObj)}, look l b = some ob → (b, ob) ∈ l
  | [], h => by cases h
  | (c, oc) :: r, h => by
    simp only [look] at h
    cases hc : Nat.beq c b with
    | true =>
      rw [hc] at h
      simp only [cond_true, Option.some.injEq] at h
      rw [nbeq hc, h]; exact List.mem_cons_self
    | false =>
      rw [hc] at h
      simp only [cond_false] at h
      exact List.mem_cons_of_mem _ (stLook_mem h)
theorem okRd_get {rd : List (Nat × AObj)} {h : Heap} (hk : okRd rd h = true) {b : Nat} {ob : AObj} (hl : look rd b = some ob) : h.get b = some ob := by
  have := List.all_eq_true.1 hk _ (stLook_mem hl)
  simp only at this
  split at this
  · rename_i o2 hg
    rw [hg, sameO_eq this]
  cases this
def stillR (P : Program) (rd : List (Nat × AObj)) (ops : Array Oper) (n : Nat) (o : Oper) (s : DSt) : Option DSt :=
  match fsWanted ops s.t o, o.op with
  | some true, .load T a =>
    match evalO s.t a with
    | .pointer (some p) =>
      match look rd p.block with
      | some ob =>
        match fsLoad P T (evalO s.t a) { next := s.h.next, low := s.h.next, objs := [(p.block, ob)] } with
        | some v => (put n s.t o.dst v).map fun t => { s with t, bs := s.bs ++ [beforeOf s.bs o] }
        | none => none
      | none => none
    | _ => none
  | _, _ => none
def fsDrawnY (P : Program) (rd : List (Nat × AObj)) (step : Oper → (Operand → Value) → Heap → Option (Value × Heap)) (ops : Array Oper) (n : Nat) : List Oper → Nat → DSt → Option DSt
  | [], _, s => bif okRd rd s.h then some s else none
  | o :: r, i, s => bif okRd rd s.h then
      match fsDraw step ops n o i s with
      | some s' => fsDrawnY P rd step ops n r (i + 1) s'
      | none => match stillR P rd ops n o s with
        | some s' => fsDrawnY P rd step ops n r (i + 1) s'
        | none => none
    else none
def fsReads (P : Program) (h0 : Heap) (step : Oper → (Operand → Value) → Heap → Option (Value × Heap)) (ops : Array Oper) (n : Nat) : List Oper → Nat → DSt → List (Nat × AObj) → List (Nat × AObj)
  | [], _, _, l => l
  | o :: r, i, s, l => match fsDraw step ops n o i s with
    | some s' => fsReads P h0 step ops n r (i + 1) s' l
    | none => match stillO P h0 ops n o s with
      | some (s', b) => match h0.get (b - 1) with
        | some ob => fsReads P h0 step ops n r (i + 1) s' ((b - 1, ob) :: l)
        | none => l
      | none => l
def drawnY (P : Program) (h0 : Heap) (step : Oper → (Operand → Value) → Heap → Option (Value × Heap)) (ops : Array Oper) (n : Nat) (s : DSt) (rd : List (Nat × AObj)) : Option DSt :=
  bif rd.all fun p => Nat.blt p.1 h0.next then fsDrawnY P rd step ops n ops.toList 0 s else none

theorem stillR_of {call : FuncId → List Value → Heap → Option (Value × Heap)} {yield : Nat → List Value → Heap → Option (Value × Heap)} {X : Nat → AObj → Prop} {rd : List (Nat × AObj)} {o : Oper} {i : Nat} {s s' : DSt}
    (hf : stillR P rd ops n o s = some s') (hX : ∀ c ob, look rd c = some ob → X c ob) :
    s'.bs = s.bs ++ [beforeOf s.bs o] ∧ Did (fsOp P call yield) ops n X o i s s' := by
  unfold stillR at hf
  split at hf
  · rename_i T a hw hop
    split at hf
    · rename_i p hev
      split at hf
      · rename_i ob hg
        split at hf
        · rename_i v hv
          obtain ⟨t, h3, h4⟩ := Option.map_eq_some_iff.1 hf
          subst h4
          refine ⟨rfl, .still hw v [(p.block, ob)] (fun c oc hc => ?_) ?_ h3 rfl rfl rfl rfl⟩
          · simp only [look] at hc
            cases hbc : Nat.beq p.block c with
            | true =>
              rw [hbc] at hc
              simp only [cond_true, Option.some.injEq] at hc
              obtain rfl := nbeq hbc
              subst hc
              exact hX _ _ hg
            | false => rw [hbc] at hc; cases hc
          unfold fsOp
          rw [hop]
          simp only [hv, Option.map_some]
        cases hf
      cases hf
    cases hf
  cases hf
theorem drawnY_trace {call : FuncId → List Value → Heap → Option (Value × Heap)} {yield : Nat → List Value → Heap → Option (Value × Heap)} {rd : List (Nat × AObj)} : ∀ (l : List Oper) (i : Nat) (s s' : DSt), fsDrawnY P rd (fsOp P call yield) ops n l i s = some s' →
    ∃ st : Nat → DSt, st i = s ∧ st (i + l.length) = s' ∧ (∀ q, i ≤ q → q ≤ i + l.length → okRd rd (st q).h = true) ∧
    ∀ j o, l[j]? = some o → ∀ X : Nat → AObj → Prop, (∀ c ob, look rd c = some ob → X c ob) → (st (i + j + 1)).bs = (st (i + j)).bs ++ [beforeOf (st (i + j)).bs o] ∧ Did (fsOp P call yield) ops n X o (i + j) (st (i + j)) (st (i + j + 1))
  | [], i, s, s', h => by
    simp only [fsDrawnY] at h
    obtain ⟨h1, h2⟩ := bif_some h
    simp only [Option.some.injEq] at h2
    subst h2
    exact ⟨fun _ => s, rfl, rfl, fun _ _ _ => h1, fun j o hj => by simp at hj⟩
  | o :: l, i, s, s', h => by
    simp only [fsDrawnY] at h
    obtain ⟨hok, h⟩ := bif_some h
    have key : ∀ s1, fsDrawnY P rd (fsOp P call yield) ops n l (i + 1) s1 = some s' →
        (∀ X : Nat → AObj → Prop, (∀ c ob, look rd c = some ob → X c ob) → s1.bs = s.bs ++ [beforeOf s.bs o] ∧ Did (fsOp P call yield) ops n X o i s s1) →
      ∃ st : Nat → DSt, st i = s ∧ st (i + (o :: l).length) = s' ∧ (∀ q, i ≤ q → q ≤ i + (o :: l).length → okRd rd (st q).h = true) ∧
        ∀ j o', (o :: l)[j]? = some o' → ∀ X : Nat → AObj → Prop, (∀ c ob, look rd c = some ob → X c ob) → (st (i + j + 1)).bs = (st (i + j)).bs ++ [beforeOf (st (i + j)).bs o'] ∧ Did (fsOp P call yield) ops n X o' (i + j) (st (i + j)) (st (i + j + 1)) := fun s1 hr hd => by
      obtain ⟨st, h1, h2, hq, h3⟩ := drawnY_trace l (i + 1) s1 s' hr
      refine ⟨fun k => if k = i then s else st k, by simp, ?_, fun q hq1 hq2 => ?_, fun j o' hj X hX => ?_⟩
      · simp only [List.length_cons]
        rw [if_neg (by omega), ← h2]
        congr 1; omega
      · rw [List.length_cons] at hq2
        by_cases e : q = i
        · subst e; simpa using hok
        simp only [if_neg e]; exact hq q (by omega) (by omega)
      cases j with
      | zero =>
        simp at hj
        subst hj
        simpa [h1] using hd X hX
      | succ j =>
        simp only [List.getElem?_cons_succ] at hj
        have := h3 j o' hj X hX
        rw [show i + 1 + j = i + (j + 1) by omega] at this
        simp only
        rw [if_neg (by omega), if_neg (by omega)]
        exact this
    split at h
    · rename_i s1 hs1
      exact key s1 h fun X _ => did_of hs1
    split at h
    · rename_i s1 hs1
      exact key s1 h fun X hX => stillR_of hs1 hX
    cases h
theorem traceY_of {call : FuncId → List Value → Heap → Option (Value × Heap)} {yield : Nat → List Value → Heap → Option (Value × Heap)} {t0 : Tr} {h0 : Heap} {s : DSt} {rd : List (Nat × AObj)} (h : drawnY P h0 (fsOp P call yield) ops n ⟨t0, h0, [], [], 0, false⟩ rd = some s) : ∃ st, Trace (fsOp P call yield) ops n st t0 h0 ∧ st ops.size = s := by
  unfold drawnY at h
  obtain ⟨hb, h⟩ := bif_some h
  obtain ⟨st, h1, h2, hq, h3⟩ := drawnY_trace _ _ _ _ h
  have h2' : st ops.size = s := by simpa using h2
  refine ⟨st, ⟨h1, fun i o ho => ?_⟩, h2'⟩
  have := h3 i o (by simpa using ho) (fun b ob => h0.get b = some ob ∧ b < h0.next ∧ (b < (st ops.size).h.low ∨ ∀ q, q ≤ ops.size → (st q).h.get b = some ob)) (fun c ob hc => ?_)
  · simpa only [Nat.zero_add] using this
  have hall : ∀ q, q ≤ ops.size → (st q).h.get c = some ob := fun q hq2 => okRd_get (hq q (Nat.zero_le _) (by simpa using hq2)) hc
  have h0 := hall 0 (Nat.zero_le _)
  rw [h1] at h0
  exact ⟨h0, nblt (List.all_eq_true.1 hb _ (stLook_mem hc)), .inr hall⟩
variable {B : Nat} {w0 : World} {S : Nat → Prop} {ρ0 : Ren} {call : FuncId → List Value → Heap → Option (Value × Heap)} {yield : Nat → List Value → Heap → Option (Value × Heap)} {t0 : Tr} {h0 : Heap}
theorem drawn_wpY (hcs : CallSnd P B w0 call) (hys : YieldSound P B w0 yield) (hok : regionOk ops = true) {s : DSt} {rd : List (Nat × AObj)} (hf : drawnY P h0 (fsOp P call yield) ops n ⟨t0, h0, [], [], 0, false⟩ rd = some s)
    {w : World} {a : Act} (hr : HR P ρ0 S B w0 h0 w) (ht : TrR ρ0 S t0 n a.tmps) {r : Option Nat} {nn : Nat} {Q : Exit → Act → World → Prop}
    (k : ∀ ρ' w' a', Moved P B w0 ρ0 ρ' S h0 s.h w w' → TrR ρ' (Ext S h0 s.h) s.t n a'.tmps → a'.defers = a.defers → Q .normal a' w') (t : Nat) :
    wpOpsIn (Wide r) nn P ops Q (Region.schedule true ops t) a w := drawn_wpT hcs hys hok (traceY_of hf) hr ht k t
end Go.Fs
namespace Go.Fs
open Go.RowKit (Below)
variable {P : Program} {B : Nat} {w0 : World}

def fsStepX (P : Program) (orc : FuncId → List Value → Heap → Option (Value × Heap)) (rec : Rec) : Rec := fun rnd c fr h =>
  match c with
  | .region _ ops true => match drawnX P { next := h.next, low := h.next, objs := h.objs } (fsOp P (callOf P orc rec) (fsYield rec)) ops fr.n ⟨fr.t, { next := h.next, low := h.next, objs := h.objs }, [], [], 0, false⟩ with
    | some s => some (.normal, { t := s.t, n := fr.n, marks := fr.marks }, { next := s.h.next, low := min h.low s.h.low, objs := s.h.objs })
    | none => match drawnY P { next := h.next, low := h.next, objs := h.objs } (fsOp P (callOf P orc rec) (fsYield rec)) ops fr.n ⟨fr.t, { next := h.next, low := h.next, objs := h.objs }, [], [], 0, false⟩ (fsReads P { next := h.next, low := h.next, objs := h.objs } (fsOp P (callOf P orc rec) (fsYield rec)) ops fr.n ops.toList 0 ⟨fr.t, { next := h.next, low := h.next, objs := h.objs }, [], [], 0, false⟩ []) with
      | some s => some (.normal, { t := s.t, n := fr.n, marks := fr.marks }, { next := s.h.next, low := min h.low s.h.low, objs := s.h.objs })
      | none => fsStep P orc rec rnd c fr h
  | c => fsStep P orc rec rnd c fr h
def fsCodeX (P : Program) (orc : FuncId → List Value → Heap → Option (Value × Heap)) : Nat → Rec
  | 0 => fun _ _ _ _ => none
  | n + 1 => fsStepX P orc (fsCodeX P orc n)

theorem HR.low {ρ : Ren} {S : Nat → Prop} {h : Heap} {w : World} (hr : HR P ρ S B w0 h w) (l : Nat) : HR P ρ S B w0 { next := h.next, low := l, objs := h.objs } w :=
  { objs := hr.objs, inj := hr.inj, base := hr.base, ro := hr.ro, ids := hr.ids, pos := hr.pos, below := hr.below, drawn := hr.drawn, size := hr.size }
theorem Moved.lowered {ρ ρ' : Ren} {S : Nat → Prop} {h h' : Heap} {w w' : World} {l : Nat} (m : Moved P B w0 ρ ρ' S { next := h.next, low := l, objs := h.objs } h' w w') :
    Moved P B w0 ρ ρ' S h { next := h'.next, low := min h.low h'.low, objs := h'.objs } w w' where
  agree := m.agree
  next := m.next
  hr := m.hr.low _
  frame := ⟨m.frame.os, m.frame.tape, m.frame.output, m.frame.size, m.frame.block⟩
  low := Nat.min_le_left _ _
  keep := fun i hi hl => m.keep i hi (Nat.lt_of_lt_of_le hl (Nat.min_le_right _ _))
  old := m.old
  fresh := fun i o ho hi => by
    obtain ⟨h1, h2⟩ := m.fresh i o ho hi
    refine ⟨h1, ?_⟩
    rcases h2 with h2 | ⟨j, oj, h3, h4, h5, h6, h7⟩
    · exact .inl h2
    exact .inr ⟨j, oj, h3, h4, h5, Nat.le_trans (Nat.min_le_right _ _) h6, h7⟩
theorem stepX_sound (hP : ProgOk P) {orc : FuncId → List Value → Heap → Option (Value × Heap)} (horc : CallSound P B w0 orc) {m : Nat} {rec : Rec} (hrec : SoundR P B w0 m rec) : SoundR P B w0 (m + 1) (fsStepX P orc rec) := by
  have hcs : CallSnd P B w0 (callOf P orc rec) := call_sound hP horc hrec
  have hys : YieldSound P B w0 (fsYield rec) := yield_sound hrec
  have hold := step_sound hP horc hrec
  intro rnd c fr h e fr' h' hok hf
  cases c with
  | region id ops draw =>
    cases draw with
    | false => exact hold rnd _ fr h e fr' h' hok hf
    | true =>
      intro ρ S w a nn Q hr ht hm hs k
      simp only [fsStepX] at hf
      split at hf
      · rename_i s hrun
        simp only [Option.some.injEq, Prod.mk.injEq] at hf
        obtain ⟨rfl, rfl, rfl⟩ := hf
        refine wpIn_region_draw fun t => ?_
        rw [hP.mixed]
        exact drawn_wpX (h0 := { next := h.next, low := h.next, objs := h.objs }) (call := callOf P orc rec) (yield := fsYield rec) hcs hys hok hrun ((hr.drew _).low _) ht (fun ρ1 w1 a1 m1 ht1 hd1 => k _ _ _ ⟨(Moved.ofDrew m1).lowered, ht1, by rw [hd1]; exact hm.mono fun b hb => ⟨.inl hb, m1.agree b hb⟩⟩) t
      split at hf
      · rename_i s hrun
        simp only [Option.some.injEq, Prod.mk.injEq] at hf
        obtain ⟨rfl, rfl, rfl⟩ := hf
        refine wpIn_region_draw fun t => ?_
        rw [hP.mixed]
        exact drawn_wpY (h0 := { next := h.next, low := h.next, objs := h.objs }) (call := callOf P orc rec) (yield := fsYield rec) hcs hys hok hrun ((hr.drew _).low _) ht (fun ρ1 w1 a1 m1 ht1 hd1 => k _ _ _ ⟨(Moved.ofDrew m1).lowered, ht1, by rw [hd1]; exact hm.mono fun b hb => ⟨.inl hb, m1.agree b hb⟩⟩) t
      exact hold rnd _ fr h e fr' h' hok hf ρ S w a nn Q hr ht hm hs k
  | _ => exact hold rnd _ fr h e fr' h' hok hf

theorem codeX_sound (hP : ProgOk P) {orc : FuncId → List Value → Heap → Option (Value × Heap)} (horc : CallSound P B w0 orc) : ∀ m, SoundR P B w0 m (fsCodeX P orc m)
  | 0 => fun rnd c fr h e fr' h' _ hf => by cases hf
  | m + 1 => stepX_sound hP horc (codeX_sound hP horc m)
theorem fsX_calls (hP : ProgOk P) {orc : FuncId → List Value → Heap → Option (Value × Heap)} (horc : CallSound P B w0 orc) (m : Nat) : CallSound P B w0 (fsEnter P (fsCodeX P orc m)) := enter_sound hP (codeX_sound hP horc m)
theorem fsX_closed (hP : ProgOk P) {w : World} {orc : FuncId → List Value → Heap → Option (Value × Heap)} (horc : CallSound P w.heap.size (wz w) orc) {m : Nat} {f : FuncId} {args : List Value} {v : Value} (ha : args.all af = true)
    (hf : (fsEnter P (fsCodeX P orc m) f args ⟨1, 1, []⟩).map (·.1) = some v) (hv : af v = true) :
    Calls P f args.toArray w fun | .returned v', w' => v' = v ∧ Below w.heap.size w w' | _, _ => False := by
  obtain ⟨⟨v0, h0⟩, h1, h2⟩ := Option.map_eq_some_iff.1 hf
  simp only at h2
  subst h2
  have hr : HR P (fun _ => Loc.clean 0 0 0 0) (fun _ => False) w.heap.size (wz w) ⟨1, 1, []⟩ w :=
    { objs := fun i o hi => (by cases hi), inj := fun i j oi oj hi => (by cases hi), base := fun i o hi => (by cases hi), ro := fun i o hi => (by cases hi), ids := fun b hb => hb.elim, pos := by decide,
      below := z_below (Below.refl _ _), drawn := Nat.zero_le _, size := Nat.le_refl _ }
  have hc := ((fsX_calls hP horc m) f args _ _ _ h1).2 _ _ w args hr ⟨rfl, fun i hi => .of_af (List.all_eq_true.1 ha _ (mem_getD hi))⟩ 0
  refine Calls.mono (callsIn_wide.1 hc) fun e w' he => ?_
  cases e with
  | returned v' =>
    obtain ⟨ρ', m1, hv1⟩ := he
    exact ⟨hv1.eq_of_af hv, below_z m1.hr.below⟩
  | panicked c => exact he.elim
  | outgrown => exact he.elim
theorem awakeX_calls (hP : ProgOk P) {B : Nat} {w0 : World} {O : FuncId → List Value → Heap → Option (Value × Heap)} {fa : FuncId} (hS : ∀ w, Below B w0 w → CallSound P w.heap.size (wz w) O) {m : Nat}
    (hrun : (fsEnter P (fsCodeX P O m) fa [] ⟨1, 1, []⟩).map (·.1) = some (.bool true)) (w : World) (hw : Below B w0 w) :
    Calls P fa #[] w fun | .returned v', w' => v' = .bool true ∧ Below w.heap.size w w' | _, _ => False :=
  fsX_closed hP (hS w hw) (args := []) rfl hrun rfl
end Go.Fs
namespace Go.Fs
variable {P : Program} {orc : FuncId → List Value → Heap → Option (Value × Heap)}
def runPre (P : Program) (orc : FuncId → List Value → Heap → Option (Value × Heap)) : Nat → Nat → Code → Fr → Heap → Option (Nat × Code × Fr × Heap)
  | 0, n, c, fr, h => some (n, c, fr, h)
  | k + 1, n, c, fr, h => match n, c with
    | n + 1, .seq a b => match fsCodeX P orc n none a fr h with
      | some (.normal, fr1, h1) => runPre P orc k n b fr1 h1
      | _ => none
    | _, _ => none
theorem run_via : ∀ {k n : Nat} {c : Code} {fr : Fr} {h : Heap} {n' : Nat} {c' : Code} {fr' : Fr} {h' : Heap}, runPre P orc k n c fr h = some (n', c', fr', h') → fsCodeX P orc n none c fr h = fsCodeX P orc n' none c' fr' h'
  | 0, n, c, fr, h, n', c', fr', h', hr => by
    simp only [runPre, Option.some.injEq, Prod.mk.injEq] at hr
    obtain ⟨rfl, rfl, rfl, rfl⟩ := hr
    rfl
  | k + 1, n, c, fr, h, n', c', fr', h', hr => by
    simp only [runPre] at hr
    split at hr
    · rename_i n a b
      split at hr
      · rename_i fr1 h1 ha
        rw [← run_via hr]
        show fsStep P orc (fsCodeX P orc n) none (.seq a b) fr h = _
        simp only [fsStep, ha]
      cases hr
    cases hr
def endV (P : Program) (fn : Func) (h : Heap) (x : Ex × Fr × Heap) : Option Value :=
  bif x.1.goes then
    match dropMarks x.2.1.marks x.2.2 with
    | some h2 => (fsResults P x.2.1.t h2 fn.results.toList).map tupled
    | none => none
  else none
theorem enter_map {rec : Rec} {f : FuncId} {args : List Value} {h : Heap} {fn : Func} {c : Code} (hf : P.funcs[f]? = some fn) (hc : fn.body = some c) (hn : (Nat.blt 4000 fn.ntmps || Nat.blt fn.ntmps args.length) = false) :
    (fsEnter P rec f args h).map (·.1) = (rec none c ⟨fillTr .leaf 0 args, fn.ntmps, []⟩ { next := h.next, low := h.next, objs := h.objs }).bind (endV P fn h) := by
  unfold fsEnter fsEnterK endV
  simp only [hf, hc, hn, cond_false]
  cases rec none c ⟨fillTr .leaf 0 args, fn.ntmps, []⟩ { next := h.next, low := h.next, objs := h.objs } with
  | none => rfl
  | some x =>
    obtain ⟨e, fr, h1⟩ := x
    simp only [Option.bind_some]
    cases e.goes with
    | false => rfl
    | true =>
      simp only [cond_true]
      cases dropMarks fr.marks h1 with
      | none => rfl
      | some h2 =>
        simp only
        cases fsResults P fr.t h2 fn.results.toList with
        | none => rfl
        | some vs =>
          simp only [Option.map_some]
          generalize (!false && (af (tupled vs) && Nat.ble h.next h2.low)) = q
          cases q <;> rfl
def sufx : Nat → Code → Code
  | 0, c => c
  | k + 1, .seq _ b => sufx k b
  | _ + 1, c => c
def rfOf : Code → Option (Array Tmp × Code × Code)
  | .rangeFunc _ ps a b => some (ps, a, b)
  | .seq a b => (rfOf a).or (rfOf b)
  | .cond _ a b => (rfOf a).or (rfOf b)
  | .block _ b => rfOf b
  | .loop b => rfOf b
  | .scope b => rfOf b
  | _ => none
def rfIn (fn : Func) : Array Tmp × Code × Code := (fn.body.bind rfOf).getD (#[], .skip, .skip)
end Go.Fs
namespace Go.Fs
open Go.RowKit (Below)

variable {P : Program} {B : Nat} {w0 : World}
theorem orcI_sound {fi : FuncId} (hz : w0.drawn = 0) (hi : Enters P fi)
    (hI : ∀ (n : Int) (w : World), Below B w0 w → -9223372036854775808 ≤ n → n ≤ 9223372036854775807 → Calls P fi #[.int .i64 n] w fun e w' => e = .returned (.string ⟨(Lib.itoa n).toArray⟩) ∧ Below w.heap.size w w') : CallSound P B w0 (orcS fi fi) := by
  intro f xs h v h' hf
  unfold orcS at hf
  cases hfi : Nat.beq f fi with
  | true =>
    have := nbeq hfi
    subst this
    rw [hfi] at hf
    simp only [cond_true] at hf
    split at hf
    · rename_i n
      obtain ⟨hc, hf2⟩ := bif_some hf
      obtain ⟨h0, h1⟩ := band hc
      have h0 := of_decide_eq_true h0
      have h1 := of_decide_eq_true h1
      simp only [Option.some.injEq, Prod.mk.injEq] at hf2
      obtain ⟨rfl, rfl⟩ := hf2
      refine ⟨hi, fun ρ S w args' hr ha nn => ?_⟩
      have he : args' = [.int .i64 n] := ha.eq_of_af (by rfl)
      subst he
      have hC : CallsIn Fence.wide nn P f #[.int .i64 n] w _ := callsIn_wide.2 (hI n w hr.below (by omega) (by omega))
      refine hC.mono fun e w' hret => ?_
      obtain ⟨rfl, hb⟩ := hret
      exact ⟨ρ, Moved.grewWorld hr hb (by rw [hz]; exact Nat.zero_le _), by rw [itoaF_eq h0 h1]; exact .lit rfl⟩
    cases hf
  | false =>
    rw [hfi] at hf
    simp only [cond_false] at hf
    cases hf
end Go.Fs
