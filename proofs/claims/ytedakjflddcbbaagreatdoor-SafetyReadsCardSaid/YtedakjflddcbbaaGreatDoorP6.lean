/- Parts of the proof: an evaluator of the model, what it is sound for, and contracts of functions. No condition. -/
import Derived.Test.YtedakjflddcbbaaGreatDoorP5
import Derived.Test.YtedakjflddcbbaaGreatDoorP4
import Derived.Test.YtedakjflddcbbaaGreatDoorP3
import Derived.Lib.Bytealg
set_option linter.all false
namespace Go.Proofs
open Go.Fs
abbrev y56 : Ty := (.pair .str (.pair .bool (.sl .str)))
theorem vt24 : ValT Tryz.prog 24 y24 := valT_of (by kernel_rfl)
theorem vt56 : ValT Tryz.prog 56 y56 := valT_of (by kernel_rfl)
theorem zt56 : ZerT Tryz.prog 56 y56 := zerT_of (z := .agg #[.string ByteArray.empty, .bool false, .slice none 0 0]) (by kernel_rfl) rfl rfl
def knownC (c : Cse) (i : Nat) (s : ByteArray) : Bool := decide (0 ≤ evidE c.2.1 s) || decide (0 ≤ claimE (c.2.2.take i) s)
def cAt (c : Cse) (i : Nat) : Clm := c.2.2.getD i (ByteArray.empty, false, [])
theorem cAt_eq {c : Cse} {i : Nat} (h : i < c.2.2.length) : cAt c i = c.2.2[i] := by simp [cAt, h]
def clAt (c : Cse) (i : Nat) : Int := firstE [whenE (!nameB (cAt c i).1) 8, whenE (knownC c i (cAt c i).1) 9, usesE (knownC c i) (cAt c i).2.2]
theorem claim_lt {c : Cse} {i : Nat} (h : i < c.2.2.length) : claimE c.2.2 c.2.2[i].1 < (i : Int) ↔ 0 ≤ claimE (c.2.2.take i) c.2.2[i].1 := idxG_lt h (decide_eq_true rfl)
theorem usesAt_r {K : ByteArray → Bool} {l : List ByteArray} {i : Nat} (h : i < l.length) : usesAt K l i = if K l[i] = true then whenE (hasB (l.take i) l[i]) 9 else 10 := by
  unfold usesAt; rw [show l.getD i ByteArray.empty = l[i] by simp [h], firstE_two]; cases hk : K l[i] <;> simp [whenE]
theorem rClaimC_ok {c : (List (ByteArray × Int)) × (List (ByteArray × (List (ByteArray × Int)))) × (List (ByteArray × Bool × (List ByteArray)))} {i : Nat} (hm : c.2.1.length < 1000000) (hn : c.2.2.length < 1000000) (hw0 : ∀ x ∈ c.2.2, x.2.2.length < 1000000) (hi0 : i < c.2.2.length) : VF Tryz.prog OA 54 [.v y26 c, I ((i : Nat) : Int)] (I (clAt c i)) := by
  refine VF.enter Tryz.func54 rfl (fun _ _ => rfl) rfl ?_; show VC _ _ _ _ _ [(0, .v y26 c), (1, I ((i : Nat) : Int))] [] _; refine VC.seq (VC.text ?_); refine VO.new (.box) ?_; refine VO.c (.assign rfl) ?_; refine VO.go (VC.seq (VC.text ?_)); refine VO.c (.fa (.r (.r .o))) ?_; refine VO.r (.ld vt24) ?_; refine VO.c (.move rfl) (VO.c (.ix (j := i) rfl rfl el24 (by omega)) ?_); refine VO.r (.ld vt56) ?_; refine VO.cell (.alloc zt56) ?_; intro ww1; refine VO.setV (cs' := [St ((c.2.2[i]).1), B ((c.2.2[i]).2.1), .v (.sl .str) ((c.2.2[i]).2.2)]) vt56 .v ?_; refine VO.shut [(5, .p y56 (c.2.2[i]))] (.cons rfl (.var m0 .refl) .nil) ?_; refine VO.go (VC.seq (VC.seq (VC.text ?_))); refine VO.c (.fa (.l .o)) ?_; refine VO.r (.ld vt9) ?_; refine VO.call rfl rfl (VF.call (rName_ok )) ?_; refine VO.c (.not) (VO.go ?_); refine VC.condB rfl (fun c2 => ?_) (fun c2 => ?_)
  · try simp only [Bool.and_eq_true, Bool.or_eq_true, Bool.and_eq_false_iff, Bool.or_eq_false_iff, Bool.not_eq_true', Bool.not_eq_false', decide_eq_true_eq, decide_eq_false_iff_not] at c2
    refine VC.seq (VC.text ?_); refine VO.c (.assign rfl) (VO.go ?_); refine VC.ret ?_; exact VEnd.one rfl evT (pvI (by rw [clAt, cAt_eq hi0, c2] <;> rfl))
  try simp only [Bool.and_eq_true, Bool.or_eq_true, Bool.and_eq_false_iff, Bool.or_eq_false_iff, Bool.not_eq_true', Bool.not_eq_false', decide_eq_true_eq, decide_eq_false_iff_not] at c2
  refine VC.skip (VC.seq (VC.seq (VC.text ?_))); refine VO.r (.ld vt26) ?_; refine VO.c (.fa (.l .o)) ?_; refine VO.r (.ld vt9) ?_; refine VO.call rfl rfl (VF.call (rEvid_ok (by first | assumption | omega | simp))) ?_; refine VO.c (.geq) (VO.c (.move rfl) ?_); refine VO.cg (r := decide ((0 : Int) ≤ evidE c.2.1 ((c.2.2[i]).1))) (w := false) [] trivial (fun _ => (.fa (.r (.r (k := 0) .o)))) ?_; refine VO.rg (r := decide ((0 : Int) ≤ evidE c.2.1 ((c.2.2[i]).1))) (w := false) [(22, .p y24 c.2.2)] ⟨rfl, trivial⟩ (fun _ => (.ld vt24)) ?_; refine VO.cg (r := decide ((0 : Int) ≤ evidE c.2.1 ((c.2.2[i]).1))) (w := false) [] trivial (fun _ => (.fa (.l .o))) ?_; refine VO.rg (r := decide ((0 : Int) ≤ evidE c.2.1 ((c.2.2[i]).1))) (w := false) [(24, .p .str ((c.2.2[i]).1))] ⟨rfl, trivial⟩ (fun _ => (.ld vt9)) ?_; refine VO.callg (r0 := decide ((0 : Int) ≤ evidE c.2.1 ((c.2.2[i]).1))) (w := false) [(23, .v y24 c.2.2), (25, St ((c.2.2[i]).1))] ⟨rfl, rfl, trivial⟩ rfl rfl .same .refl rfl (fun hgd => have g4_5 : ¬ ((0 : Int) ≤ evidE c.2.1 ((c.2.2[i]).1)) := (by simpa using hgd); VF.call (rClaim_ok (by first | assumption | omega | simp))) ?_; refine VO.cg (r := decide ((0 : Int) ≤ evidE c.2.1 ((c.2.2[i]).1))) (w := false) [] trivial (fun _ => (.move rfl)) ?_; refine VO.cg (r := decide ((0 : Int) ≤ evidE c.2.1 ((c.2.2[i]).1))) (w := false) [(26, I (claimE c.2.2 ((c.2.2[i]).1))), (27, I ((i : Nat) : Int))] ⟨rfl, rfl, trivial⟩ (fun _ => (.lss)) ?_; refine VO.c (.or) (VO.go ?_); refine VC.condB rfl (fun c4 => ?_) (fun c4 => ?_)
  · try simp only [Bool.and_eq_true, Bool.or_eq_true, Bool.and_eq_false_iff, Bool.or_eq_false_iff, Bool.not_eq_true', Bool.not_eq_false', decide_eq_true_eq, decide_eq_false_iff_not] at c4
    have h4 : knownC c i c.2.2[i].1 = true := by
      unfold knownC; rcases c4 with h | h
      · rw [decide_eq_true h] <;> rfl
      rw [decide_eq_true ((claim_lt hi0).1 h), Bool.or_true]
    refine VC.seq (VC.text ?_); refine VO.c (.assign rfl) (VO.go ?_); refine VC.ret ?_; exact VEnd.one rfl evT (pvI (by rw [clAt, cAt_eq hi0, c2, h4] <;> rfl))
  try simp only [Bool.and_eq_true, Bool.or_eq_true, Bool.and_eq_false_iff, Bool.or_eq_false_iff, Bool.not_eq_true', Bool.not_eq_false', decide_eq_true_eq, decide_eq_false_iff_not] at c4
  have hwl := hw0 _ (List.getElem_mem hi0)
  have h4 : knownC c i c.2.2[i].1 = false := by
    unfold knownC; rw [decide_eq_false c4.1, decide_eq_false (fun h => c4.2 ((claim_lt hi0).2 h))] <;> rfl
  have hev : clAt c i = usesE (knownC c i) c.2.2[i].2.2 := by rw [clAt, cAt_eq hi0, c2, h4]; show (if _ = 0 then firstE [_, _] else _) = _; rw [firstE_two] <;> rfl
  refine VC.skip (VC.seq (VC.seq (VC.text ?_))); refine VO.c (.fa (.r (.r .o))) ?_; refine VO.r (.ld vt48) ?_; refine VO.r (.len el48) ?_; refine VO.c (.eql) (VO.go ?_); refine VC.condD rfl (fun c6 => ?_) (fun c6 => ?_)
  · refine VC.seq (VC.text ?_); refine VO.c (.assign rfl) (VO.go ?_); refine VC.ret ?_; exact VEnd.one rfl evT (pvI (by rw [hev, usesE, decide_eq_true c6] <;> rfl))
  refine VC.skip (VC.seq (VC.seq (VC.text ?_))); refine VO.c (.fa (.r (.r .o))) ?_; refine VO.r (.ld vt48) ?_; refine VO.r (.len el48) ?_; refine VO.c (.gtr) (VO.go ?_); refine VC.condD rfl (fun c8 => ?_) (fun c8 => ?_)
  · refine VC.seq (VC.text ?_); refine VO.c (.assign rfl) (VO.go ?_); refine VC.ret ?_; exact VEnd.one rfl evT (pvI (by rw [hev, usesE, decide_eq_false c6, decide_eq_true c8] <;> rfl))
  have hu : usesE (knownC c i) c.2.2[i].2.2 = firstR (usesAt (knownC c i) c.2.2[i].2.2) 0 c.2.2[i].2.2.length := by rw [usesE, decide_eq_false c6, decide_eq_false c8] <;> rfl
  refine VC.skip (VC.seq (VC.seq (VC.text ?_))); refine VO.c (.assign rfl) ?_; refine VO.go (VC.block ?_); refine VC.keep [(1, I ((i : Nat) : Int)), (2, .p y26 c), (5, .p y56 (c.2.2[i])), (6, I ((0 : Nat) : Int))] ⟨rfl, rfl, rfl, rfl, trivial⟩ ?_; refine VC.loop (I := fun kk ff ss => ∃ (k : Nat), kk = c.2.2[i].2.2.length - k ∧ ff = [(1, I ((i : Nat) : Int)), (2, .p y26 c), (5, .p y56 (c.2.2[i])), (6, I ((k : Nat) : Int))] ∧ ss = [] ∧ (k ≤ c.2.2[i].2.2.length) ∧ (usesE (knownC c i) c.2.2[i].2.2 = firstR (usesAt (knownC c i) c.2.2[i].2.2) k c.2.2[i].2.2.length)) ?_ _ _ _ ⟨0, rfl, rfl, rfl, (by omega), (by exact hu)⟩; rintro kk ff ss ⟨k, hk0, rfl, rfl, hk, hw⟩; refine VC.seq (VC.seq (VC.text ?_)); refine VO.c (.move rfl) (VO.c (.fa (.r (.r .o))) ?_); refine VO.r (.ld vt48) ?_; refine VO.r (.len el48) ?_; refine VO.c (.lss) (VO.go ?_); refine VC.condD rfl (fun c11 => ?_) (fun c11 => ?_)
  · refine VC.skip (VC.seq (VC.block (VC.seq (VC.seq (VC.drawn ?_))))); refine VD.r [] (.ld vt26) (.inl rfl) ?_; refine VD.c (.fa (.r (.r .o))) ?_; refine VD.r [] (.ld vt48) (.inl rfl) ?_; refine VD.c (.move rfl) (VD.c (.ix (j := k) rfl rfl el48 (by omega)) ?_); refine VD.r [] (.ld vt9) (.inl rfl) ?_; refine VD.nw [] ?_; refine VD.call rfl rfl (VF.call (rEvid_ok (by first | assumption | omega | simp))) ?_; refine VD.c (.lss) (VD.c (.move rfl) ?_); refine VD.splitD (x := 53) rfl (fun g13_8 => ?_) (fun g13_8 => ?_)
    · refine VD.c (.fa (.r (.r .o))) ?_; refine VD.r [] (.ld vt24) (.inl rfl) ?_; refine VD.c (.move rfl) (VD.nw [] ?_); refine VD.r [] (.cutH rfl rfl el24 (by omega)) (.inl rfl) ?_; refine VD.c (.fa (.r (.r .o))) ?_; refine VD.r [] (.ld vt48) (.inl rfl) ?_; refine VD.c (.move rfl) (VD.c (.ix (j := k) rfl rfl el48 (by omega)) ?_); refine VD.r [] (.ld vt9) (.inl rfl) ?_; refine VD.call rfl rfl (VF.call (rClaim_ok (by simp; omega))) ?_; refine VD.nw [] (VD.c (.lss) (VD.c (.pickT rfl rfl) (VD.go ?_))); refine VC.condD rfl (fun c13 => ?_) (fun c13 => ?_)
      · have hlt : k < c.2.2[i].2.2.length := by omega
        have c13' : claimE (c.2.2.take i) c.2.2[i].2.2[k] < 0 := c13
        have hv : usesAt (knownC c i) c.2.2[i].2.2 k = 10 := by rw [usesAt_r hlt, if_neg (by unfold knownC; rw [decide_eq_false (by omega), decide_eq_false (by omega)]; decide)]
        refine VC.seq (VC.text ?_); refine VO.c (.assign rfl) (VO.go ?_); refine VC.ret ?_; exact VEnd.one rfl evT (pvI (by rw [hev, hw, firstR_step hlt, hv] <;> rfl))
      have hlt : k < c.2.2[i].2.2.length := by omega
      have c13' : ¬ claimE (c.2.2.take i) c.2.2[i].2.2[k] < 0 := c13
      have hy : usesAt (knownC c i) c.2.2[i].2.2 k = whenE (hasB (c.2.2[i].2.2.take k) c.2.2[i].2.2[k]) 9 := by rw [usesAt_r hlt, if_pos (by unfold knownC; rw [decide_eq_true (show 0 ≤ claimE (c.2.2.take i) c.2.2[i].2.2[k] by omega), Bool.or_true])]
      refine VC.skip (VC.seq (VC.drawn ?_)); refine VD.c (.fa (.r (.r .o))) ?_; refine VD.r [] (.ld vt48) (.inl rfl) ?_; refine VD.c (.move rfl) ?_; refine VD.r [] (.cutH rfl rfl el48 (by omega)) (.inl rfl) ?_; refine VD.c (.fa (.r (.r .o))) ?_; refine VD.r [] (.ld vt48) (.inl rfl) ?_; refine VD.nw [] (VD.c (.move rfl) (VD.c (.ix (j := k) rfl rfl el48 (by omega)) ?_)); refine VD.r [] (.ld vt9) (.inl rfl) ?_; refine VD.call rfl rfl (VF.call (rHas_ok (by simp; omega))) ?_; refine VD.go ?_; refine VC.condB rfl (fun c15 => ?_) (fun c15 => ?_)
      · have hv : usesAt (knownC c i) c.2.2[i].2.2 k = 9 := by rw [hy, show hasB (c.2.2[i].2.2.take k) c.2.2[i].2.2[k] = true from c15] <;> rfl
        refine VC.seq ?_; refine VC.keep [(1, I ((i : Nat) : Int)), (2, .p y26 c), (5, .p y56 (c.2.2[i])), (6, I ((k : Nat) : Int))] ⟨rfl, rfl, rfl, rfl, trivial⟩ ?_; refine VC.text ?_; refine VO.c (.assign rfl) (VO.go ?_); refine VC.ret ?_; exact VEnd.one rfl evT (pvI (by rw [hev, hw, firstR_step hlt, hv] <;> rfl))
      have hz : usesAt (knownC c i) c.2.2[i].2.2 k = 0 := by rw [hy, show hasB (c.2.2[i].2.2.take k) c.2.2[i].2.2[k] = false from c15] <;> rfl
      refine VC.skip ?_; refine VC.keep [(1, I ((i : Nat) : Int)), (2, .p y26 c), (5, .p y56 (c.2.2[i])), (6, I ((k : Nat) : Int))] ⟨rfl, rfl, rfl, rfl, trivial⟩ ?_; refine VC.text ?_; refine VO.c (.move rfl) (VO.c (.add rfl rfl (by omega)) (VO.c (.assign rfl) ?_)); refine VO.nil ?_; refine ⟨_, [(1, I ((i : Nat) : Int)), (2, .p y26 c), (5, .p y56 (c.2.2[i])), (6, I (((k + 1) : Nat) : Int))], ?_, ⟨rfl, rfl, rfl, rfl, trivial⟩, (k + 1), rfl, rfl, rfl, (by omega), (by rw [hw, firstR_step hlt, if_pos hz])⟩; omega
    have hlt : k < c.2.2[i].2.2.length := by omega
    have hy : usesAt (knownC c i) c.2.2[i].2.2 k = whenE (hasB (c.2.2[i].2.2.take k) c.2.2[i].2.2[k]) 9 := by rw [usesAt_r hlt, if_pos (by unfold knownC; rw [decide_eq_true (by omega)]; rfl)]
    refine VD.skip (VD.skip (VD.skip (VD.nw [] ?_))); refine VD.skip (VD.skip (VD.skip (VD.skip ?_))); refine VD.skip (VD.skip (VD.skip (VD.nw [] ?_))); refine VD.skip (VD.c (.pickF rfl rfl) (VD.go ?_)); refine VC.condF rfl ?_; refine VC.skip (VC.seq (VC.drawn ?_)); refine VD.c (.fa (.r (.r .o))) ?_; refine VD.r [] (.ld vt48) (.inl rfl) ?_; refine VD.c (.move rfl) ?_; refine VD.r [] (.cutH rfl rfl el48 (by omega)) (.inl rfl) ?_; refine VD.c (.fa (.r (.r .o))) ?_; refine VD.r [] (.ld vt48) (.inl rfl) ?_; refine VD.nw [] (VD.c (.move rfl) (VD.c (.ix (j := k) rfl rfl el48 (by omega)) ?_)); refine VD.r [] (.ld vt9) (.inl rfl) ?_; refine VD.call rfl rfl (VF.call (rHas_ok (by simp; omega))) ?_; refine VD.go ?_; refine VC.condB rfl (fun c15 => ?_) (fun c15 => ?_)
    · have hv : usesAt (knownC c i) c.2.2[i].2.2 k = 9 := by rw [hy, show hasB (c.2.2[i].2.2.take k) c.2.2[i].2.2[k] = true from c15] <;> rfl
      refine VC.seq ?_; refine VC.keep [(1, I ((i : Nat) : Int)), (2, .p y26 c), (5, .p y56 (c.2.2[i])), (6, I ((k : Nat) : Int))] ⟨rfl, rfl, rfl, rfl, trivial⟩ ?_; refine VC.text ?_; refine VO.c (.assign rfl) (VO.go ?_); refine VC.ret ?_; exact VEnd.one rfl evT (pvI (by rw [hev, hw, firstR_step hlt, hv] <;> rfl))
    have hz : usesAt (knownC c i) c.2.2[i].2.2 k = 0 := by rw [hy, show hasB (c.2.2[i].2.2.take k) c.2.2[i].2.2[k] = false from c15] <;> rfl
    refine VC.skip ?_; refine VC.keep [(1, I ((i : Nat) : Int)), (2, .p y26 c), (5, .p y56 (c.2.2[i])), (6, I ((k : Nat) : Int))] ⟨rfl, rfl, rfl, rfl, trivial⟩ ?_; refine VC.text ?_; refine VO.c (.move rfl) (VO.c (.add rfl rfl (by omega)) (VO.c (.assign rfl) ?_)); refine VO.nil ?_; refine ⟨_, [(1, I ((i : Nat) : Int)), (2, .p y26 c), (5, .p y56 (c.2.2[i])), (6, I (((k + 1) : Nat) : Int))], ?_, ⟨rfl, rfl, rfl, rfl, trivial⟩, (k + 1), rfl, rfl, rfl, (by omega), (by rw [hw, firstR_step hlt, if_pos hz])⟩; omega
  refine VC.exit (VC.seq (VC.text ?_)); refine VO.c (.assign rfl) (VO.go ?_); refine VC.ret ?_; exact VEnd.one rfl evT (pvI (by rw [hev, hw, firstR_end (by omega)]))
end Go.Proofs
namespace Go.Proofs
open Go.Fs
def caseE (c : Cse) : Int :=
  if versE c.1 ≠ 0 then versE c.1
  else if 64 < (c.2.1.length : Int) then 5
  else if firstR (evAt c) 0 c.2.1.length ≠ 0 then firstR (evAt c) 0 c.2.1.length
  else if 64 < (c.2.2.length : Int) then 5
  else firstR (clAt c) 0 c.2.2.length
structure CseOk (c : Cse) : Prop where
  v : c.1.length < 100000
  e : c.2.1.length < 100000
  l : c.2.2.length < 100000
  w : ∀ x ∈ c.2.1, x.2.length < 100000
  u : ∀ x ∈ c.2.2, x.2.2.length < 100000
theorem rCase_ok {c : (List (ByteArray × Int)) × (List (ByteArray × (List (ByteArray × Int)))) × (List (ByteArray × Bool × (List ByteArray)))} (hc : CseOk c) : VF Tryz.prog OA 10 [.v y26 c] (I (caseE c)) := by
  refine VF.enter Tryz.func10 rfl (fun _ _ => rfl) rfl ?_; show VC _ _ _ _ _ [(0, .v y26 c)] [] _; refine VC.seq (VC.text ?_); have h1 := hc.v; have h2 := hc.e; have h3 := hc.l; refine VO.new (.box) ?_; refine VO.c (.assign rfl) ?_; refine VO.go (VC.seq (VC.seq (VC.text ?_))); refine VO.c (.fa (.l .o)) ?_; refine VO.r (.ld vt22) ?_; refine VO.call rfl rfl (VF.call (rVersions_ok (by omega))) ?_; refine VO.c (.assign rfl) ?_; refine VO.go (VC.seq (VC.text ?_)); refine VO.c (.move rfl) (VO.c (.neq) (VO.go ?_)); refine VC.condD rfl (fun c2 => ?_) (fun c2 => ?_)
  · refine VC.seq (VC.text ?_); refine VO.c (.move rfl) (VO.c (.assign rfl) (VO.go ?_)); refine VC.ret ?_; exact VEnd.one rfl evT (pvI (by rw [caseE, if_pos c2]))
  refine VC.skip (VC.seq (VC.seq (VC.text ?_))); refine VO.c (.fa (.r (.l .o))) ?_; refine VO.r (.ld vt23) ?_; refine VO.r (.len el23) ?_; refine VO.c (.gtr) (VO.go ?_); refine VC.condD rfl (fun c4 => ?_) (fun c4 => ?_)
  · refine VC.seq (VC.text ?_); refine VO.c (.assign rfl) (VO.go ?_); refine VC.ret ?_; exact VEnd.one rfl evT (pvI (by rw [caseE, if_neg c2, if_pos c4]))
  refine VC.skip (VC.seq (VC.seq (VC.text ?_))); refine VO.c (.assign rfl) ?_; refine VO.go (VC.block ?_); refine VC.keep [(1, .p y26 c), (4, I ((0 : Nat) : Int))] ⟨rfl, rfl, trivial⟩ ?_; refine VC.loop (I := fun kk ff ss => ∃ (i : Nat), kk = c.2.1.length - i ∧ ff = [(1, .p y26 c), (4, I ((i : Nat) : Int))] ∧ ss = [] ∧ (i ≤ c.2.1.length) ∧ (firstR (evAt c) 0 c.2.1.length = firstR (evAt c) i c.2.1.length)) ?_ _ _ _ ⟨0, rfl, rfl, rfl, Nat.zero_le _, (by rfl)⟩; rintro kk ff ss ⟨i, hk0, rfl, rfl, hi, hw⟩; refine VC.seq (VC.seq (VC.text ?_)); refine VO.c (.move rfl) (VO.c (.fa (.r (.l .o))) ?_); refine VO.r (.ld vt23) ?_; refine VO.r (.len el23) ?_; refine VO.c (.lss) (VO.go ?_); refine VC.condD rfl (fun c7 => ?_) (fun c7 => ?_)
  · have hlt : i < c.2.1.length := by omega
    refine VC.skip (VC.seq (VC.block (VC.seq (VC.text ?_)))); refine VO.r (.ld vt26) ?_; refine VO.c (.move rfl) ?_; refine VO.call rfl rfl (VF.call (rEvidC_ok (by omega) (by omega) (fun x hx => by have := hc.w x hx; omega) (by omega))) ?_; refine VO.c (.assign rfl) ?_; refine VO.go (VC.seq (VC.text ?_)); refine VO.c (.move rfl) (VO.c (.neq) (VO.go ?_)); refine VC.condD rfl (fun c10 => ?_) (fun c10 => ?_)
    · refine VC.seq (VC.text ?_); refine VO.c (.move rfl) (VO.c (.assign rfl) (VO.go ?_)); refine VC.ret ?_; exact VEnd.one rfl evT (pvI (by rw [caseE, if_neg c2, if_neg c4, hw, firstR_step hlt, if_neg c10, if_pos c10]))
    refine VC.skip (VC.text ?_); refine VO.c (.move rfl) (VO.c (.add rfl rfl (by omega)) (VO.c (.assign rfl) ?_)); refine VO.nil ?_; refine ⟨_, [(1, .p y26 c), (4, I (((i + 1) : Nat) : Int))], ?_, ⟨rfl, rfl, trivial⟩, (i + 1), rfl, rfl, rfl, (by omega), (by rw [hw, firstR_step hlt, if_pos (Decidable.not_not.1 c10)])⟩; omega
  have hz : firstR (evAt c) 0 c.2.1.length = 0 := by rw [hw, firstR_end (by omega)]
  refine VC.exit (VC.seq (VC.seq (VC.text ?_))); refine VO.c (.fa (.r (.r .o))) ?_; refine VO.r (.ld vt24) ?_; refine VO.r (.len el24) ?_; refine VO.c (.gtr) (VO.go ?_); refine VC.condD rfl (fun c12 => ?_) (fun c12 => ?_)
  · refine VC.seq (VC.text ?_); refine VO.c (.assign rfl) (VO.go ?_); refine VC.ret ?_; exact VEnd.one rfl evT (pvI (by rw [caseE, if_neg c2, if_neg c4, hz, if_neg (fun h => h rfl), if_pos c12]))
  refine VC.skip (VC.seq (VC.seq (VC.text ?_))); refine VO.c (.assign rfl) ?_; refine VO.go (VC.block ?_); refine VC.keep [(1, .p y26 c), (6, I ((0 : Nat) : Int))] ⟨rfl, rfl, trivial⟩ ?_; refine VC.loop (I := fun kk ff ss => ∃ (j : Nat), kk = c.2.2.length - j ∧ ff = [(1, .p y26 c), (6, I ((j : Nat) : Int))] ∧ ss = [] ∧ (j ≤ c.2.2.length) ∧ (firstR (clAt c) 0 c.2.2.length = firstR (clAt c) j c.2.2.length)) ?_ _ _ _ ⟨0, rfl, rfl, rfl, Nat.zero_le _, (by rfl)⟩; rintro kk ff ss ⟨j, hk2, rfl, rfl, hj, hx⟩; refine VC.seq (VC.seq (VC.text ?_)); refine VO.c (.move rfl) (VO.c (.fa (.r (.r .o))) ?_); refine VO.r (.ld vt24) ?_; refine VO.r (.len el24) ?_; refine VO.c (.lss) (VO.go ?_); refine VC.condD rfl (fun c15 => ?_) (fun c15 => ?_)
  · have hlt2 : j < c.2.2.length := by omega
    refine VC.skip (VC.seq (VC.block (VC.seq (VC.text ?_)))); refine VO.r (.ld vt26) ?_; refine VO.c (.move rfl) ?_; refine VO.call rfl rfl (VF.call (rClaimC_ok (by omega) (by omega) (fun x hx => by have := hc.u x hx; omega) (by omega))) ?_; refine VO.c (.assign rfl) ?_; refine VO.go (VC.seq (VC.text ?_)); refine VO.c (.move rfl) (VO.c (.neq) (VO.go ?_)); refine VC.condD rfl (fun c18 => ?_) (fun c18 => ?_)
    · refine VC.seq (VC.text ?_); refine VO.c (.move rfl) (VO.c (.assign rfl) (VO.go ?_)); refine VC.ret ?_; exact VEnd.one rfl evT (pvI (by rw [caseE, if_neg c2, if_neg c4, hz, if_neg (fun h => h rfl), if_neg c12, hx, firstR_step hlt2, if_neg c18]))
    refine VC.skip (VC.text ?_); refine VO.c (.move rfl) (VO.c (.add rfl rfl (by omega)) (VO.c (.assign rfl) ?_)); refine VO.nil ?_; refine ⟨_, [(1, .p y26 c), (6, I (((j + 1) : Nat) : Int))], ?_, ⟨rfl, rfl, trivial⟩, (j + 1), rfl, rfl, rfl, (by omega), (by rw [hx, firstR_step hlt2, if_pos (Decidable.not_not.1 c18)])⟩; omega
  refine VC.exit (VC.seq (VC.text ?_)); refine VO.c (.assign rfl) (VO.go ?_); refine VC.ret ?_; exact VEnd.one rfl evT (pvI (by rw [caseE, if_neg c2, if_neg c4, hz, if_neg (fun h => h rfl), if_neg c12, hx, firstR_end (by omega)]))
end Go.Proofs
namespace Go.Proofs
open Go.Fs
abbrev y33 : Ty := (.sl (.pair .str (.sl (.pair .str (.int .i64)))))
abbrev y101 : Ty := (.pair .str (.sl (.pair .str (.int .i64))))
theorem vt33 : ValT Tryz.prog 33 y33 := valT_of (by kernel_rfl)
theorem vt36 : ValT Tryz.prog 36 y36 := valT_of (by kernel_rfl)
theorem vt101 : ValT Tryz.prog 101 y101 := valT_of (by kernel_rfl)
theorem el33 : ElT Tryz.prog 33 101 y101 := elT_of (by kernel_rfl)
theorem zt101 : ZerT Tryz.prog 101 y101 := zerT_of (z := .agg #[.string ByteArray.empty, .slice none 0 0]) (by kernel_rfl) rfl rfl
theorem zt102 : ZerT Tryz.prog 102 y102 := zerT_of (z := .agg #[.string ByteArray.empty, .bool false, .slice none 0 0]) (by kernel_rfl) rfl rfl
def kE (c : Cse) : Nat → List (ByteArray × Bool)
  | 0 => []
  | i + 1 => mset (kE c i) (eAt c i).1 true
def kC (c : Cse) : Nat → List (ByteArray × Bool)
  | 0 => kE c c.2.1.length
  | j + 1 => mset (kC c j) (cAt c j).1 true
theorem kE_has {c : Cse} {s : ByteArray} : ∀ i, i ≤ c.2.1.length → (mget (kE c i) s).getD false = decide (0 ≤ evidE (c.2.1.take i) s)
  | 0, _ => by simp [kE, mget, evidE, idxG]
  | i + 1, h => by
    have hlt : i < c.2.1.length := by omega
    have ih := kE_has (c := c) (s := s) i (by omega); rw [kE, mget_mset, evidE, List.take_succ_eq_append_getElem hlt, eAt_eq hlt]; rw [evidE] at ih; by_cases hs : s = c.2.1[i].1
    · rw [if_pos hs]; refine (decide_eq_true ?_).symm; exact idxG_none.2 ⟨c.2.1[i], List.mem_append_right _ List.mem_cons_self, decide_eq_true hs.symm⟩
    rw [if_neg hs, ih]; refine decide_eq_decide.2 ?_; rw [idxG_none, idxG_none]; constructor
    · rintro ⟨x, hx, he⟩; exact ⟨x, List.mem_append_left _ hx, he⟩
    rintro ⟨x, hx, he⟩; rcases List.mem_append.1 hx with hx | hx
    · exact ⟨x, hx, he⟩
    obtain rfl := List.mem_singleton.1 hx; exact absurd (of_decide_eq_true he).symm hs
theorem kC_has {c : Cse} {s : ByteArray} : ∀ j, j ≤ c.2.2.length → (mget (kC c j) s).getD false = knownC c j s
  | 0, _ => by
    rw [kC, kE_has _ (Nat.le_refl _), List.take_length]; unfold knownC
    simp [claimE, idxG]
  | j + 1, h => by
    have hlt : j < c.2.2.length := by omega
    have ih := kC_has (c := c) (s := s) j (by omega); rw [kC, mget_mset, cAt_eq hlt]; unfold knownC at ih ⊢; rw [claimE, List.take_succ_eq_append_getElem hlt]; rw [claimE] at ih; by_cases hs : s = c.2.2[j].1
    · rw [if_pos hs, decide_eq_true (p := 0 ≤ idxG _ (c.2.2.take j ++ [c.2.2[j]]) 0) (idxG_none.2 ⟨c.2.2[j], List.mem_append_right _ List.mem_cons_self, decide_eq_true hs.symm⟩), Bool.or_true]; rfl
    rw [if_neg hs, ih]; congr 1; refine decide_eq_decide.2 ?_; rw [idxG_none, idxG_none]; constructor
    · rintro ⟨x, hx, he⟩; exact ⟨x, List.mem_append_left _ hx, he⟩
    rintro ⟨x, hx, he⟩; rcases List.mem_append.1 hx with hx | hx
    · exact ⟨x, hx, he⟩
    obtain rfl := List.mem_singleton.1 hx; exact absurd (of_decide_eq_true he).symm hs
theorem knows_fun {c : Cse} (hv : versE c.1 = 0) : (fun s => (mget (if versE c.1 = 0 then verM c.1 c.1.length else []) s).isSome) = knowsV c := by
  funext s; rw [if_pos hv, verM_dec (l := c.1) (i := c.1.length) (Nat.le_refl _), List.take_length]; rfl
theorem kC_fun {c : Cse} {j : Nat} (hj : j ≤ c.2.2.length) : (fun s => (mget (kC c j) s).getD false) = knownC c j := funext fun s => kC_has j hj
theorem evAt_m {c : Cse} {i : Nat} (hv : versE c.1 = 0) (h : i < c.2.1.length) :
    firstE [whenE (!nameB c.2.1[i].1) 8, whenE ((mget (kE c i) c.2.1[i].1).getD false) 9, withE (fun s => (mget (if versE c.1 = 0 then verM c.1 c.1.length else []) s).isSome) c.2.1[i].2] = evAt c i := by
  rw [knows_fun hv, kE_has i (by omega), evAt, eAt_eq h]
theorem clAt_m {c : Cse} {j : Nat} (h : j < c.2.2.length) :
    firstE [whenE (!nameB c.2.2[j].1) 8, whenE ((mget (kC c j) c.2.2[j].1).getD false) 9, usesE (fun s => (mget (kC c j) s).getD false) c.2.2[j].2.2] = clAt c j := by
  rw [kC_fun (by omega), kC_has j (by omega), clAt, cAt_eq h]
theorem two_ok {a : Int} {p : Prop} [Decidable p] (h : ¬ firstE [a, whenE (decide p) 5] ≠ 0) : a = 0 ∧ ¬ p := by
  have h := Decidable.not_not.1 h; rw [firstE_two] at h; by_cases ha : a = 0
  · rw [if_pos ha] at h; refine ⟨ha, fun hp => ?_⟩; rw [decide_eq_true hp] at h; cases h
  rw [if_neg ha] at h; exact absurd h ha
theorem case_bad {c : Cse} (h : firstE [versE c.1, whenE (decide (64 < (c.2.1.length : Int))) 5] ≠ 0) : firstE [versE c.1, whenE (decide (64 < (c.2.1.length : Int))) 5] = caseE c := by
  rw [firstE_two] at h ⊢; unfold caseE; by_cases hv : versE c.1 = 0
  · rw [if_pos hv] at h ⊢; rw [if_neg (fun h2 => h2 hv)]; by_cases hp : 64 < (c.2.1.length : Int)
    · rw [if_pos hp, decide_eq_true hp] <;> rfl
    rw [decide_eq_false hp] at h; exact absurd rfl h
  rw [if_neg hv, if_pos hv]
theorem case_ok {c : Cse} (hv : versE c.1 = 0) (h4 : ¬ 64 < (c.2.1.length : Int)) : caseE c = if firstR (evAt c) 0 c.2.1.length ≠ 0 then firstR (evAt c) 0 c.2.1.length else if 64 < (c.2.2.length : Int) then 5 else firstR (clAt c) 0 c.2.2.length := by
  have h : ¬ versE c.1 ≠ 0 := fun h => h hv; unfold caseE; rw [if_neg h, if_neg h4]
theorem sCase_ok {c : (List (ByteArray × Int)) × (List (ByteArray × (List (ByteArray × Int)))) × (List (ByteArray × Bool × (List ByteArray)))} (hc : CseOk c) : VF Tryz.prog OA 40 [.v y36 c] (I (caseE c)) := by
  refine VF.enter Tryz.func40 rfl (fun _ _ => rfl) rfl ?_; show VC _ _ _ _ _ [(0, .v y36 c)] [] _; refine VC.seq (VC.text ?_); have h1 := hc.v; have h2 := hc.e; have h3 := hc.l; refine VO.new (.box) ?_; refine VO.c (.assign rfl) ?_; refine VO.go (VC.seq (VC.text ?_)); refine VO.r (.ld vt36) ?_; refine VO.call rfl rfl (VF.call (sVersions_ok (by omega))) ?_; refine VO.c (.move rfl) (VO.c (.extract) (VO.c (.extract) (VO.c (.assign rfl) ?_))); refine VO.c (.assign rfl) ?_; refine VO.go (VC.seq (VC.seq (VC.text ?_))); refine VO.c (.move rfl) (VO.c (.fa (.r (.l .o))) ?_); refine VO.r (.ld vt33) ?_; refine VO.r (.len el33) ?_; refine VO.c (.gtr) ?_; refine VO.call rfl rfl (VF.call (sWhen_ok )) ?_; refine VO.new (.lit [versE c.1, whenE (decide ((64 : Int) < ((c.2.1.length : Nat) : Int))) (5 : Int)] el167) ?_; refine VO.call rfl rfl (VF.call (sFirst_ok (by simp))) ?_; refine VO.c (.assign rfl) ?_; refine VO.go (VC.seq (VC.text ?_)); refine VO.c (.move rfl) (VO.c (.neq) (VO.go ?_)); refine VC.condD rfl (fun c3 => ?_) (fun c3 => ?_)
  · refine VC.seq (VC.text ?_); refine VO.c (.move rfl) (VO.c (.assign rfl) (VO.go ?_)); refine VC.ret ?_; exact VEnd.one rfl evT (pvI (by exact case_bad c3))
  have hv : versE c.1 = 0 := (two_ok c3).1; have c4 : ¬ 64 < (c.2.1.length : Int) := (two_ok c3).2; have hk := case_ok hv c4; refine VC.skip (VC.seq (VC.text ?_)); refine VO.cell (.mkMap .str .bool) ?_; intro ww1; refine VO.c (.assign rfl) ?_; refine VO.go (VC.seq (VC.seq (VC.text ?_))); refine VO.c (.fa (.r (.l .o))) ?_; refine VO.r (.ld vt33) ?_; refine VO.r (.len el33) ?_; refine VO.c (.move rfl) ?_; refine VO.go (VC.block ?_); refine VC.keep [(1, .p y36 c), (3, .v y144 (if versE c.1 = 0 then verM c.1 c.1.length else [])), (5, .raw ww1), (30, .v y33 c.2.1), (31, I ((c.2.1.length : Nat) : Int)), (32, I ((0 : Nat) : Int))] ⟨rfl, rfl, rfl, rfl, rfl, rfl, trivial⟩ ?_; refine VC.loop (I := fun kk ff ss => ∃ (i : Nat), kk = c.2.1.length - i ∧ ff = [(1, .p y36 c), (3, .v y144 (if versE c.1 = 0 then verM c.1 c.1.length else [])), (5, .raw ww1), (30, .v y33 c.2.1), (31, I ((c.2.1.length : Nat) : Int)), (32, I ((i : Nat) : Int))] ∧ ss = [(ww1, .mp .str .bool (kE c i))] ∧ (i ≤ c.2.1.length) ∧ (firstR (evAt c) 0 c.2.1.length = firstR (evAt c) i c.2.1.length)) ?_ _ _ _ ⟨0, rfl, rfl, rfl, Nat.zero_le _, (by rfl)⟩; rintro kk ff ss ⟨i, hk0, rfl, rfl, hi, hw⟩; refine VC.seq (VC.text ?_); refine VO.c (.lss) ?_; refine VO.go (VC.seq ?_); refine VC.condD rfl (fun c7 => ?_) (fun c7 => ?_)
  · have hlt : i < c.2.1.length := by omega
    refine VC.skip (VC.seq (VC.block (VC.seq (VC.text ?_)))); refine VO.c (.ix (j := i) rfl rfl el33 (by omega)) ?_; refine VO.r (.ld vt101) ?_; refine VO.cell (.alloc zt101) ?_; intro ww2; refine VO.setV (cs' := [St ((c.2.1[i]).1), .v y32 ((c.2.1[i]).2)]) vt101 .v ?_; refine VO.shut [(7, .p y101 (c.2.1[i]))] (.cons rfl (.var m0 .refl) .nil) ?_; refine VO.go (VC.seq (VC.seq (VC.drawn ?_))); refine VD.c (.fa (.l .o)) ?_; refine VD.r [] (.ld vt9) (.inl rfl) ?_; refine VD.call rfl rfl (VF.call (sNm_ok )) ?_; refine VD.c (.move rfl) (VD.c (.fa (.l .o)) ?_); refine VD.r [] (.ld vt9) (.inl rfl) ?_; refine VD.nw [] ?_; refine VD.r [(ww1, .mp .str .bool (kE c i))] (.lookO mt133 m0) (.inr ⟨rfl, rfl⟩) ?_; refine VD.call rfl rfl (VF.call (sWhen_ok )) ?_; refine VD.c (.fa (.r .o)) ?_; refine VD.r [] (.ld vt32) (.inl rfl) ?_; refine VD.c (.move rfl) ?_; refine VD.call rfl rfl (VF.call (sWith_ok (by have := hc.w _ (List.getElem_mem hlt); omega))) ?_; refine VD.new (.lit [whenE (!nameB ((c.2.1[i]).1)) 8, whenE ((mget (kE c i) ((c.2.1[i]).1)).getD false) (9 : Int), withE (fun s => (mget (if versE c.1 = 0 then verM c.1 c.1.length else []) s).isSome) ((c.2.1[i]).2)] el167) ?_; refine VD.nw [48] ?_; refine VD.callO rfl rfl (VF.call (sFirst_ok (by simp))) ?_; refine VD.c (.assign rfl) ?_; refine VD.go (VC.seq (VC.text ?_)); refine VO.c (.move rfl) (VO.c (.neq) (VO.go ?_)); refine VC.condD rfl (fun c10 => ?_) (fun c10 => ?_)
    · have hv10 := evAt_m hv hlt; refine VC.seq (VC.text ?_); refine VO.c (.move rfl) (VO.c (.assign rfl) (VO.go ?_)); refine VC.ret ?_; exact VEnd.one rfl evT (pvI (by rw [hk, hw, firstR_step hlt, ← hv10, if_neg c10, if_pos c10]))
    have hz : evAt c i = 0 := by rw [← evAt_m hv hlt]; exact Decidable.not_not.1 c10
    refine VC.skip (VC.text ?_); refine VO.c (.move rfl) (VO.c (.fa (.l .o)) ?_); refine VO.r (.ld vt9) ?_; refine VO.mput mt133 ?_; refine VO.nil (VC.text ?_); refine VO.c (.add rfl rfl (by omega)) (VO.c (.move rfl) ?_); refine VO.nil ?_; refine ⟨_, [(1, .p y36 c), (3, .v y144 (if versE c.1 = 0 then verM c.1 c.1.length else [])), (5, .raw ww1), (30, .v y33 c.2.1), (31, I ((c.2.1.length : Nat) : Int)), (32, I (((i + 1) : Nat) : Int))], ?_, ⟨rfl, rfl, rfl, rfl, rfl, rfl, trivial⟩, (i + 1), rfl, rfl, (by rw [kE, eAt_eq hlt]), (by omega), (by rw [hw, firstR_step hlt, if_pos hz])⟩; omega
  have hz : firstR (evAt c) 0 c.2.1.length = 0 := by rw [hw, firstR_end (by omega)]
  have hin : i = c.2.1.length := by omega
  refine VC.exit (VC.seq (VC.seq (VC.text ?_))); refine VO.c (.fa (.r (.r .o))) ?_; refine VO.r (.ld vt34) ?_; refine VO.r (.len el34) ?_; refine VO.c (.gtr) (VO.go ?_); refine VC.condD rfl (fun c14 => ?_) (fun c14 => ?_)
  · refine VC.seq (VC.text ?_); refine VO.c (.assign rfl) (VO.go ?_); refine VC.ret ?_; exact VEnd.one rfl evT (pvI (by rw [hk, hz, if_neg (fun h => h rfl), if_pos c14]))
  refine VC.skip (VC.seq (VC.seq (VC.text ?_))); refine VO.c (.fa (.r (.r .o))) ?_; refine VO.r (.ld vt34) ?_; refine VO.r (.len el34) ?_; refine VO.c (.move rfl) ?_; refine VO.go (VC.block ?_); refine VC.keep [(5, .raw ww1), (62, .v y34 c.2.2), (63, I ((c.2.2.length : Nat) : Int)), (64, I ((0 : Nat) : Int))] ⟨rfl, rfl, rfl, rfl, trivial⟩ ?_; refine VC.loop (I := fun kk ff ss => ∃ (j : Nat), kk = c.2.2.length - j ∧ ff = [(5, .raw ww1), (62, .v y34 c.2.2), (63, I ((c.2.2.length : Nat) : Int)), (64, I ((j : Nat) : Int))] ∧ ss = [(ww1, .mp .str .bool (kC c j))] ∧ (j ≤ c.2.2.length) ∧ (firstR (clAt c) 0 c.2.2.length = firstR (clAt c) j c.2.2.length)) ?_ _ _ _ ⟨0, rfl, rfl, (by rw [hin] <;> rfl), Nat.zero_le _, (by rfl)⟩; rintro kk ff ss ⟨j, hk2, rfl, rfl, hj, hx⟩; refine VC.seq (VC.text ?_); refine VO.c (.lss) ?_; refine VO.go (VC.seq ?_); refine VC.condD rfl (fun c17 => ?_) (fun c17 => ?_)
  · have hlt2 : j < c.2.2.length := by omega
    refine VC.skip (VC.seq (VC.block (VC.seq (VC.text ?_)))); refine VO.c (.ix (j := j) rfl rfl el34 (by omega)) ?_; refine VO.r (.ld vt102) ?_; refine VO.cell (.alloc zt102) ?_; intro ww3; refine VO.setV (cs' := [St ((c.2.2[j]).1), B ((c.2.2[j]).2.1), .v (.sl .str) ((c.2.2[j]).2.2)]) vt102 .v ?_; refine VO.shut [(10, .p y102 (c.2.2[j]))] (.cons rfl (.var m0 .refl) .nil) ?_; refine VO.go (VC.seq (VC.seq (VC.drawn ?_))); refine VD.c (.fa (.l .o)) ?_; refine VD.r [] (.ld vt9) (.inl rfl) ?_; refine VD.call rfl rfl (VF.call (sNm_ok )) ?_; refine VD.c (.move rfl) (VD.c (.fa (.l .o)) ?_); refine VD.r [] (.ld vt9) (.inl rfl) ?_; refine VD.nw [] ?_; refine VD.r [(ww1, .mp .str .bool (kC c j))] (.lookO mt133 m0) (.inr ⟨rfl, rfl⟩) ?_; refine VD.call rfl rfl (VF.call (sWhen_ok )) ?_; refine VD.c (.fa (.r (.r .o))) ?_; refine VD.r [] (.ld vt48) (.inl rfl) ?_; refine VD.c (.move rfl) ?_; refine VD.callC rfl rfl .same (.cons .same (.cons (.mp m0) .nil)) rfl (VF.call (sUses_ok (by have := hc.u _ (List.getElem_mem hlt2); omega))) ?_; refine VD.new (.lit [whenE (!nameB ((c.2.2[j]).1)) 8, whenE ((mget (kC c j) ((c.2.2[j]).1)).getD false) (9 : Int), usesE (fun s => (mget (kC c j) s).getD false) ((c.2.2[j]).2.2)] el167) ?_; refine VD.nw [80] ?_; refine VD.callO rfl rfl (VF.call (sFirst_ok (by simp))) ?_; refine VD.c (.assign rfl) ?_; refine VD.go (VC.seq (VC.text ?_)); refine VO.c (.move rfl) (VO.c (.neq) (VO.go ?_)); refine VC.condD rfl (fun c20 => ?_) (fun c20 => ?_)
    · have hv20 := clAt_m hlt2; refine VC.seq (VC.text ?_); refine VO.c (.move rfl) (VO.c (.assign rfl) (VO.go ?_)); refine VC.ret ?_; exact VEnd.one rfl evT (pvI (by rw [hk, hz, if_neg (fun h => h rfl), if_neg c14, hx, firstR_step hlt2, ← hv20, if_neg c20]))
    have hz2 : clAt c j = 0 := by rw [← clAt_m hlt2]; exact Decidable.not_not.1 c20
    refine VC.skip (VC.text ?_); refine VO.c (.move rfl) (VO.c (.fa (.l .o)) ?_); refine VO.r (.ld vt9) ?_; refine VO.mput mt133 ?_; refine VO.nil (VC.text ?_); refine VO.c (.add rfl rfl (by omega)) (VO.c (.move rfl) ?_); refine VO.nil ?_; refine ⟨_, [(5, .raw ww1), (62, .v y34 c.2.2), (63, I ((c.2.2.length : Nat) : Int)), (64, I (((j + 1) : Nat) : Int))], ?_, ⟨rfl, rfl, rfl, rfl, trivial⟩, (j + 1), rfl, rfl, (by rw [kC, cAt_eq hlt2]), (by omega), (by rw [hx, firstR_step hlt2, if_pos hz2])⟩; omega
  refine VC.exit (VC.seq (VC.text ?_)); refine VO.c (.assign rfl) (VO.go ?_); refine VC.ret ?_; exact VEnd.one rfl evT (pvI (by rw [hk, hz, if_neg (fun h => h rfl), if_neg c14, hx, firstR_end (by omega)]))
end Go.Proofs
namespace Go.Fs
variable {P : Program} {h : Heap} {S : List Nat} {σ : Sto} {t : Tr} {fl : VL} {x : Operand} {T e : TypeId} {τ : Ty}
end Go.Fs
namespace Go.Fs
variable {P : Program} {σ : Sto} {fl : VL} {x y : Operand} {T T' : TypeId} {p q : Bool}
theorem equal_bool (hT : P.underlying T = some .bool) : runPure P (Op.equal T (.bool p) (.bool q)) = some (p == q) := by
  unfold Op.equal; rw [show Op.maxDepth = 9999 + 1 from rfl, Op.equalIn]; simp only [runPure_bind, runPure_underlying hT, Option.bind_some, runPure_pure]
theorem CalmV.bneq (hT : P.underlying T = some .bool := by kernel_rfl) (hx : evV fl x = some (.v .bool p) := by rfl) (hy : evV fl y = some (.v .bool q) := by rfl) : CalmV P fl σ (.binOp .neq T x y T') (.v .bool (p != q)) :=
  .bin hx hy fun h S a c ha hc => by
    obtain rfl := RepV.bool ha; obtain rfl := RepV.bool hc; refine ⟨.bool (p != q), RepV.ofBool _, rfl, ?_⟩
    have h1 : runPure P (Op.equal T (.bool p) (.bool q) >>= fun b => pure (Value.bool !b)) = some (.bool (p != q)) := by
      rw [runPure_bind, equal_bool hT]; rfl
    unfold purely; show (runPure P (Op.equal T (.bool p) (.bool q) >>= fun b => pure (Value.bool !b))).bind _ = _; rw [h1]; rfl
end Go.Fs
namespace Go.Fs
variable {P : Program} {orc : FuncId → List Value → Heap → Option (Value × Heap)} {σ : Sto} {fl : VL} {ops : Array Oper} {n : Nat} {l : List Oper} {K : VL → Sto → Prop} {d : Tmp} {ty : TypeId} {pos : String} {after : Array Edge} {g : Option (Nat × Bool)} {x : Operand} {T e : TypeId} {τ : Ty}
end Go.Fs
namespace Go.Fs
variable {P : Program} {fl : VL} {e : TypeId} {τ : Ty}
theorem rep_raws {h : Heap} {S : List Nat} : ∀ vs : List Value, RepL h S (vs.map PV.raw) vs
  | [] => rfl
  | v :: vs => ⟨v, vs, rfl, rfl, rep_raws vs⟩
theorem FreshO.allocR {zs : List PV} (hZ : ZerT P e τ) (hz : (zeroC τ).map PV.raw = zs := by rfl) : FreshO P fl (.alloc e) (.var zs) :=
  ⟨rfl, fun h S t hs hok hS => by
    obtain ⟨z, h1, h2, h3⟩ := hZ.zero; obtain ⟨z1, z2⟩ := zero_rep h S τ; obtain ⟨a1, a2⟩ := af_cells (u := z) (by rw [h2]; exact z2); subst hz; refine ⟨fun k => .pointer (some ⟨k, 0, none⟩), .row e z.cells.toList true false, fun _ => rfl, fun S' hN hm => ?_, fun H _ _ _ _ _ => ?_⟩
    · exact ⟨h.next, e, _, rfl, hm, by rw [Heap.get_push, if_pos rfl], by rw [h2]; exact rep_raws _, a2⟩
    show (match (P.info? e).bind (·.zero) with | some z => if af z then fsBox e z H else none | none => none) = _; rw [h1]; simp only [a1, if_true]; unfold fsBox
    rw [if_pos a2]⟩
theorem swap4 {a b c d e : Value × Cell} {r : Sto} : (a :: b :: c :: d :: e :: r).Perm (e :: a :: b :: c :: d :: r) := (swap3.cons a).trans (List.Perm.swap e a (b :: c :: d :: r))
theorem swap5 {a b c d e f : Value × Cell} {r : Sto} : (a :: b :: c :: d :: e :: f :: r).Perm (f :: a :: b :: c :: d :: e :: r) := (swap4.cons a).trans (List.Perm.swap f a (b :: c :: d :: e :: r))
end Go.Fs
namespace Go.Proofs
open Go.Fs
set_option maxHeartbeats 2000000
abbrev y23 : Ty := (.sl (.pair .str (.sl (.pair .str (.int .i64)))))
abbrev y52 : Ty := (.pair .str (.int .i64))
theorem vt4 : ValT Tryz.prog 4 .bool := valT_of (by kernel_rfl)
theorem vt52 : ValT Tryz.prog 52 y52 := valT_of (by kernel_rfl)
theorem zt36 : ZerT Tryz.prog 36 y36 := zerT_of (z := .agg #[.slice none 0 0, .slice none 0 0, .slice none 0 0]) (by kernel_rfl) rfl rfl
theorem zt52 : ZerT Tryz.prog 52 y52 := zerT_of (z := .agg #[.string ByteArray.empty, .int .i64 0]) (by kernel_rfl) rfl rfl
theorem bt101 : BldT Tryz.prog 101 y101 [(0, 1), (1, 1)] := bldT_of zt101 rfl (by kernel_rfl)
theorem bt102 : BldT Tryz.prog 102 y102 [(0, 1), (1, 1), (2, 1)] := bldT_of zt102 rfl (by kernel_rfl)
theorem lGiven_ok {c : (List (ByteArray × Int)) × (List (ByteArray × (List (ByteArray × Int)))) × (List (ByteArray × Bool × (List ByteArray)))} (hc : CseOk c) : VF Tryz.prog OA 8 [.v y26 c] (.v y36 c) := by
  refine VF.enter Tryz.func8 rfl (fun _ _ => rfl) rfl ?_; show VC _ _ _ _ _ [(0, .v y26 c)] [] _; refine VC.seq (VC.text ?_); have hcv := hc.v; have hce := hc.e; have hcl := hc.l; refine VO.new (.box) ?_; refine VO.cell (.allocR (zs := [nilV, nilV, nilV]) zt36) ?_; intro ww1; refine VO.go (VC.seq (VC.text ?_)); refine VO.cell (.allocR (zs := [nilV, nilV, nilV]) zt36) ?_; intro ww2; refine VO.go (VC.seq (VC.seq (VC.text ?_))); refine VO.c (.fa (.l .o)) ?_; refine VO.r (.ld vt22) ?_; refine VO.r (.len el22) ?_; refine VO.c (.move rfl) ?_; refine VO.go (VC.block ?_); refine VC.cell0 98 y98 ?_; refine VC.keep [(1, .p y26 c), (2, .raw ww1), (3, .raw ww2), (14, .v y22 c.1), (15, I ((c.1.length : Nat) : Int)), (16, I ((0 : Nat) : Int))] ⟨rfl, rfl, rfl, rfl, rfl, rfl, trivial⟩ ?_; refine VC.loop (I := fun kk ff ss => ∃ (i : Nat) (w0 : Value), kk = c.1.length - i ∧ ff = [(1, .p y26 c), (2, .raw ww1), (3, .raw ww2), (14, .v y22 c.1), (15, I ((c.1.length : Nat) : Int)), (16, I ((i : Nat) : Int))] ∧ ss = [(w0, .row 98 y98 (c.1.take i)), (ww2, .var [.raw w0, nilV, nilV]), (ww1, .var [nilV, nilV, nilV])] ∧ (i ≤ c.1.length)) ?_ _ _ _ ⟨0, (.slice none 0 0), rfl, rfl, rfl, Nat.zero_le _⟩; rintro kk ff ss ⟨i, w0, hk0, rfl, rfl, hi⟩; refine VC.seq (VC.text ?_); refine VO.c (.lss) ?_; refine VO.go (VC.seq ?_); refine VC.condD rfl (fun c3 => ?_) (fun c3 => ?_)
  · refine VC.skip (VC.seq (VC.block (VC.seq (VC.text ?_)))); refine VO.c (.ix (j := i) rfl rfl el22 (by omega)) ?_; refine VO.r (.ld vt52) ?_; refine VO.cell (.alloc zt52) ?_; intro ww3; refine VO.setV (cs' := [St ((c.1[i]).1), I ((c.1[i]).2)]) vt52 .v ?_; refine VO.shut [(5, .p y52 (c.1[i]))] (.cons rfl (.var m0 .refl) .nil) ?_; refine VO.go (VC.text ?_); refine VO.c (.faO (k := 0) m1) ?_; refine VO.r (.ldF (k := 0) m1 vt32) ?_; refine VO.r (.ld vt52) ?_; refine VO.new (.lit [c.1[i]] el32) ?_; refine VO.app rfl rfl el32 el32 (by simp; omega) ?_; intro ww4; refine VO.c (.faO (k := 0) m1) ?_; refine VO.perm swap1 ?_; refine VO.one m1 fun ho5 => ?_; refine VO.setF (cs' := [.raw ww4, nilV, nilV]) 0 vt32 (.raw rfl (agg_one ho5) ho5) ?_; refine VO.nil (VC.text ?_); refine VO.c (.add rfl rfl (by omega)) (VO.c (.move rfl) ?_); refine VO.perm swap2 ?_; refine VO.perm swap1 ?_; refine VO.perm swap2 ?_; refine VO.nil ?_; refine ⟨_, [(1, .p y26 c), (2, .raw ww1), (3, .raw ww2), (14, .v y22 c.1), (15, I ((c.1.length : Nat) : Int)), (16, I (((i + 1) : Nat) : Int))], ?_, ⟨rfl, rfl, rfl, rfl, rfl, rfl, trivial⟩, (i + 1), ww4, rfl, rfl, (by rw [List.take_succ_eq_append_getElem (by omega)] <;> rfl), (by omega)⟩; omega
  refine VC.exit (VC.seq (VC.seq (VC.text ?_))); refine VO.c (.fa (.r (.l .o))) ?_; refine VO.r (.ld vt23) ?_; refine VO.r (.len el23) ?_; refine VO.c (.move rfl) ?_; refine VO.go (VC.block ?_); refine VC.cell0 101 y101 ?_; refine VC.keep [(1, .p y26 c), (2, .raw ww1), (3, .raw ww2), (28, .v y23 c.2.1), (29, I ((c.2.1.length : Nat) : Int)), (30, I ((0 : Nat) : Int))] ⟨rfl, rfl, rfl, rfl, rfl, rfl, trivial⟩ ?_; refine VC.loop (I := fun kk ff ss => ∃ (j : Nat) (w1 : Value), kk = c.2.1.length - j ∧ ff = [(1, .p y26 c), (2, .raw ww1), (3, .raw ww2), (28, .v y23 c.2.1), (29, I ((c.2.1.length : Nat) : Int)), (30, I ((j : Nat) : Int))] ∧ ss = [(w1, .row 101 y101 (c.2.1.take j)), (w0, .row 98 y98 (c.1.take i)), (ww2, .var [.raw w0, .raw w1, nilV]), (ww1, .var [nilV, nilV, nilV])] ∧ (j ≤ c.2.1.length)) ?_ _ _ _ ⟨0, (.slice none 0 0), rfl, rfl, rfl, Nat.zero_le _⟩; rintro kk ff ss ⟨j, w1, hk2, rfl, rfl, hj⟩; refine VC.seq (VC.text ?_); refine VO.c (.lss) ?_; refine VO.go (VC.seq ?_); refine VC.condD rfl (fun c8 => ?_) (fun c8 => ?_)
  · have hwl := hc.w _ (List.getElem_mem (show j < c.2.1.length by omega)); refine VC.skip (VC.seq (VC.block (VC.seq (VC.text ?_)))); refine VO.c (.ix (j := j) rfl rfl el23 (by omega)) ?_; refine VO.r (.ld vt54) ?_; refine VO.cell (.alloc zt54) ?_; intro ww6; refine VO.setV (cs' := [St ((c.2.1[j]).1), .v y22 ((c.2.1[j]).2)]) vt54 .v ?_; refine VO.shut [(7, .p y54 (c.2.1[j]))] (.cons rfl (.var m0 .refl) .nil) ?_; refine VO.go (VC.seq (VC.text ?_)); refine VO.c (.fa (.l .o)) ?_; refine VO.r (.ld vt9) ?_; refine VO.c (.buildA (cs := [St ((c.2.1[j]).1), nilV]) bt101 rfl) ?_; refine VO.cell (.alloc zt101) ?_; intro ww7; refine VO.setV (cs' := [St ((c.2.1[j]).1), nilV]) vt101 (.aggs rfl rfl) ?_; refine VO.go (VC.seq (VC.seq (VC.text ?_))); refine VO.c (.fa (.r .o)) ?_; refine VO.r (.ld vt22) ?_; refine VO.r (.len el22) ?_; refine VO.c (.move rfl) ?_; refine VO.go (VC.block ?_); refine VC.cell0 98 y98 ?_; refine VC.keep [(1, .p y26 c), (2, .raw ww1), (3, .raw ww2), (8, .raw ww7), (28, .v y23 c.2.1), (29, I ((c.2.1.length : Nat) : Int)), (30, I ((j : Nat) : Int)), (38, .v y22 ((c.2.1[j]).2)), (39, I ((((c.2.1[j]).2).length : Nat) : Int)), (40, I ((0 : Nat) : Int))] ⟨rfl, rfl, rfl, rfl, rfl, rfl, rfl, rfl, rfl, rfl, trivial⟩ ?_; refine VC.loop (I := fun kk ff ss => ∃ (k : Nat) (w2 : Value), kk = (c.2.1[j]).2.length - k ∧ ff = [(1, .p y26 c), (2, .raw ww1), (3, .raw ww2), (8, .raw ww7), (28, .v y23 c.2.1), (29, I ((c.2.1.length : Nat) : Int)), (30, I ((j : Nat) : Int)), (38, .v y22 ((c.2.1[j]).2)), (39, I ((((c.2.1[j]).2).length : Nat) : Int)), (40, I ((k : Nat) : Int))] ∧ ss = [(w2, .row 98 y98 ((c.2.1[j]).2.take k)), (ww7, .var [St ((c.2.1[j]).1), .raw w2]), (w1, .row 101 y101 (c.2.1.take j)), (w0, .row 98 y98 (c.1.take i)), (ww2, .var [.raw w0, .raw w1, nilV]), (ww1, .var [nilV, nilV, nilV])] ∧ (k ≤ (c.2.1[j]).2.length)) ?_ _ _ _ ⟨0, (.slice none 0 0), rfl, rfl, rfl, (by omega)⟩; rintro kk ff ss ⟨k, w2, hk4, rfl, rfl, hk⟩; refine VC.seq (VC.text ?_); refine VO.c (.lss) ?_; refine VO.go (VC.seq ?_); refine VC.condD rfl (fun c12 => ?_) (fun c12 => ?_)
    · refine VC.skip (VC.seq (VC.block (VC.seq (VC.text ?_)))); refine VO.c (.ix (j := k) rfl rfl el22 (by omega)) ?_; refine VO.r (.ld vt52) ?_; refine VO.cell (.alloc zt52) ?_; intro ww8; refine VO.setV (cs' := [St ((((c.2.1[j]).2)[k]).1), I ((((c.2.1[j]).2)[k]).2)]) vt52 .v ?_; refine VO.shut [(10, .p y52 (((c.2.1[j]).2)[k]))] (.cons rfl (.var m0 .refl) .nil) ?_; refine VO.go (VC.text ?_); refine VO.c (.faO (k := 1) m1) ?_; refine VO.r (.ldF (k := 1) m1 vt32) ?_; refine VO.r (.ld vt52) ?_; refine VO.new (.lit [((c.2.1[j]).2)[k]] el32) ?_; refine VO.app rfl rfl el32 el32 (by simp; omega) ?_; intro ww9; refine VO.c (.faO (k := 1) m1) ?_; refine VO.perm swap1 ?_; refine VO.one m1 fun ho10 => ?_; refine VO.setF (cs' := [St ((c.2.1[j]).1), .raw ww9]) 1 vt32 (.raw rfl (agg_one ho10) ho10) ?_; refine VO.nil (VC.text ?_); refine VO.c (.add rfl rfl (by omega)) (VO.c (.move rfl) ?_); refine VO.perm swap5 ?_; refine VO.perm swap5 ?_; refine VO.perm swap5 ?_; refine VO.perm swap5 ?_; refine VO.perm swap4 ?_; refine VO.perm swap5 ?_; refine VO.nil ?_; refine ⟨_, [(1, .p y26 c), (2, .raw ww1), (3, .raw ww2), (8, .raw ww7), (28, .v y23 c.2.1), (29, I ((c.2.1.length : Nat) : Int)), (30, I ((j : Nat) : Int)), (38, .v y22 ((c.2.1[j]).2)), (39, I ((((c.2.1[j]).2).length : Nat) : Int)), (40, I (((k + 1) : Nat) : Int))], ?_, ⟨rfl, rfl, rfl, rfl, rfl, rfl, rfl, rfl, rfl, rfl, trivial⟩, (k + 1), ww9, rfl, rfl, (by rw [List.take_succ_eq_append_getElem (by omega)] <;> rfl), (by omega)⟩; omega
    refine VC.exit ?_; refine VC.perm swap1 ?_; refine VC.perm swap1 ?_; refine VC.shutL [(w2, .row 98 y98 ((c.2.1[j]).2.take k)), (ww7, .var [St ((c.2.1[j]).1), .raw w2])] [(8, .p y101 ((c.2.1[j]).1, ((c.2.1[j]).2.take k)))] rfl (.cons rfl (.var m1 (.cons .same (.cons (.row m0) .nil))) .nil) ?_; refine VC.text ?_; refine VO.c (.faO (k := 1) m2) ?_; refine VO.r (.ldF (k := 1) m2 vt33) ?_; refine VO.r (.ld vt101) ?_; refine VO.new (.lit [((c.2.1[j]).1, ((c.2.1[j]).2.take k))] el33) ?_; refine VO.app rfl rfl el33 el33 (by simp; omega) ?_; intro ww11; refine VO.c (.faO (k := 1) m2) ?_; refine VO.perm swap2 ?_; refine VO.one m1 fun ho12 => ?_; refine VO.setF (cs' := [.raw w0, .raw ww11, nilV]) 1 vt33 (.raw rfl (agg_one ho12) ho12) ?_; refine VO.nil (VC.text ?_); refine VO.c (.add rfl rfl (by omega)) (VO.c (.move rfl) ?_); refine VO.perm swap3 ?_; refine VO.perm swap1 ?_; refine VO.perm swap3 ?_; refine VO.perm swap3 ?_; refine VO.nil ?_; refine ⟨_, [(1, .p y26 c), (2, .raw ww1), (3, .raw ww2), (28, .v y23 c.2.1), (29, I ((c.2.1.length : Nat) : Int)), (30, I (((j + 1) : Nat) : Int))], ?_, ⟨rfl, rfl, rfl, rfl, rfl, rfl, trivial⟩, (j + 1), ww11, rfl, rfl, (by rw [List.take_succ_eq_append_getElem (by omega), List.take_of_length_le (i := k) (by omega)] <;> rfl), (by omega)⟩; omega
  refine VC.exit (VC.seq (VC.seq (VC.text ?_))); refine VO.c (.fa (.r (.r .o))) ?_; refine VO.r (.ld vt24) ?_; refine VO.r (.len el24) ?_; refine VO.c (.move rfl) ?_; refine VO.go (VC.block ?_); refine VC.cell0 102 y102 ?_; refine VC.keep [(2, .raw ww1), (3, .raw ww2), (59, .v y24 c.2.2), (60, I ((c.2.2.length : Nat) : Int)), (61, I ((0 : Nat) : Int))] ⟨rfl, rfl, rfl, rfl, rfl, trivial⟩ ?_; refine VC.loop (I := fun kk ff ss => ∃ (m : Nat) (w3 : Value), kk = c.2.2.length - m ∧ ff = [(2, .raw ww1), (3, .raw ww2), (59, .v y24 c.2.2), (60, I ((c.2.2.length : Nat) : Int)), (61, I ((m : Nat) : Int))] ∧ ss = [(w3, .row 102 y102 (c.2.2.take m)), (w1, .row 101 y101 (c.2.1.take j)), (w0, .row 98 y98 (c.1.take i)), (ww2, .var [.raw w0, .raw w1, .raw w3]), (ww1, .var [nilV, nilV, nilV])] ∧ (m ≤ c.2.2.length)) ?_ _ _ _ ⟨0, (.slice none 0 0), rfl, rfl, rfl, Nat.zero_le _⟩; rintro kk ff ss ⟨m, w3, hk6, rfl, rfl, hm⟩; refine VC.seq (VC.text ?_); refine VO.c (.lss) ?_; refine VO.go (VC.seq ?_); refine VC.condD rfl (fun c19 => ?_) (fun c19 => ?_)
  · refine VC.skip (VC.seq (VC.block (VC.seq (VC.text ?_)))); refine VO.c (.ix (j := m) rfl rfl el24 (by omega)) ?_; refine VO.r (.ld vt56) ?_; refine VO.cell (.alloc zt56) ?_; intro ww13; refine VO.setV (cs' := [St ((c.2.2[m]).1), B ((c.2.2[m]).2.1), .v (.sl .str) ((c.2.2[m]).2.2)]) vt56 .v ?_; refine VO.shut [(12, .p y56 (c.2.2[m]))] (.cons rfl (.var m0 .refl) .nil) ?_; refine VO.go (VC.drawn ?_); refine VD.co (.faO (k := 2) m3) ?_; refine VD.r [(w3, .row 102 y102 (c.2.2.take m)), (w1, .row 101 y101 (c.2.1.take j)), (w0, .row 98 y98 (c.1.take i)), (ww2, .var [.raw w0, .raw w1, .raw w3]), (ww1, .var [nilV, nilV, nilV])] (.ldF (k := 2) m3 vt34) (.inr ⟨rfl, rfl⟩) ?_; refine VD.c (.fa (.l .o)) ?_; refine VD.r [] (.ld vt9) (.inl rfl) ?_; refine VD.c (.fa (.r (.l .o))) ?_; refine VD.r [] (.ld vt4) (.inl rfl) ?_; refine VD.nw [] (VD.c (.fa (.r (.r .o))) ?_); refine VD.r [] (.ld vt48) (.inl rfl) ?_; refine VD.call rfl rfl (VF.call (lWords_ok (by have := hc.u _ (List.getElem_mem (show m < c.2.2.length by omega)); omega))) ?_; refine VD.c (.build ((c.2.2[m]).1, (c.2.2[m]).2.1, ((c.2.2[m]).2.2)) bt102) ?_; refine VD.new (.lit [((c.2.2[m]).1, (c.2.2[m]).2.1, ((c.2.2[m]).2.2))] el34) ?_; refine VD.mk (MakeV.app el34 el34 rfl rfl (by simp; omega)) ?_; rintro _ _ tl14 ⟨ww14, rfl, rfl⟩; refine VD.co (.faO (k := 2) m3) ?_; refine VD.perm swap3 ?_; refine VD.one m1 fun ho15 => ?_; refine VD.mk0 (MakeV.setF (k := 2) vt34 (.raw rfl (agg_one ho15) ho15) (Nat.le_of_ble_eq_true rfl) (.inl rfl) rfl rfl) ?_; rintro _ _ tl16 ⟨rfl, rfl⟩; refine VD.nil ?_; refine VC.text ?_; refine VO.c (.add rfl rfl (by omega)) (VO.c (.move rfl) ?_); refine VO.perm swap4 ?_; refine VO.perm swap1 ?_; refine VO.perm swap4 ?_; refine VO.perm swap4 ?_; refine VO.perm swap4 ?_; refine VO.nil ?_; refine ⟨_, [(2, .raw ww1), (3, .raw ww2), (59, .v y24 c.2.2), (60, I ((c.2.2.length : Nat) : Int)), (61, I (((m + 1) : Nat) : Int))], ?_, ⟨rfl, rfl, rfl, rfl, rfl, trivial⟩, (m + 1), ww14, rfl, rfl, (by rw [List.take_succ_eq_append_getElem (by omega)] <;> rfl), (by omega)⟩; omega
  refine VC.exit (VC.seq ?_); refine VC.perm swap3 ?_; refine VC.perm swap1 ?_; refine VC.perm swap2 ?_; refine VC.perm swap3 ?_; refine VC.shutL [(w0, .row 98 y98 (c.1.take i)), (w1, .row 101 y101 (c.2.1.take j)), (w3, .row 102 y102 (c.2.2.take m)), (ww2, .var [.raw w0, .raw w1, .raw w3])] [(3, .p y36 ((c.1.take i), (c.2.1.take j), (c.2.2.take m)))] rfl (.cons rfl (.var m3 (.cons (.row m0) (.cons (.row m1) (.cons (.row m2) .nil)))) .nil) ?_; refine VC.text ?_; refine VO.r (.ld vt36) ?_; refine VO.setV (cs' := [.v y32 (c.1.take i), .v y33 (c.2.1.take j), .v y34 (c.2.2.take m)]) vt36 .v ?_; refine VO.go ?_; refine VC.ret ?_; exact VEnd.one rfl (.cell (x := ((c.1.take i), (c.2.1.take j), (c.2.2.take m))) rfl m0 vt36 .refl) (pvE (by rw [List.take_of_length_le (by omega), List.take_of_length_le (by omega), List.take_of_length_le (by omega)]))
end Go.Proofs
namespace Go.Proofs
open Go.Fs
set_option maxHeartbeats 2000000
theorem awakeC_ok : VF Tryz.prog OA 6 [] (B true) := VF.oracle (fun _ => rfl) fun _ _ => ⟨rfl, rfl⟩
theorem wordsE_go : ∀ {a b : List ByteArray}, a.length = b.length → (∀ i (h : i < a.length) (h2 : i < b.length), a[i] = b[i]) → a = b := fun h h2 => List.ext_getElem h h2
theorem same_no {a b : List ByteArray} (h : (a.length : Int) ≠ (b.length : Int)) : ¬ a = b := fun e => h (by rw [e])
theorem same_go {a b : List ByteArray} {j : Nat} {ha : j < a.length} {hb : j < b.length} (hi : ∀ k (h : k < a.length) (h2 : k < b.length), k < j → a[k] = b[k]) (e : ¬ a[j] ≠ b[j]) : ∀ k (h : k < a.length) (h2 : k < b.length), k < j + 1 → a[k] = b[k] := fun k h h2 h3 => by
  by_cases h4 : k < j
  · exact hi k h h2 h4
  have : k = j := by omega
  subst this; exact Decidable.not_not.1 e
theorem rSame_ok {a : List ByteArray} {b : List ByteArray} (ha : a.length < 1000000) (hb : b.length < 1000000) : VF Tryz.prog OA 26 [.v (.sl .str) a, .v (.sl .str) b] (B (decide (a = b))) := by
  refine VF.enter Tryz.func26 rfl (fun _ _ => rfl) rfl ?_; show VC _ _ _ _ _ [(0, .v (.sl .str) a), (1, .v (.sl .str) b)] [] _; refine VC.seq (VC.text ?_); refine VO.c (.assign rfl) ?_; refine VO.go (VC.seq (VC.seq (VC.text ?_))); refine VO.c (.move rfl) ?_; refine VO.r (.len el48) ?_; refine VO.c (.move rfl) ?_; refine VO.r (.len el48) ?_; refine VO.c (.neq) (VO.go ?_); refine VC.condD rfl (fun c1 => ?_) (fun c1 => ?_)
  · refine VC.seq (VC.text ?_); refine VO.c (.assign rfl) (VO.go ?_); refine VC.ret ?_; exact VEnd.one rfl evT (pvE (by exact (decide_eq_false (same_no c1)).symm))
  refine VC.skip (VC.seq (VC.seq (VC.text ?_))); refine VO.c (.assign rfl) ?_; refine VO.go (VC.block ?_); refine VC.keep [(0, .v (.sl .str) a), (1, .v (.sl .str) b), (5, I ((0 : Nat) : Int))] ⟨rfl, rfl, rfl, trivial⟩ ?_; refine VC.loop (I := fun kk ff ss => ∃ (j : Nat), kk = a.length - j ∧ ff = [(0, .v (.sl .str) a), (1, .v (.sl .str) b), (5, I ((j : Nat) : Int))] ∧ ss = [] ∧ (j ≤ a.length) ∧ (a.length = b.length) ∧ (∀ k (h : k < a.length) (h2 : k < b.length), k < j → a[k] = b[k])) ?_ _ _ _ ⟨0, rfl, rfl, rfl, Nat.zero_le _, (by omega), (by exact fun k _ _ h => absurd h (by omega))⟩; rintro kk ff ss ⟨j, hk0, rfl, rfl, hj, hl, hi⟩; refine VC.seq (VC.seq (VC.text ?_)); refine VO.c (.move rfl) (VO.c (.move rfl) ?_); refine VO.r (.len el48) ?_; refine VO.c (.lss) (VO.go ?_); refine VC.condD rfl (fun c4 => ?_) (fun c4 => ?_)
  · refine VC.skip (VC.seq (VC.block (VC.seq (VC.drawn ?_)))); refine VD.c (.move rfl) (VD.c (.move rfl) (VD.c (.ix (j := j) rfl rfl el48 (by omega)) ?_)); refine VD.r [] (.ld vt9) (.inl rfl) ?_; refine VD.c (.move rfl) (VD.c (.move rfl) (VD.nw [] (VD.c (.ix (j := j) rfl rfl el48 (by omega)) ?_))); refine VD.r [] (.ld vt9) (.inl rfl) ?_; refine VD.c (.sneq) (VD.go ?_); refine VC.condD rfl (fun c6 => ?_) (fun c6 => ?_)
    · refine VC.seq (VC.text ?_); refine VO.c (.assign rfl) (VO.go ?_); refine VC.ret ?_; exact VEnd.one rfl evT (pvE (by exact (decide_eq_false (fun h => c6 (List.getElem_of_eq h _))).symm))
    refine VC.skip (VC.text ?_); refine VO.c (.move rfl) (VO.c (.add rfl rfl (by omega)) (VO.c (.assign rfl) ?_)); refine VO.nil ?_; refine ⟨_, [(0, .v (.sl .str) a), (1, .v (.sl .str) b), (5, I (((j + 1) : Nat) : Int))], ?_, ⟨rfl, rfl, rfl, trivial⟩, (j + 1), rfl, rfl, rfl, (by omega), (by omega), (by exact same_go hi c6)⟩; omega
  refine VC.exit (VC.seq (VC.text ?_)); refine VO.c (.assign rfl) (VO.go ?_); refine VC.ret ?_; exact VEnd.one rfl evT (pvE (by exact (decide_eq_true (wordsE_go hl (fun k h h2 => hi k h h2 (by omega)))).symm))
def vS (v : Vers) : Bool := decide (v.1.size ≤ 60)
def eS (x : Evid) : Bool := (decide (x.1.size ≤ 60) && (decide (x.2.length ≤ 8) || decide (x.2.length = 17))) && x.2.all vS
def cS (x : Clm) : Bool := (decide (x.1.size ≤ 60) && (decide (x.2.2.length ≤ 8) || decide (x.2.2.length = 17))) && shortW x.2.2
def fewB (n : Nat) : Bool := decide (n ≤ 8 ∨ n = 65)
def shortC (c : Cse) : Bool := (fewB c.1.length && (fewB c.2.1.length && fewB c.2.2.length)) && (c.1.all vS && (c.2.1.all eS && c.2.2.all cS))
theorem getD_at {α : Type} {l : List α} {i : Nat} {d : α} (h : i < l.length) : l.getD i d = l[i] := by rw [List.getD_eq_getElem?_getD, List.getElem?_eq_getElem h] <;> rfl
theorem few3 {a b c : Nat} (ha : a ≤ 8 ∨ a = 65) (hb : b ≤ 8 ∨ b = 65) (hc : c ≤ 8 ∨ c = 65) : (fewB a && (fewB b && fewB c)) = true := by
  unfold fewB; rw [decide_eq_true ha, decide_eq_true hb, decide_eq_true hc]; rfl
theorem shortC_few {c : Cse} (h : ¬((c.1.length ≤ 8 ∨ c.1.length = 65) ∧ (c.2.1.length ≤ 8 ∨ c.2.1.length = 65) ∧ (c.2.2.length ≤ 8 ∨ c.2.2.length = 65))) : false = shortC c := by
  symm
  unfold shortC; rw [Bool.and_eq_false_iff]; left; refine Bool.eq_false_iff.2 fun hh => h ?_; rw [Bool.and_eq_true, Bool.and_eq_true] at hh; exact ⟨of_decide_eq_true hh.1, of_decide_eq_true hh.2.1, of_decide_eq_true hh.2.2⟩
theorem eS_yes {x : Evid} (h : x.1.size ≤ 60) (h2 : x.2.length ≤ 8 ∨ x.2.length = 17) : eS x = x.2.all vS := by
  unfold eS; rw [decide_eq_true h]; rcases h2 with h2 | h2
  · rw [decide_eq_true h2] <;> rfl
  rw [decide_eq_true h2, Bool.or_true] <;> rfl
theorem eS_no {x : Evid} (h : ¬(x.1.size ≤ 60 ∧ (x.2.length ≤ 8 ∨ x.2.length = 17))) : eS x = false := by
  refine Bool.eq_false_iff.2 fun hh => h ?_; unfold eS at hh; rw [Bool.and_eq_true, Bool.and_eq_true, Bool.or_eq_true] at hh; exact ⟨of_decide_eq_true hh.1.1, hh.1.2.imp of_decide_eq_true of_decide_eq_true⟩
theorem cS_yes {x : Clm} (h : x.1.size ≤ 60) (h2 : x.2.2.length ≤ 8 ∨ x.2.2.length = 17) (h3 : shortW x.2.2 = true) : cS x = true := by
  unfold cS; rw [decide_eq_true h, h3]; rcases h2 with h2 | h2
  · rw [decide_eq_true h2] <;> rfl
  rw [decide_eq_true h2, Bool.or_true] <;> rfl
theorem cS_no {x : Clm} (h : (x.1.size ≤ 60 ∧ (x.2.2.length ≤ 8 ∨ x.2.2.length = 17)) → shortW x.2.2 = false) : cS x = false := by
  refine Bool.eq_false_iff.2 fun hh => ?_; unfold cS at hh; rw [Bool.and_eq_true, Bool.and_eq_true, Bool.or_eq_true] at hh; have := h ⟨of_decide_eq_true hh.1.1, hh.1.2.imp of_decide_eq_true of_decide_eq_true⟩; rw [this] at hh; exact absurd hh.2 (by decide)
theorem cS_len {a b : Nat} (e : b = a) (h : (decide (8 < (a : Int)) && decide ((b : Int) ≠ 17)) = false) : b < 1000000 := by
  simp only [Bool.and_eq_false_iff, decide_eq_false_iff_not] at h; omega
theorem cS_c {x : Clm} (h : (8 < (x.2.2.length : Int) ∧ (x.2.2.length : Int) ≠ 17) ∨ shortW x.2.2 = false) : (x.1.size ≤ 60 ∧ (x.2.2.length ≤ 8 ∨ x.2.2.length = 17)) → shortW x.2.2 = false := fun hq => by
  rcases h with h | h
  · omega
  exact h
theorem cS_g {x : Clm} (h : 60 < (x.1.size : Int)) : (x.1.size ≤ 60 ∧ (x.2.2.length ≤ 8 ∨ x.2.2.length = 17)) → shortW x.2.2 = false := fun hq => by omega
theorem rFewP_ok {n : Int} : VF Tryz.prog OA 16 [I n] (B (decide (n ≤ 8 ∨ n = 65))) := by
  have h := rFew_ok (n := n)
  rwa [← Bool.decide_or] at h
theorem rShortC_ok {c : (List (ByteArray × Int)) × (List (ByteArray × (List (ByteArray × Int)))) × (List (ByteArray × Bool × (List ByteArray)))} : VF Tryz.prog OA 5 [.v y26 c] (B (shortC c)) := by
  refine VF.enter Tryz.func5 rfl (fun _ _ => rfl) rfl ?_; show VC _ _ _ _ _ [(0, .v y26 c)] [] _; refine VC.seq (VC.text ?_); refine VO.new (.box) ?_; refine VO.c (.assign rfl) ?_; refine VO.go (VC.seq (VC.seq (VC.text ?_))); refine VO.c (.fa (.l .o)) ?_; refine VO.r (.ld vt22) ?_; refine VO.r (.len el22) ?_; refine VO.call rfl rfl (VF.call (rFewP_ok )) ?_; refine VO.c (.not) (VO.c (.move rfl) ?_); refine VO.cg (r := (!(decide (((c.1.length : Nat) : Int) ≤ 8 ∨ ((c.1.length : Nat) : Int) = 65)))) (w := false) [] trivial (fun _ => (.fa (.r (.l .o)))) ?_; refine VO.rg (r := (!(decide (((c.1.length : Nat) : Int) ≤ 8 ∨ ((c.1.length : Nat) : Int) = 65)))) (w := false) [(13, .p y23 c.2.1)] ⟨rfl, trivial⟩ (fun _ => (.ld vt23)) ?_; refine VO.rg (r := (!(decide (((c.1.length : Nat) : Int) ≤ 8 ∨ ((c.1.length : Nat) : Int) = 65)))) (w := false) [(14, .v y23 c.2.1)] ⟨rfl, trivial⟩ (fun _ => (.len el23)) ?_; refine VO.callg (r0 := (!(decide (((c.1.length : Nat) : Int) ≤ 8 ∨ ((c.1.length : Nat) : Int) = 65)))) (w := false) [(15, I ((c.2.1.length : Nat) : Int))] ⟨rfl, trivial⟩ rfl rfl .same .refl rfl (fun _ => VF.call (rFewP_ok )) ?_; refine VO.cg (r := (!(decide (((c.1.length : Nat) : Int) ≤ 8 ∨ ((c.1.length : Nat) : Int) = 65)))) (w := false) [(16, B (decide (((c.2.1.length : Nat) : Int) ≤ 8 ∨ ((c.2.1.length : Nat) : Int) = 65)))] ⟨rfl, trivial⟩ (fun _ => (.not)) ?_; refine VO.c (.or) (VO.c (.move rfl) ?_); refine VO.cg (r := ((!(decide (((c.1.length : Nat) : Int) ≤ 8 ∨ ((c.1.length : Nat) : Int) = 65))) || (!(decide (((c.2.1.length : Nat) : Int) ≤ 8 ∨ ((c.2.1.length : Nat) : Int) = 65))))) (w := false) [] trivial (fun _ => (.fa (.r (.r (k := 0) .o)))) ?_; refine VO.rg (r := ((!(decide (((c.1.length : Nat) : Int) ≤ 8 ∨ ((c.1.length : Nat) : Int) = 65))) || (!(decide (((c.2.1.length : Nat) : Int) ≤ 8 ∨ ((c.2.1.length : Nat) : Int) = 65))))) (w := false) [(20, .p y24 c.2.2)] ⟨rfl, trivial⟩ (fun _ => (.ld vt24)) ?_; refine VO.rg (r := ((!(decide (((c.1.length : Nat) : Int) ≤ 8 ∨ ((c.1.length : Nat) : Int) = 65))) || (!(decide (((c.2.1.length : Nat) : Int) ≤ 8 ∨ ((c.2.1.length : Nat) : Int) = 65))))) (w := false) [(21, .v y24 c.2.2)] ⟨rfl, trivial⟩ (fun _ => (.len el24)) ?_; refine VO.callg (r0 := ((!(decide (((c.1.length : Nat) : Int) ≤ 8 ∨ ((c.1.length : Nat) : Int) = 65))) || (!(decide (((c.2.1.length : Nat) : Int) ≤ 8 ∨ ((c.2.1.length : Nat) : Int) = 65))))) (w := false) [(22, I ((c.2.2.length : Nat) : Int))] ⟨rfl, trivial⟩ rfl rfl .same .refl rfl (fun _ => VF.call (rFewP_ok )) ?_; refine VO.cg (r := ((!(decide (((c.1.length : Nat) : Int) ≤ 8 ∨ ((c.1.length : Nat) : Int) = 65))) || (!(decide (((c.2.1.length : Nat) : Int) ≤ 8 ∨ ((c.2.1.length : Nat) : Int) = 65))))) (w := false) [(23, B (decide (((c.2.2.length : Nat) : Int) ≤ 8 ∨ ((c.2.2.length : Nat) : Int) = 65)))] ⟨rfl, trivial⟩ (fun _ => (.not)) ?_; refine VO.c (.or) (VO.go ?_); refine VC.condB rfl (fun c1 => ?_) (fun c1 => ?_)
  · try simp only [Bool.and_eq_true, Bool.or_eq_true, Bool.and_eq_false_iff, Bool.or_eq_false_iff, Bool.not_eq_true', Bool.not_eq_false', decide_eq_true_eq, decide_eq_false_iff_not] at c1
    refine VC.seq (VC.text ?_); refine VO.c (.assign rfl) (VO.go ?_); refine VC.ret ?_; exact VEnd.one rfl evT (pvE (by exact shortC_few (by omega)))
  try simp only [Bool.and_eq_true, Bool.or_eq_true, Bool.and_eq_false_iff, Bool.or_eq_false_iff, Bool.not_eq_true', Bool.not_eq_false', decide_eq_true_eq, decide_eq_false_iff_not] at c1
  refine VC.skip (VC.seq (VC.seq (VC.text ?_))); have h3 := few3 (a := c.1.length) (b := c.2.1.length) (c := c.2.2.length) (by omega) (by omega) (by omega); refine VO.c (.assign rfl) ?_; refine VO.go (VC.block ?_); refine VC.keep [(1, .p y26 c), (3, I ((0 : Nat) : Int))] ⟨rfl, rfl, trivial⟩ ?_; refine VC.loop (I := fun kk ff ss => ∃ (i : Nat), kk = c.1.length - i ∧ ff = [(1, .p y26 c), (3, I ((i : Nat) : Int))] ∧ ss = [] ∧ (i ≤ c.1.length) ∧ (shortC c = ((c.1.drop i).all vS && (c.2.1.all eS && c.2.2.all cS)))) ?_ _ _ _ ⟨0, rfl, rfl, rfl, Nat.zero_le _, (by rw [shortC, h3]; rfl)⟩; rintro kk ff ss ⟨i, hk0, rfl, rfl, hi, hf⟩; refine VC.seq (VC.seq (VC.text ?_)); refine VO.c (.move rfl) (VO.c (.fa (.l .o)) ?_); refine VO.r (.ld vt22) ?_; refine VO.r (.len el22) ?_; refine VO.c (.lss) (VO.go ?_); refine VC.condD rfl (fun c4 => ?_) (fun c4 => ?_)
  · refine VC.skip (VC.seq (VC.block (VC.seq (VC.text ?_)))); refine VO.c (.fa (.l .o)) ?_; refine VO.r (.ld vt22) ?_; refine VO.c (.move rfl) (VO.c (.ix (j := i) rfl rfl el22 (by omega)) (VO.c (.fa (.l .o)) ?_)); refine VO.r (.ld vt9) ?_; refine VO.r (.lenS) ?_; refine VO.c (.gtr) (VO.go ?_); refine VC.condD rfl (fun c6 => ?_) (fun c6 => ?_)
    · refine VC.seq (VC.text ?_); refine VO.c (.assign rfl) (VO.go ?_); refine VC.ret ?_; exact VEnd.one rfl evT (pvE (by rw [hf, any_all (by omega), vS, decide_eq_false (by omega)] <;> rfl))
    refine VC.skip (VC.text ?_); refine VO.c (.move rfl) (VO.c (.add rfl rfl (by omega)) (VO.c (.assign rfl) ?_)); refine VO.nil ?_; refine ⟨_, [(1, .p y26 c), (3, I (((i + 1) : Nat) : Int))], ?_, ⟨rfl, rfl, trivial⟩, (i + 1), rfl, rfl, rfl, (by omega), (by rw [hf, any_all (by omega), vS, decide_eq_true (by omega), Bool.true_and])⟩; omega
  refine VC.exit (VC.seq (VC.seq (VC.text ?_))); refine VO.c (.assign rfl) ?_; refine VO.go (VC.block ?_); refine VC.keep [(1, .p y26 c), (4, I ((0 : Nat) : Int))] ⟨rfl, rfl, trivial⟩ ?_; refine VC.loop (I := fun kk ff ss => ∃ (j : Nat), kk = c.2.1.length - j ∧ ff = [(1, .p y26 c), (4, I ((j : Nat) : Int))] ∧ ss = [] ∧ (j ≤ c.2.1.length) ∧ (shortC c = ((c.2.1.drop j).all eS && c.2.2.all cS))) ?_ _ _ _ ⟨0, rfl, rfl, rfl, Nat.zero_le _, (by rw [hf, List.drop_eq_nil_of_le (by omega)]; rfl)⟩; rintro kk ff ss ⟨j, hk2, rfl, rfl, hj, hg⟩; refine VC.seq (VC.seq (VC.text ?_)); refine VO.c (.move rfl) (VO.c (.fa (.r (.l .o))) ?_); refine VO.r (.ld vt23) ?_; refine VO.r (.len el23) ?_; refine VO.c (.lss) (VO.go ?_); refine VC.condD rfl (fun c9 => ?_) (fun c9 => ?_)
  · refine VC.skip (VC.seq (VC.block (VC.seq (VC.seq (VC.text ?_))))); refine VO.c (.fa (.r (.l .o))) ?_; refine VO.r (.ld vt23) ?_; refine VO.c (.move rfl) (VO.c (.ix (j := j) rfl rfl el23 (by omega)) (VO.c (.fa (.l .o)) ?_)); refine VO.r (.ld vt9) ?_; refine VO.r (.lenS) ?_; refine VO.c (.gtr) (VO.c (.move rfl) ?_); refine VO.splitD (x := 56) rfl (fun g11_8 => ?_) (fun g11_8 => ?_)
    · refine VO.skip (VO.skip (VO.skip (VO.skip ?_))); refine VO.skip (VO.skip (VO.skip (VO.skip ?_))); refine VO.skip (VO.skip (VO.skip (VO.skip ?_))); refine VO.skip (VO.skip (VO.skip (VO.skip ?_))); refine VO.skip (VO.skip (VO.c (.pickT rfl rfl) (VO.go ?_))); refine VC.condT rfl ?_; refine VC.seq ?_; refine VC.keep [(1, .p y26 c), (4, I ((j : Nat) : Int))] ⟨rfl, rfl, trivial⟩ ?_; refine VC.text ?_; refine VO.c (.assign rfl) (VO.go ?_); refine VC.ret ?_; exact VEnd.one rfl evT (pvE (by rw [hg, any_all (by omega), eS_no (by omega)] <;> rfl))
    refine VO.c (.fa (.r (.l .o))) ?_; refine VO.r (.ld vt23) ?_; refine VO.c (.move rfl) (VO.c (.ix (j := j) rfl rfl el23 (by omega)) (VO.c (.fa (.r .o)) ?_)); refine VO.r (.ld vt22) ?_; refine VO.r (.len el22) ?_; refine VO.c (.gtr) (VO.c (.move rfl) ?_); refine VO.cg (r := decide ((8 : Int) < ((((c.2.1[j]).2).length : Nat) : Int))) (w := true) [] trivial (fun _ => (.fa (.r (.l .o)))) ?_; refine VO.rg (r := decide ((8 : Int) < ((((c.2.1[j]).2).length : Nat) : Int))) (w := true) [(66, .p y23 c.2.1)] ⟨rfl, trivial⟩ (fun _ => (.ld vt23)) ?_; refine VO.cg (r := decide ((8 : Int) < ((((c.2.1[j]).2).length : Nat) : Int))) (w := true) [] trivial (fun _ => (.move rfl)) ?_; refine VO.cg (r := decide ((8 : Int) < ((((c.2.1[j]).2).length : Nat) : Int))) (w := true) [(67, .v y23 c.2.1), (68, I ((j : Nat) : Int))] ⟨rfl, rfl, trivial⟩ (fun hgd => have g11_17 : (8 : Int) < ((((c.2.1[j]).2).length : Nat) : Int) := (by simpa using hgd); (.ixD (j := j) rfl rfl (ByteArray.empty, []) el23 (by omega))) ?_; refine VO.cg (r := decide ((8 : Int) < ((((c.2.1[j]).2).length : Nat) : Int))) (w := true) [(69, .p y54 (c.2.1.getD j (ByteArray.empty, [])))] ⟨rfl, trivial⟩ (fun _ => (.fa (.r (k := 0) .o))) ?_; refine VO.rg (r := decide ((8 : Int) < ((((c.2.1[j]).2).length : Nat) : Int))) (w := true) [(70, .p y22 ((c.2.1.getD j (ByteArray.empty, [])).2))] ⟨rfl, trivial⟩ (fun _ => (.ld vt22)) ?_; refine VO.rg (r := decide ((8 : Int) < ((((c.2.1[j]).2).length : Nat) : Int))) (w := true) [(71, .v y22 ((c.2.1.getD j (ByteArray.empty, [])).2))] ⟨rfl, trivial⟩ (fun _ => (.len el22)) ?_; refine VO.cg (r := decide ((8 : Int) < ((((c.2.1[j]).2).length : Nat) : Int))) (w := true) [(72, I ((((c.2.1.getD j (ByteArray.empty, [])).2).length : Nat) : Int))] ⟨rfl, trivial⟩ (fun _ => (.neq)) ?_; refine VO.c (.and) (VO.c (.pickF rfl rfl) (VO.go ?_)); refine VC.condB rfl (fun c11 => ?_) (fun c11 => ?_)
    · try simp only [Bool.and_eq_true, Bool.or_eq_true, Bool.and_eq_false_iff, Bool.or_eq_false_iff, Bool.not_eq_true', Bool.not_eq_false', decide_eq_true_eq, decide_eq_false_iff_not] at c11
      try rw [getD_at (by omega)] at c11
      refine VC.seq (VC.text ?_); refine VO.c (.assign rfl) (VO.go ?_); refine VC.ret ?_; exact VEnd.one rfl evT (pvE (by rw [hg, any_all (by omega), eS_no (by omega)] <;> rfl))
    try simp only [Bool.and_eq_true, Bool.or_eq_true, Bool.and_eq_false_iff, Bool.or_eq_false_iff, Bool.not_eq_true', Bool.not_eq_false', decide_eq_true_eq, decide_eq_false_iff_not] at c11
    try rw [getD_at (by omega)] at c11
    refine VC.skip (VC.seq (VC.text ?_)); refine VO.c (.assign rfl) ?_; refine VO.go (VC.block ?_); refine VC.keep [(1, .p y26 c), (4, I ((j : Nat) : Int)), (5, I ((0 : Nat) : Int))] ⟨rfl, rfl, rfl, trivial⟩ ?_; refine VC.loop (I := fun kk ff ss => ∃ (k : Nat), kk = (c.2.1[j]).2.length - k ∧ ff = [(1, .p y26 c), (4, I ((j : Nat) : Int)), (5, I ((k : Nat) : Int))] ∧ ss = [] ∧ (k ≤ (c.2.1[j]).2.length) ∧ (shortC c = (((c.2.1[j]).2.drop k).all vS && ((c.2.1.drop (j + 1)).all eS && c.2.2.all cS)))) ?_ _ _ _ ⟨0, rfl, rfl, rfl, (by omega), (by rw [hg, any_all (by omega), eS_yes (by omega) (by omega)]; exact Bool.and_assoc _ _ _)⟩; rintro kk ff ss ⟨k, hk4, rfl, rfl, hk, hh⟩; refine VC.seq (VC.seq (VC.text ?_)); refine VO.c (.move rfl) (VO.c (.fa (.r (.l .o))) ?_); refine VO.r (.ld vt23) ?_; refine VO.c (.move rfl) (VO.c (.ix (j := j) rfl rfl el23 (by omega)) (VO.c (.fa (.r .o)) ?_)); refine VO.r (.ld vt22) ?_; refine VO.r (.len el22) ?_; refine VO.c (.lss) (VO.go ?_); refine VC.condD rfl (fun c14 => ?_) (fun c14 => ?_)
    · refine VC.skip (VC.seq (VC.block (VC.seq (VC.text ?_)))); refine VO.c (.fa (.r (.l .o))) ?_; refine VO.r (.ld vt23) ?_; refine VO.c (.move rfl) (VO.c (.ix (j := j) rfl rfl el23 (by omega)) (VO.c (.fa (.r .o)) ?_)); refine VO.r (.ld vt22) ?_; refine VO.c (.move rfl) (VO.c (.ix (j := k) rfl rfl el22 (by omega)) (VO.c (.fa (.l .o)) ?_)); refine VO.r (.ld vt9) ?_; refine VO.r (.lenS) ?_; refine VO.c (.gtr) (VO.go ?_); refine VC.condD rfl (fun c16 => ?_) (fun c16 => ?_)
      · refine VC.seq (VC.text ?_); refine VO.c (.assign rfl) (VO.go ?_); refine VC.ret ?_; exact VEnd.one rfl evT (pvE (by rw [hh, any_all (by omega), vS, decide_eq_false (by omega)] <;> rfl))
      refine VC.skip (VC.text ?_); refine VO.c (.move rfl) (VO.c (.add rfl rfl (by omega)) (VO.c (.assign rfl) ?_)); refine VO.nil ?_; refine ⟨_, [(1, .p y26 c), (4, I ((j : Nat) : Int)), (5, I (((k + 1) : Nat) : Int))], ?_, ⟨rfl, rfl, rfl, trivial⟩, (k + 1), rfl, rfl, rfl, (by omega), (by rw [hh, any_all (by omega), vS, decide_eq_true (by omega), Bool.true_and])⟩; omega
    refine VC.exit (VC.text ?_); refine VO.c (.move rfl) (VO.c (.add rfl rfl (by omega)) (VO.c (.assign rfl) ?_)); refine VO.nil ?_; refine ⟨_, [(1, .p y26 c), (4, I (((j + 1) : Nat) : Int))], ?_, ⟨rfl, rfl, trivial⟩, (j + 1), rfl, rfl, rfl, (by omega), (by rw [hh, List.drop_eq_nil_of_le (by omega)] <;> rfl)⟩; omega
  refine VC.exit (VC.seq (VC.seq (VC.text ?_))); refine VO.c (.assign rfl) ?_; refine VO.go (VC.block ?_); refine VC.keep [(1, .p y26 c), (6, I ((0 : Nat) : Int))] ⟨rfl, rfl, trivial⟩ ?_; refine VC.loop (I := fun kk ff ss => ∃ (m : Nat), kk = c.2.2.length - m ∧ ff = [(1, .p y26 c), (6, I ((m : Nat) : Int))] ∧ ss = [] ∧ (m ≤ c.2.2.length) ∧ (shortC c = (c.2.2.drop m).all cS)) ?_ _ _ _ ⟨0, rfl, rfl, rfl, Nat.zero_le _, (by rw [hg, List.drop_eq_nil_of_le (by omega)]; rfl)⟩; rintro kk ff ss ⟨m, hk6, rfl, rfl, hm, hz⟩; refine VC.seq (VC.seq (VC.text ?_)); refine VO.c (.move rfl) (VO.c (.fa (.r (.r .o))) ?_); refine VO.r (.ld vt24) ?_; refine VO.r (.len el24) ?_; refine VO.c (.lss) (VO.go ?_); refine VC.condD rfl (fun c19 => ?_) (fun c19 => ?_)
  · refine VC.skip (VC.seq (VC.block (VC.seq (VC.text ?_)))); refine VO.c (.fa (.r (.r .o))) ?_; refine VO.r (.ld vt24) ?_; refine VO.c (.move rfl) (VO.c (.ix (j := m) rfl rfl el24 (by omega)) (VO.c (.fa (.l .o)) ?_)); refine VO.r (.ld vt9) ?_; refine VO.r (.lenS) ?_; refine VO.c (.gtr) (VO.c (.move rfl) ?_); refine VO.splitD (x := 114) rfl (fun g21_8 => ?_) (fun g21_8 => ?_)
    · refine VO.skip (VO.skip (VO.skip (VO.skip ?_))); refine VO.skip (VO.skip (VO.skip (VO.skip ?_))); refine VO.skip (VO.skip (VO.skip (VO.skip ?_))); refine VO.skip (VO.skip (VO.skip (VO.skip ?_))); refine VO.skip (VO.skip (VO.c (.pickT rfl rfl) (VO.c (.move rfl) ?_))); refine VO.skip (VO.skip (VO.skip (VO.skip ?_))); refine VO.skip (VO.skip (VO.skip (VO.skip ?_))); refine VO.c (.pickT rfl rfl) (VO.go ?_); refine VC.condT rfl ?_; refine VC.seq ?_; refine VC.keep [(1, .p y26 c), (6, I ((m : Nat) : Int))] ⟨rfl, rfl, trivial⟩ ?_; refine VC.text ?_; refine VO.c (.assign rfl) (VO.go ?_); refine VC.ret ?_; exact VEnd.one rfl evT (pvE (by first | (rw [hz, any_all (by omega), cS_no (cS_c c21)]; rfl) | (rw [hz, any_all (by omega), cS_no (cS_g g21_8)]; rfl)))
    refine VO.c (.fa (.r (.r .o))) ?_; refine VO.r (.ld vt24) ?_; refine VO.c (.move rfl) (VO.c (.ix (j := m) rfl rfl el24 (by omega)) (VO.c (.fa (.r (.r .o))) ?_)); refine VO.r (.ld vt48) ?_; refine VO.r (.len el48) ?_; refine VO.c (.gtr) (VO.c (.move rfl) ?_); refine VO.cg (r := decide ((8 : Int) < ((((c.2.2[m]).2.2).length : Nat) : Int))) (w := true) [] trivial (fun _ => (.fa (.r (.r (k := 0) .o)))) ?_; refine VO.rg (r := decide ((8 : Int) < ((((c.2.2[m]).2.2).length : Nat) : Int))) (w := true) [(124, .p y24 c.2.2)] ⟨rfl, trivial⟩ (fun _ => (.ld vt24)) ?_; refine VO.cg (r := decide ((8 : Int) < ((((c.2.2[m]).2.2).length : Nat) : Int))) (w := true) [] trivial (fun _ => (.move rfl)) ?_; refine VO.cg (r := decide ((8 : Int) < ((((c.2.2[m]).2.2).length : Nat) : Int))) (w := true) [(125, .v y24 c.2.2), (126, I ((m : Nat) : Int))] ⟨rfl, rfl, trivial⟩ (fun hgd => have g21_17 : (8 : Int) < ((((c.2.2[m]).2.2).length : Nat) : Int) := (by first | exact eq_of_beq hgd | simpa using hgd); (.ixD (j := m) rfl rfl (ByteArray.empty, false, []) el24 (by omega))) ?_; refine VO.cg (r := decide ((8 : Int) < ((((c.2.2[m]).2.2).length : Nat) : Int))) (w := true) [(127, .p y56 (c.2.2.getD m (ByteArray.empty, false, [])))] ⟨rfl, trivial⟩ (fun _ => (.fa (.r (.r (k := 0) .o)))) ?_; refine VO.rg (r := decide ((8 : Int) < ((((c.2.2[m]).2.2).length : Nat) : Int))) (w := true) [(128, .p (.sl .str) ((c.2.2.getD m (ByteArray.empty, false, [])).2.2))] ⟨rfl, trivial⟩ (fun _ => (.ld vt48)) ?_; refine VO.rg (r := decide ((8 : Int) < ((((c.2.2[m]).2.2).length : Nat) : Int))) (w := true) [(129, .v (.sl .str) ((c.2.2.getD m (ByteArray.empty, false, [])).2.2))] ⟨rfl, trivial⟩ (fun _ => (.len el48)) ?_; refine VO.cg (r := decide ((8 : Int) < ((((c.2.2[m]).2.2).length : Nat) : Int))) (w := true) [(130, I ((((c.2.2.getD m (ByteArray.empty, false, [])).2.2).length : Nat) : Int))] ⟨rfl, trivial⟩ (fun _ => (.neq)) ?_; refine VO.c (.and) (VO.c (.pickF rfl rfl) (VO.c (.move rfl) ?_)); refine VO.cg (r := ((decide ((8 : Int) < ((((c.2.2[m]).2.2).length : Nat) : Int))) && (decide (((((c.2.2.getD m (ByteArray.empty, false, [])).2.2).length : Nat) : Int) ≠ (17 : Int))))) (w := false) [] trivial (fun _ => (.fa (.r (.r (k := 0) .o)))) ?_; refine VO.rg (r := ((decide ((8 : Int) < ((((c.2.2[m]).2.2).length : Nat) : Int))) && (decide (((((c.2.2.getD m (ByteArray.empty, false, [])).2.2).length : Nat) : Int) ≠ (17 : Int))))) (w := false) [(135, .p y24 c.2.2)] ⟨rfl, trivial⟩ (fun _ => (.ld vt24)) ?_; refine VO.cg (r := ((decide ((8 : Int) < ((((c.2.2[m]).2.2).length : Nat) : Int))) && (decide (((((c.2.2.getD m (ByteArray.empty, false, [])).2.2).length : Nat) : Int) ≠ (17 : Int))))) (w := false) [] trivial (fun _ => (.move rfl)) ?_; refine VO.cg (r := ((decide ((8 : Int) < ((((c.2.2[m]).2.2).length : Nat) : Int))) && (decide (((((c.2.2.getD m (ByteArray.empty, false, [])).2.2).length : Nat) : Int) ≠ (17 : Int))))) (w := false) [(136, .v y24 c.2.2), (137, I ((m : Nat) : Int))] ⟨rfl, rfl, trivial⟩ (fun hgd => have g21_28 : ((decide ((8 : Int) < ((((c.2.2[m]).2.2).length : Nat) : Int))) && (decide (((((c.2.2.getD m (ByteArray.empty, false, [])).2.2).length : Nat) : Int) ≠ (17 : Int)))) = false := (by first | exact eq_of_beq hgd | simpa using hgd); (.ixD (j := m) rfl rfl (ByteArray.empty, false, []) el24 (by omega))) ?_; refine VO.cg (r := ((decide ((8 : Int) < ((((c.2.2[m]).2.2).length : Nat) : Int))) && (decide (((((c.2.2.getD m (ByteArray.empty, false, [])).2.2).length : Nat) : Int) ≠ (17 : Int))))) (w := false) [(138, .p y56 (c.2.2.getD m (ByteArray.empty, false, [])))] ⟨rfl, trivial⟩ (fun _ => (.fa (.r (.r (k := 0) .o)))) ?_; refine VO.rg (r := ((decide ((8 : Int) < ((((c.2.2[m]).2.2).length : Nat) : Int))) && (decide (((((c.2.2.getD m (ByteArray.empty, false, [])).2.2).length : Nat) : Int) ≠ (17 : Int))))) (w := false) [(139, .p (.sl .str) ((c.2.2.getD m (ByteArray.empty, false, [])).2.2))] ⟨rfl, trivial⟩ (fun _ => (.ld vt48)) ?_; refine VO.callg (r0 := ((decide ((8 : Int) < ((((c.2.2[m]).2.2).length : Nat) : Int))) && (decide (((((c.2.2.getD m (ByteArray.empty, false, [])).2.2).length : Nat) : Int) ≠ (17 : Int))))) (w := false) [(140, .v (.sl .str) ((c.2.2.getD m (ByteArray.empty, false, [])).2.2))] ⟨rfl, trivial⟩ rfl rfl .same .refl rfl (fun hgd => have g21_28 : ((decide ((8 : Int) < ((((c.2.2[m]).2.2).length : Nat) : Int))) && (decide (((((c.2.2.getD m (ByteArray.empty, false, [])).2.2).length : Nat) : Int) ≠ (17 : Int)))) = false := (by first | exact eq_of_beq hgd | simpa using hgd); VF.call (rShort_ok (cS_len (by rw [getD_at (by omega)]) g21_28))) ?_; refine VO.cg (r := ((decide ((8 : Int) < ((((c.2.2[m]).2.2).length : Nat) : Int))) && (decide (((((c.2.2.getD m (ByteArray.empty, false, [])).2.2).length : Nat) : Int) ≠ (17 : Int))))) (w := false) [(141, B (shortW ((c.2.2.getD m (ByteArray.empty, false, [])).2.2)))] ⟨rfl, trivial⟩ (fun _ => (.not)) ?_; refine VO.c (.or) (VO.go ?_); refine VC.condB rfl (fun c21 => ?_) (fun c21 => ?_)
    · try simp only [Bool.and_eq_true, Bool.or_eq_true, Bool.and_eq_false_iff, Bool.or_eq_false_iff, Bool.not_eq_true', Bool.not_eq_false', decide_eq_true_eq, decide_eq_false_iff_not] at c21
      try simp only [getD_at (show m < c.2.2.length by omega)] at c21
      refine VC.seq (VC.text ?_); refine VO.c (.assign rfl) (VO.go ?_); refine VC.ret ?_; exact VEnd.one rfl evT (pvE (by first | (rw [hz, any_all (by omega), cS_no (cS_c c21)]; rfl) | (rw [hz, any_all (by omega), cS_no (cS_g g21_8)]; rfl)))
    try simp only [Bool.and_eq_true, Bool.or_eq_true, Bool.and_eq_false_iff, Bool.or_eq_false_iff, Bool.not_eq_true', Bool.not_eq_false', decide_eq_true_eq, decide_eq_false_iff_not] at c21
    try simp only [getD_at (show m < c.2.2.length by omega)] at c21
    refine VC.skip (VC.text ?_); refine VO.c (.move rfl) (VO.c (.add rfl rfl (by omega)) (VO.c (.assign rfl) ?_)); refine VO.nil ?_; refine ⟨_, [(1, .p y26 c), (6, I (((m + 1) : Nat) : Int))], ?_, ⟨rfl, rfl, trivial⟩, (m + 1), rfl, rfl, rfl, (by omega), (by rw [hz, any_all (by omega), cS_yes (by omega) (by omega) c21.2, Bool.true_and])⟩; omega
  refine VC.exit (VC.seq (VC.text ?_)); refine VO.c (.assign rfl) (VO.go ?_); refine VC.ret ?_; exact VEnd.one rfl evT (pvE (by rw [hz, List.drop_eq_nil_of_le (by omega)] <;> rfl))
end Go.Proofs
namespace Go.Proofs
open Go.Fs
set_option maxHeartbeats 2000000
theorem shortC_ok {c : Cse} (h : shortC c = true) : CseOk c := by
  unfold shortC at h; simp only [Bool.and_eq_true] at h; obtain ⟨⟨h1, h2, h3⟩, h4, h5, h6⟩ := h; have h1 := of_decide_eq_true h1; have h2 := of_decide_eq_true h2; have h3 := of_decide_eq_true h3; refine ⟨by omega, by omega, by omega, fun x hx => ?_, fun x hx => ?_⟩
  · have h7 := List.all_eq_true.1 h5 x hx; unfold eS at h7; simp only [Bool.and_eq_true, Bool.or_eq_true, decide_eq_true_eq] at h7; omega
  have h7 := List.all_eq_true.1 h6 x hx; unfold cS at h7; simp only [Bool.and_eq_true, Bool.or_eq_true, decide_eq_true_eq] at h7; omega
end Go.Proofs
namespace Go.Proofs
open Go.Fs
theorem eq52 : EqT Tryz.prog 52 y52 := eqT_of (by kernel_rfl)
theorem same_noV {α : Type} {a b : List α} (h : (a.length : Int) ≠ (b.length : Int)) : ¬ a = b := fun e => h (by rw [e])
theorem same_goV {α : Type} {a b : List α} {j : Nat} {ha : j < a.length} {hb : j < b.length} (hi : ∀ k (h : k < a.length) (h2 : k < b.length), k < j → a[k] = b[k]) (e : ¬ a[j] ≠ b[j]) : ∀ k (h : k < a.length) (h2 : k < b.length), k < j + 1 → a[k] = b[k] := fun k h h2 h3 => by
  by_cases h4 : k < j
  · exact hi k h h2 h4
  have : k = j := by omega
  subst this; exact Classical.not_not.1 e
theorem rSameV_ok {a : List (ByteArray × Int)} {b : List (ByteArray × Int)} (ha : a.length < 1000000) (hb : b.length < 1000000) : VF Tryz.prog OA 39 [.v y22 a, .v y22 b] (B (decide (a = b))) := by
  refine VF.enter Tryz.func39 rfl (fun _ _ => rfl) rfl ?_; show VC _ _ _ _ _ [(0, .v y22 a), (1, .v y22 b)] [] _; refine VC.seq (VC.text ?_); refine VO.c (.assign rfl) ?_; refine VO.go (VC.seq (VC.seq (VC.text ?_))); refine VO.c (.move rfl) ?_; refine VO.r (.len el22) ?_; refine VO.c (.move rfl) ?_; refine VO.r (.len el22) ?_; refine VO.c (.neq) (VO.go ?_); refine VC.condD rfl (fun c1 => ?_) (fun c1 => ?_)
  · refine VC.seq (VC.text ?_); refine VO.c (.assign rfl) (VO.go ?_); refine VC.ret ?_; exact VEnd.one rfl evT (pvE (by exact (decide_eq_false (same_noV c1)).symm))
  refine VC.skip (VC.seq (VC.seq (VC.text ?_))); refine VO.c (.assign rfl) ?_; refine VO.go (VC.block ?_); refine VC.keep [(0, .v y22 a), (1, .v y22 b), (5, I ((0 : Nat) : Int))] ⟨rfl, rfl, rfl, trivial⟩ ?_; refine VC.loop (I := fun kk ff ss => ∃ (j : Nat), kk = a.length - j ∧ ff = [(0, .v y22 a), (1, .v y22 b), (5, I ((j : Nat) : Int))] ∧ ss = [] ∧ (j ≤ a.length) ∧ (a.length = b.length) ∧ (∀ k (h : k < a.length) (h2 : k < b.length), k < j → a[k] = b[k])) ?_ _ _ _ ⟨0, rfl, rfl, rfl, Nat.zero_le _, (by omega), (by exact fun k _ _ h => absurd h (by omega))⟩; rintro kk ff ss ⟨j, hk0, rfl, rfl, hj, hl, hi⟩; refine VC.seq (VC.seq (VC.text ?_)); refine VO.c (.move rfl) (VO.c (.move rfl) ?_); refine VO.r (.len el22) ?_; refine VO.c (.lss) (VO.go ?_); refine VC.condD rfl (fun c4 => ?_) (fun c4 => ?_)
  · refine VC.skip (VC.seq (VC.block (VC.seq (VC.drawn ?_)))); refine VD.c (.move rfl) (VD.c (.move rfl) (VD.c (.ix (j := j) rfl rfl el22 (by omega)) ?_)); refine VD.r [] (.ld vt52) (.inl rfl) ?_; refine VD.c (.move rfl) (VD.c (.move rfl) (VD.nw [] (VD.c (.ix (j := j) rfl rfl el22 (by omega)) ?_))); refine VD.r [] (.ld vt52) (.inl rfl) ?_; refine VD.c (.eneq eq52) (VD.go ?_); refine VC.condD rfl (fun c6 => ?_) (fun c6 => ?_)
    · refine VC.seq (VC.text ?_); refine VO.c (.assign rfl) (VO.go ?_); refine VC.ret ?_; exact VEnd.one rfl evT (pvE (by exact (decide_eq_false (fun h => c6 (List.getElem_of_eq h _))).symm))
    refine VC.skip (VC.text ?_); refine VO.c (.move rfl) (VO.c (.add rfl rfl (by omega)) (VO.c (.assign rfl) ?_)); refine VO.nil ?_; refine ⟨_, [(0, .v y22 a), (1, .v y22 b), (5, I (((j + 1) : Nat) : Int))], ?_, ⟨rfl, rfl, rfl, trivial⟩, (j + 1), rfl, rfl, rfl, (by omega), (by omega), (by exact same_goV hi c6)⟩; omega
  refine VC.exit (VC.seq (VC.text ?_)); refine VO.c (.assign rfl) (VO.go ?_); refine VC.ret ?_; exact VEnd.one rfl evT (pvE (by exact (decide_eq_true (List.ext_getElem hl (fun k h h2 => hi k h h2 (by omega)))).symm))
end Go.Proofs
namespace Go.Proofs
open Go.Fs
set_option maxHeartbeats 2000000
theorem zt26 : ZerT Tryz.prog 26 y26 := zerT_of (z := .agg #[.slice none 0 0, .slice none 0 0, .slice none 0 0]) (by kernel_rfl) rfl rfl
theorem bt54 : BldT Tryz.prog 54 y54 [(0, 1), (1, 1)] := bldT_of zt54 rfl (by kernel_rfl)
theorem bt56 : BldT Tryz.prog 56 y56 [(0, 1), (1, 1), (2, 1)] := bldT_of zt56 rfl (by kernel_rfl)
def sameC (a b : Cse) : Bool := decide (a.1 = b.1) && (decide (a.2.1 = b.2.1) && decide (a.2.2 = b.2.2))
theorem sameC_t {a b : Cse} (h : a = b) : sameC a b = true := by
  subst h; unfold sameC; rw [decide_eq_true rfl, decide_eq_true rfl, decide_eq_true rfl] <;> rfl
theorem sameC_eq {a b : Cse} (h : sameC a b = true) : a = b := by
  unfold sameC at h; rw [Bool.and_eq_true, Bool.and_eq_true, decide_eq_true_eq, decide_eq_true_eq, decide_eq_true_eq] at h; exact Prod.ext h.1 (Prod.ext h.2.1 h.2.2)
theorem sameC_f {a b : Cse} (h : ¬ a = b) : sameC a b = false := by
  cases hs : sameC a b with
  | false => rfl
  | true => exact absurd (sameC_eq hs) h
theorem bne_no {x y : Bool} (h : (x != y) = false) : x = y := by
  cases x <;> cases y <;> first | rfl | cases h
theorem bne_yes {x y : Bool} (h : (x != y) = true) : x ≠ y := fun e => by
  subst e; cases x <;> cases h
theorem case_c1 {a b : Cse} (h : (a.1 = b.1 ∧ ¬ ((a.2.1.length : Nat) : Int) ≠ ((b.2.1.length : Nat) : Int)) ∧ ¬ ((a.2.2.length : Nat) : Int) ≠ ((b.2.2.length : Nat) : Int)) : a.1 = b.1 ∧ a.2.1.length = b.2.1.length ∧ a.2.2.length = b.2.2.length := ⟨h.1.1, by omega, by omega⟩
theorem case_n1 {a b : Cse} (h : (¬ a.1 = b.1 ∨ ((a.2.1.length : Nat) : Int) ≠ ((b.2.1.length : Nat) : Int)) ∨ ((a.2.2.length : Nat) : Int) ≠ ((b.2.2.length : Nat) : Int)) : ¬ a = b := fun e => by
  subst e; rcases h with (h | h) | h <;> exact h rfl
theorem evid_ne {a b : Cse} {j : Nat} {ha : j < a.2.1.length} {hb : j < b.2.1.length} (h : a.2.1[j].1 ≠ b.2.1[j].1 ∨ a.2.1[j].2 ≠ b.2.1[j].2) : ¬ a = b := fun e => by
  subst e; rcases h with h | h <;> exact h rfl
theorem clm_ne {a b : Cse} {j : Nat} {ha : j < a.2.2.length} {hb : j < b.2.2.length} (h : a.2.2[j].1 ≠ b.2.2[j].1 ∨ a.2.2[j].2.1 ≠ b.2.2[j].2.1 ∨ a.2.2[j].2.2 ≠ b.2.2[j].2.2) : ¬ a = b := fun e => by
  subst e; rcases h with h | h | h <;> exact h rfl
theorem evid_go {a b : List Evid} {j : Nat} {ha : j < a.length} {hb : j < b.length} (hi : ∀ k (h : k < a.length) (h2 : k < b.length), k < j → a[k] = b[k]) (e1 : ¬ a[j].1 ≠ b[j].1) (e2 : a[j].2 = b[j].2) : ∀ k (h : k < a.length) (h2 : k < b.length), k < j + 1 → a[k] = b[k] :=
  same_goV (ha := ha) (hb := hb) hi fun h => h (Prod.ext (Classical.not_not.1 e1) e2)
theorem clm_go {a b : List Clm} {j : Nat} {ha : j < a.length} {hb : j < b.length} (hi : ∀ k (h : k < a.length) (h2 : k < b.length), k < j → a[k] = b[k]) (e1 : ¬ a[j].1 ≠ b[j].1) (e2 : ¬ a[j].2.1 ≠ b[j].2.1) (e3 : a[j].2.2 = b[j].2.2) : ∀ k (h : k < a.length) (h2 : k < b.length), k < j + 1 → a[k] = b[k] :=
  same_goV (ha := ha) (hb := hb) hi fun h => h (Prod.ext (Classical.not_not.1 e1) (Prod.ext (Classical.not_not.1 e2) e3))
theorem case_yes {a b : Cse} (h1 : a.1 = b.1) (h2 : a.2.1.length = b.2.1.length) (h3 : a.2.2.length = b.2.2.length) (hi : ∀ k (h : k < a.2.1.length) (h2 : k < b.2.1.length), a.2.1[k] = b.2.1[k]) (hj : ∀ k (h : k < a.2.2.length) (h2 : k < b.2.2.length), a.2.2[k] = b.2.2[k]) : a = b :=
  Prod.ext h1 (Prod.ext (List.ext_getElem h2 hi) (List.ext_getElem h3 hj))
theorem rSameC_ok {a : (List (ByteArray × Int)) × (List (ByteArray × (List (ByteArray × Int)))) × (List (ByteArray × Bool × (List ByteArray)))} {b : (List (ByteArray × Int)) × (List (ByteArray × (List (ByteArray × Int)))) × (List (ByteArray × Bool × (List ByteArray)))} (ha : CseOk a) (hb : CseOk b) : VF Tryz.prog OA 13 [.v y26 a, .v y26 b] (B (sameC a b)) := by
  refine VF.enter Tryz.func13 rfl (fun _ _ => rfl) rfl ?_; show VC _ _ _ _ _ [(0, .v y26 a), (1, .v y26 b)] [] _; refine VC.seq (VC.text ?_); have hav := ha.v; have hae := ha.e; have hal := ha.l; have hbv := hb.v; have hbe := hb.e; have hbl := hb.l; refine VO.new (.box) ?_; refine VO.new (.box) ?_; refine VO.c (.assign rfl) ?_; refine VO.go (VC.seq (VC.seq (VC.text ?_))); refine VO.c (.fa (.l .o)) ?_; refine VO.r (.ld vt22) ?_; refine VO.c (.fa (.l .o)) ?_; refine VO.r (.ld vt22) ?_; refine VO.call rfl rfl (VF.call (rSameV_ok (by first | assumption | omega | simp) (by first | assumption | omega | simp))) ?_; refine VO.c (.not) (VO.c (.move rfl) ?_); refine VO.cg (r := (!(decide (a.1 = b.1)))) (w := false) [] trivial (fun _ => (.fa (.r (.l .o)))) ?_; refine VO.rg (r := (!(decide (a.1 = b.1)))) (w := false) [(14, .p y23 a.2.1)] ⟨rfl, trivial⟩ (fun _ => (.ld vt23)) ?_; refine VO.rg (r := (!(decide (a.1 = b.1)))) (w := false) [(15, .v y23 a.2.1)] ⟨rfl, trivial⟩ (fun _ => (.len el23)) ?_; refine VO.cg (r := (!(decide (a.1 = b.1)))) (w := false) [] trivial (fun _ => (.fa (.r (.l .o)))) ?_; refine VO.rg (r := (!(decide (a.1 = b.1)))) (w := false) [(17, .p y23 b.2.1)] ⟨rfl, trivial⟩ (fun _ => (.ld vt23)) ?_; refine VO.rg (r := (!(decide (a.1 = b.1)))) (w := false) [(18, .v y23 b.2.1)] ⟨rfl, trivial⟩ (fun _ => (.len el23)) ?_; refine VO.cg (r := (!(decide (a.1 = b.1)))) (w := false) [(16, I ((a.2.1.length : Nat) : Int)), (19, I ((b.2.1.length : Nat) : Int))] ⟨rfl, rfl, trivial⟩ (fun _ => (.neq)) ?_; refine VO.c (.or) (VO.c (.move rfl) ?_); refine VO.cg (r := ((!(decide (a.1 = b.1))) || (decide (((a.2.1.length : Nat) : Int) ≠ ((b.2.1.length : Nat) : Int))))) (w := false) [] trivial (fun _ => (.fa (.r (.r (k := 0) .o)))) ?_; refine VO.rg (r := ((!(decide (a.1 = b.1))) || (decide (((a.2.1.length : Nat) : Int) ≠ ((b.2.1.length : Nat) : Int))))) (w := false) [(23, .p y24 a.2.2)] ⟨rfl, trivial⟩ (fun _ => (.ld vt24)) ?_; refine VO.rg (r := ((!(decide (a.1 = b.1))) || (decide (((a.2.1.length : Nat) : Int) ≠ ((b.2.1.length : Nat) : Int))))) (w := false) [(24, .v y24 a.2.2)] ⟨rfl, trivial⟩ (fun _ => (.len el24)) ?_; refine VO.cg (r := ((!(decide (a.1 = b.1))) || (decide (((a.2.1.length : Nat) : Int) ≠ ((b.2.1.length : Nat) : Int))))) (w := false) [] trivial (fun _ => (.fa (.r (.r (k := 0) .o)))) ?_; refine VO.rg (r := ((!(decide (a.1 = b.1))) || (decide (((a.2.1.length : Nat) : Int) ≠ ((b.2.1.length : Nat) : Int))))) (w := false) [(26, .p y24 b.2.2)] ⟨rfl, trivial⟩ (fun _ => (.ld vt24)) ?_; refine VO.rg (r := ((!(decide (a.1 = b.1))) || (decide (((a.2.1.length : Nat) : Int) ≠ ((b.2.1.length : Nat) : Int))))) (w := false) [(27, .v y24 b.2.2)] ⟨rfl, trivial⟩ (fun _ => (.len el24)) ?_; refine VO.cg (r := ((!(decide (a.1 = b.1))) || (decide (((a.2.1.length : Nat) : Int) ≠ ((b.2.1.length : Nat) : Int))))) (w := false) [(25, I ((a.2.2.length : Nat) : Int)), (28, I ((b.2.2.length : Nat) : Int))] ⟨rfl, rfl, trivial⟩ (fun _ => (.neq)) ?_; refine VO.c (.or) (VO.go ?_); refine VC.condB rfl (fun c1 => ?_) (fun c1 => ?_)
  · try simp only [Bool.and_eq_true, Bool.or_eq_true, Bool.and_eq_false_iff, Bool.or_eq_false_iff, Bool.not_eq_true', Bool.not_eq_false', decide_eq_true_eq, decide_eq_false_iff_not] at c1
    refine VC.seq (VC.text ?_); refine VO.c (.assign rfl) (VO.go ?_); refine VC.ret ?_; exact VEnd.one rfl evT (pvE (by exact (sameC_f (case_n1 c1)).symm))
  try simp only [Bool.and_eq_true, Bool.or_eq_true, Bool.and_eq_false_iff, Bool.or_eq_false_iff, Bool.not_eq_true', Bool.not_eq_false', decide_eq_true_eq, decide_eq_false_iff_not] at c1
  refine VC.skip (VC.seq (VC.seq (VC.text ?_))); refine VO.c (.assign rfl) ?_; refine VO.go (VC.block ?_); refine VC.keep [(2, .p y26 a), (3, .p y26 b), (5, I ((0 : Nat) : Int))] ⟨rfl, rfl, rfl, trivial⟩ ?_; refine VC.loop (I := fun kk ff ss => ∃ (j : Nat), kk = a.2.1.length - j ∧ ff = [(2, .p y26 a), (3, .p y26 b), (5, I ((j : Nat) : Int))] ∧ ss = [] ∧ (j ≤ a.2.1.length) ∧ (a.1 = b.1 ∧ a.2.1.length = b.2.1.length ∧ a.2.2.length = b.2.2.length) ∧ (∀ k (h : k < a.2.1.length) (h2 : k < b.2.1.length), k < j → a.2.1[k] = b.2.1[k])) ?_ _ _ _ ⟨0, rfl, rfl, rfl, Nat.zero_le _, (by exact case_c1 c1), (by exact fun k _ _ h => absurd h (by omega))⟩; rintro kk ff ss ⟨j, hk0, rfl, rfl, hj, hl, hi⟩; refine VC.seq (VC.seq (VC.text ?_)); refine VO.c (.move rfl) (VO.c (.fa (.r (.l .o))) ?_); refine VO.r (.ld vt23) ?_; refine VO.r (.len el23) ?_; refine VO.c (.lss) (VO.go ?_); refine VC.condD rfl (fun c4 => ?_) (fun c4 => ?_)
  · have hwa := ha.w _ (List.getElem_mem (show j < a.2.1.length by omega)); have hwb := hb.w _ (List.getElem_mem (show j < b.2.1.length by omega)); refine VC.skip (VC.seq (VC.block (VC.seq (VC.drawn ?_)))); refine VD.c (.fa (.r (.l .o))) ?_; refine VD.r [] (.ld vt23) (.inl rfl) ?_; refine VD.c (.move rfl) (VD.c (.ix (j := j) rfl rfl el23 (by omega)) (VD.c (.fa (.l .o)) ?_)); refine VD.r [] (.ld vt9) (.inl rfl) ?_; refine VD.nw [] (VD.c (.fa (.r (.l .o))) ?_); refine VD.r [] (.ld vt23) (.inl rfl) ?_; refine VD.c (.move rfl) (VD.c (.ix (j := j) rfl rfl el23 (by omega)) (VD.c (.fa (.l .o)) ?_)); refine VD.r [] (.ld vt9) (.inl rfl) ?_; refine VD.c (.sneq) (VD.nw [] (VD.c (.move rfl) ?_)); refine VD.splitD (x := 51) rfl (fun g6_13 => ?_) (fun g6_13 => ?_)
    · refine VD.skip (VD.skip (VD.skip (VD.skip ?_))); refine VD.skip (VD.nw [] (VD.skip (VD.skip ?_))); refine VD.skip (VD.skip (VD.skip (VD.skip ?_))); refine VD.skip (VD.nw [] (VD.skip (VD.skip ?_))); refine VD.c (.pickT rfl rfl) (VD.go ?_); refine VC.condT rfl ?_; refine VC.seq ?_; refine VC.keep [(2, .p y26 a), (3, .p y26 b), (5, I ((j : Nat) : Int))] ⟨rfl, rfl, rfl, trivial⟩ ?_; refine VC.text ?_; refine VO.c (.assign rfl) (VO.go ?_); refine VC.ret ?_; exact VEnd.one rfl evT (pvE (by first | exact (sameC_f (evid_ne (.inl g6_13))).symm | exact (sameC_f (evid_ne (.inr c6))).symm))
    refine VD.c (.fa (.r (.l .o))) ?_; refine VD.r [] (.ld vt23) (.inl rfl) ?_; refine VD.c (.move rfl) (VD.c (.ix (j := j) rfl rfl el23 (by omega)) (VD.c (.fa (.r .o)) (VD.nw [] ?_))); refine VD.r [] (.ld vt22) (.inl rfl) ?_; refine VD.c (.fa (.r (.l .o))) ?_; refine VD.r [] (.ld vt23) (.inl rfl) ?_; refine VD.c (.move rfl) (VD.c (.ix (j := j) rfl rfl el23 (by omega)) (VD.c (.fa (.r .o)) ?_)); refine VD.r [] (.ld vt22) (.inl rfl) ?_; refine VD.nw [] ?_; refine VD.call rfl rfl (VF.call (rSameV_ok (by first | assumption | omega | simp) (by first | assumption | omega | simp))) ?_; refine VD.c (.not) (VD.c (.pickF rfl rfl) (VD.go ?_)); refine VC.condB rfl (fun c6 => ?_) (fun c6 => ?_)
    · try simp only [Bool.and_eq_true, Bool.or_eq_true, Bool.and_eq_false_iff, Bool.or_eq_false_iff, Bool.not_eq_true', Bool.not_eq_false', decide_eq_true_eq, decide_eq_false_iff_not] at c6
      refine VC.seq ?_; refine VC.keep [(2, .p y26 a), (3, .p y26 b), (5, I ((j : Nat) : Int))] ⟨rfl, rfl, rfl, trivial⟩ ?_; refine VC.text ?_; refine VO.c (.assign rfl) (VO.go ?_); refine VC.ret ?_; exact VEnd.one rfl evT (pvE (by first | exact (sameC_f (evid_ne (.inl g6_13))).symm | exact (sameC_f (evid_ne (.inr c6))).symm))
    try simp only [Bool.and_eq_true, Bool.or_eq_true, Bool.and_eq_false_iff, Bool.or_eq_false_iff, Bool.not_eq_true', Bool.not_eq_false', decide_eq_true_eq, decide_eq_false_iff_not] at c6
    refine VC.skip ?_; refine VC.keep [(2, .p y26 a), (3, .p y26 b), (5, I ((j : Nat) : Int))] ⟨rfl, rfl, rfl, trivial⟩ ?_; refine VC.text ?_; refine VO.c (.move rfl) (VO.c (.add rfl rfl (by omega)) (VO.c (.assign rfl) ?_)); refine VO.nil ?_; refine ⟨_, [(2, .p y26 a), (3, .p y26 b), (5, I (((j + 1) : Nat) : Int))], ?_, ⟨rfl, rfl, rfl, trivial⟩, (j + 1), rfl, rfl, rfl, (by omega), (by exact hl), (by exact evid_go hi g6_13 c6)⟩; omega
  refine VC.exit (VC.seq (VC.seq (VC.text ?_))); refine VO.c (.assign rfl) ?_; refine VO.go (VC.block ?_); refine VC.keep [(2, .p y26 a), (3, .p y26 b), (6, I ((0 : Nat) : Int))] ⟨rfl, rfl, rfl, trivial⟩ ?_; refine VC.loop (I := fun kk ff ss => ∃ (m : Nat), kk = a.2.2.length - m ∧ ff = [(2, .p y26 a), (3, .p y26 b), (6, I ((m : Nat) : Int))] ∧ ss = [] ∧ (m ≤ a.2.2.length) ∧ (∀ k (h : k < a.2.2.length) (h2 : k < b.2.2.length), k < m → a.2.2[k] = b.2.2[k])) ?_ _ _ _ ⟨0, rfl, rfl, rfl, Nat.zero_le _, (by exact fun k _ _ h => absurd h (by omega))⟩; rintro kk ff ss ⟨m, hk2, rfl, rfl, hm, hn⟩; refine VC.seq (VC.seq (VC.text ?_)); refine VO.c (.move rfl) (VO.c (.fa (.r (.r .o))) ?_); refine VO.r (.ld vt24) ?_; refine VO.r (.len el24) ?_; refine VO.c (.lss) (VO.go ?_); refine VC.condD rfl (fun c9 => ?_) (fun c9 => ?_)
  · have hua := ha.u _ (List.getElem_mem (show m < a.2.2.length by omega)); have hub := hb.u _ (List.getElem_mem (show m < b.2.2.length by omega)); refine VC.skip (VC.seq (VC.block (VC.seq (VC.drawn ?_)))); refine VD.c (.fa (.r (.r .o))) ?_; refine VD.r [] (.ld vt24) (.inl rfl) ?_; refine VD.c (.move rfl) (VD.c (.ix (j := m) rfl rfl el24 (by omega)) (VD.c (.fa (.l .o)) ?_)); refine VD.r [] (.ld vt9) (.inl rfl) ?_; refine VD.nw [] (VD.c (.fa (.r (.r .o))) ?_); refine VD.r [] (.ld vt24) (.inl rfl) ?_; refine VD.c (.move rfl) (VD.c (.ix (j := m) rfl rfl el24 (by omega)) (VD.c (.fa (.l .o)) ?_)); refine VD.r [] (.ld vt9) (.inl rfl) ?_; refine VD.c (.sneq) (VD.nw [] (VD.c (.move rfl) ?_)); refine VD.splitD (x := 87) rfl (fun g11_13 => ?_) (fun g11_13 => ?_)
    · refine VD.skip (VD.skip (VD.skip (VD.skip ?_))); refine VD.skip (VD.nw [] (VD.skip (VD.skip ?_))); refine VD.skip (VD.skip (VD.skip (VD.skip ?_))); refine VD.skip (VD.nw [] (VD.skip (VD.c (.pickT rfl rfl) ?_))); refine VD.c (.move rfl) (VD.skip (VD.skip (VD.skip ?_))); refine VD.skip (VD.nw [] (VD.skip (VD.skip ?_))); refine VD.skip (VD.skip (VD.skip (VD.skip ?_))); refine VD.skip (VD.nw [] (VD.skip (VD.skip ?_))); refine VD.skip (VD.c (.pickT rfl rfl) (VD.go ?_)); refine VC.condT rfl ?_; refine VC.seq ?_; refine VC.keep [(2, .p y26 a), (3, .p y26 b), (6, I ((m : Nat) : Int))] ⟨rfl, rfl, rfl, trivial⟩ ?_; refine VC.text ?_; refine VO.c (.assign rfl) (VO.go ?_); refine VC.ret ?_; exact VEnd.one rfl evT (pvE (by first | exact (sameC_f (clm_ne (.inl g11_13))).symm | exact (sameC_f (clm_ne (.inr (.inl (bne_yes g11_28))))).symm | exact (sameC_f (clm_ne (.inr (.inr c11)))).symm))
    refine VD.c (.fa (.r (.r .o))) ?_; refine VD.r [] (.ld vt24) (.inl rfl) ?_; refine VD.c (.move rfl) (VD.c (.ix (j := m) rfl rfl el24 (by omega)) (VD.c (.fa (.r (.l .o))) (VD.nw [] ?_))); refine VD.r [] (.ld vt4) (.inl rfl) ?_; refine VD.c (.fa (.r (.r .o))) ?_; refine VD.r [] (.ld vt24) (.inl rfl) ?_; refine VD.c (.move rfl) (VD.c (.ix (j := m) rfl rfl el24 (by omega)) (VD.c (.fa (.r (.l .o))) ?_)); refine VD.r [] (.ld vt4) (.inl rfl) ?_; refine VD.nw [] (VD.c (.bneq) (VD.c (.pickF rfl rfl) (VD.c (.move rfl) ?_))); refine VD.splitB (x := 102) rfl (fun g11_28 => ?_) (fun g11_28 => ?_)
    · try simp only [Bool.and_eq_true, Bool.or_eq_true, Bool.and_eq_false_iff, Bool.or_eq_false_iff, Bool.not_eq_true', Bool.not_eq_false', decide_eq_true_eq, decide_eq_false_iff_not] at g11_28
      refine VD.skip (VD.skip (VD.skip (VD.nw [] ?_))); refine VD.skip (VD.skip (VD.skip (VD.skip ?_))); refine VD.skip (VD.skip (VD.skip (VD.nw [] ?_))); refine VD.skip (VD.skip (VD.skip (VD.skip ?_))); refine VD.c (.pickT rfl rfl) (VD.go ?_); refine VC.condT rfl ?_; refine VC.seq ?_; refine VC.keep [(2, .p y26 a), (3, .p y26 b), (6, I ((m : Nat) : Int))] ⟨rfl, rfl, rfl, trivial⟩ ?_; refine VC.text ?_; refine VO.c (.assign rfl) (VO.go ?_); refine VC.ret ?_; exact VEnd.one rfl evT (pvE (by first | exact (sameC_f (clm_ne (.inl g11_13))).symm | exact (sameC_f (clm_ne (.inr (.inl (bne_yes g11_28))))).symm | exact (sameC_f (clm_ne (.inr (.inr c11)))).symm))
    try simp only [Bool.and_eq_true, Bool.or_eq_true, Bool.and_eq_false_iff, Bool.or_eq_false_iff, Bool.not_eq_true', Bool.not_eq_false', decide_eq_true_eq, decide_eq_false_iff_not] at g11_28
    refine VD.c (.fa (.r (.r .o))) ?_; refine VD.r [] (.ld vt24) (.inl rfl) ?_; refine VD.c (.move rfl) (VD.nw [] (VD.c (.ix (j := m) rfl rfl el24 (by omega)) (VD.c (.fa (.r (.r .o))) ?_))); refine VD.r [] (.ld vt48) (.inl rfl) ?_; refine VD.c (.fa (.r (.r .o))) ?_; refine VD.r [] (.ld vt24) (.inl rfl) ?_; refine VD.c (.move rfl) (VD.c (.ix (j := m) rfl rfl el24 (by omega)) (VD.nw [] (VD.c (.fa (.r (.r .o))) ?_))); refine VD.r [] (.ld vt48) (.inl rfl) ?_; refine VD.call rfl rfl (VF.call (rSame_ok (by first | assumption | omega | simp) (by first | assumption | omega | simp))) ?_; refine VD.c (.not) (VD.c (.pickF rfl rfl) (VD.go ?_)); refine VC.condB rfl (fun c11 => ?_) (fun c11 => ?_)
    · try simp only [Bool.and_eq_true, Bool.or_eq_true, Bool.and_eq_false_iff, Bool.or_eq_false_iff, Bool.not_eq_true', Bool.not_eq_false', decide_eq_true_eq, decide_eq_false_iff_not] at c11
      refine VC.seq ?_; refine VC.keep [(2, .p y26 a), (3, .p y26 b), (6, I ((m : Nat) : Int))] ⟨rfl, rfl, rfl, trivial⟩ ?_; refine VC.text ?_; refine VO.c (.assign rfl) (VO.go ?_); refine VC.ret ?_; exact VEnd.one rfl evT (pvE (by first | exact (sameC_f (clm_ne (.inl g11_13))).symm | exact (sameC_f (clm_ne (.inr (.inl (bne_yes g11_28))))).symm | exact (sameC_f (clm_ne (.inr (.inr c11)))).symm))
    try simp only [Bool.and_eq_true, Bool.or_eq_true, Bool.and_eq_false_iff, Bool.or_eq_false_iff, Bool.not_eq_true', Bool.not_eq_false', decide_eq_true_eq, decide_eq_false_iff_not] at c11
    refine VC.skip ?_; refine VC.keep [(2, .p y26 a), (3, .p y26 b), (6, I ((m : Nat) : Int))] ⟨rfl, rfl, rfl, trivial⟩ ?_; refine VC.text ?_; refine VO.c (.move rfl) (VO.c (.add rfl rfl (by omega)) (VO.c (.assign rfl) ?_)); refine VO.nil ?_; refine ⟨_, [(2, .p y26 a), (3, .p y26 b), (6, I (((m + 1) : Nat) : Int))], ?_, ⟨rfl, rfl, rfl, trivial⟩, (m + 1), rfl, rfl, rfl, (by omega), (by exact clm_go hn g11_13 (fun h => h (bne_no g11_28)) c11)⟩; omega
  refine VC.exit (VC.seq (VC.text ?_)); refine VO.c (.assign rfl) (VO.go ?_); refine VC.ret ?_; exact VEnd.one rfl evT (pvE (by exact (sameC_t (case_yes hl.1 hl.2.1 hl.2.2 (fun k h h2 => hi k h h2 (by omega)) (fun k h h2 => hn k h h2 (by omega)))).symm))
theorem lTold_ok {c : (List (ByteArray × Int)) × (List (ByteArray × (List (ByteArray × Int)))) × (List (ByteArray × Bool × (List ByteArray)))} (hc : CseOk c) : VF Tryz.prog OA 14 [.v y36 c] (.v y26 c) := by
  refine VF.enter Tryz.func14 rfl (fun _ _ => rfl) rfl ?_; show VC _ _ _ _ _ [(0, .v y36 c)] [] _; refine VC.seq (VC.text ?_); have hcv := hc.v; have hce := hc.e; have hcl := hc.l; refine VO.new (.box) ?_; refine VO.cell (.allocR (zs := [nilV, nilV, nilV]) zt26) ?_; intro ww1; refine VO.go (VC.seq (VC.text ?_)); refine VO.cell (.allocR (zs := [nilV, nilV, nilV]) zt26) ?_; intro ww2; refine VO.go (VC.seq (VC.seq (VC.text ?_))); refine VO.c (.fa (.l .o)) ?_; refine VO.r (.ld vt32) ?_; refine VO.r (.len el32) ?_; refine VO.c (.move rfl) ?_; refine VO.go (VC.block ?_); refine VC.cell0 52 y52 ?_; refine VC.keep [(1, .p y36 c), (2, .raw ww1), (3, .raw ww2), (14, .v y32 c.1), (15, I ((c.1.length : Nat) : Int)), (16, I ((0 : Nat) : Int))] ⟨rfl, rfl, rfl, rfl, rfl, rfl, trivial⟩ ?_; refine VC.loop (I := fun kk ff ss => ∃ (i : Nat) (w0 : Value), kk = c.1.length - i ∧ ff = [(1, .p y36 c), (2, .raw ww1), (3, .raw ww2), (14, .v y32 c.1), (15, I ((c.1.length : Nat) : Int)), (16, I ((i : Nat) : Int))] ∧ ss = [(w0, .row 52 y52 (c.1.take i)), (ww2, .var [.raw w0, nilV, nilV]), (ww1, .var [nilV, nilV, nilV])] ∧ (i ≤ c.1.length)) ?_ _ _ _ ⟨0, (.slice none 0 0), rfl, rfl, rfl, Nat.zero_le _⟩; rintro kk ff ss ⟨i, w0, hk0, rfl, rfl, hi⟩; refine VC.seq (VC.text ?_); refine VO.c (.lss) ?_; refine VO.go (VC.seq ?_); refine VC.condD rfl (fun c3 => ?_) (fun c3 => ?_)
  · refine VC.skip (VC.seq (VC.block (VC.seq (VC.text ?_)))); refine VO.c (.ix (j := i) rfl rfl el32 (by omega)) ?_; refine VO.r (.ld vt98) ?_; refine VO.cell (.alloc zt98) ?_; intro ww3; refine VO.setV (cs' := [St ((c.1[i]).1), I ((c.1[i]).2)]) vt98 .v ?_; refine VO.shut [(5, .p y98 (c.1[i]))] (.cons rfl (.var m0 .refl) .nil) ?_; refine VO.go (VC.text ?_); refine VO.c (.faO (k := 0) m1) ?_; refine VO.r (.ldF (k := 0) m1 vt22) ?_; refine VO.r (.ld vt98) ?_; refine VO.new (.lit [c.1[i]] el22) ?_; refine VO.app rfl rfl el22 el22 (by simp; omega) ?_; intro ww4; refine VO.c (.faO (k := 0) m1) ?_; refine VO.perm swap1 ?_; refine VO.one m1 fun ho5 => ?_; refine VO.setF (cs' := [.raw ww4, nilV, nilV]) 0 vt22 (.raw rfl (agg_one ho5) ho5) ?_; refine VO.nil (VC.text ?_); refine VO.c (.add rfl rfl (by omega)) (VO.c (.move rfl) ?_); refine VO.perm swap2 ?_; refine VO.perm swap1 ?_; refine VO.perm swap2 ?_; refine VO.nil ?_; refine ⟨_, [(1, .p y36 c), (2, .raw ww1), (3, .raw ww2), (14, .v y32 c.1), (15, I ((c.1.length : Nat) : Int)), (16, I (((i + 1) : Nat) : Int))], ?_, ⟨rfl, rfl, rfl, rfl, rfl, rfl, trivial⟩, (i + 1), ww4, rfl, rfl, (by rw [List.take_succ_eq_append_getElem (by omega)] <;> rfl), (by omega)⟩; omega
  refine VC.exit (VC.seq (VC.seq (VC.text ?_))); refine VO.c (.fa (.r (.l .o))) ?_; refine VO.r (.ld vt33) ?_; refine VO.r (.len el33) ?_; refine VO.c (.move rfl) ?_; refine VO.go (VC.block ?_); refine VC.cell0 54 y54 ?_; refine VC.keep [(1, .p y36 c), (2, .raw ww1), (3, .raw ww2), (28, .v y33 c.2.1), (29, I ((c.2.1.length : Nat) : Int)), (30, I ((0 : Nat) : Int))] ⟨rfl, rfl, rfl, rfl, rfl, rfl, trivial⟩ ?_; refine VC.loop (I := fun kk ff ss => ∃ (j : Nat) (w1 : Value), kk = c.2.1.length - j ∧ ff = [(1, .p y36 c), (2, .raw ww1), (3, .raw ww2), (28, .v y33 c.2.1), (29, I ((c.2.1.length : Nat) : Int)), (30, I ((j : Nat) : Int))] ∧ ss = [(w1, .row 54 y54 (c.2.1.take j)), (w0, .row 52 y52 (c.1.take i)), (ww2, .var [.raw w0, .raw w1, nilV]), (ww1, .var [nilV, nilV, nilV])] ∧ (j ≤ c.2.1.length)) ?_ _ _ _ ⟨0, (.slice none 0 0), rfl, rfl, rfl, Nat.zero_le _⟩; rintro kk ff ss ⟨j, w1, hk2, rfl, rfl, hj⟩; refine VC.seq (VC.text ?_); refine VO.c (.lss) ?_; refine VO.go (VC.seq ?_); refine VC.condD rfl (fun c8 => ?_) (fun c8 => ?_)
  · have hwl := hc.w _ (List.getElem_mem (show j < c.2.1.length by omega)); refine VC.skip (VC.seq (VC.block (VC.seq (VC.text ?_)))); refine VO.c (.ix (j := j) rfl rfl el33 (by omega)) ?_; refine VO.r (.ld vt101) ?_; refine VO.cell (.alloc zt101) ?_; intro ww6; refine VO.setV (cs' := [St ((c.2.1[j]).1), .v y32 ((c.2.1[j]).2)]) vt101 .v ?_; refine VO.shut [(7, .p y101 (c.2.1[j]))] (.cons rfl (.var m0 .refl) .nil) ?_; refine VO.go (VC.seq (VC.text ?_)); refine VO.c (.fa (.l .o)) ?_; refine VO.r (.ld vt9) ?_; refine VO.c (.buildA (cs := [St ((c.2.1[j]).1), nilV]) bt54 rfl) ?_; refine VO.cell (.alloc zt54) ?_; intro ww7; refine VO.setV (cs' := [St ((c.2.1[j]).1), nilV]) vt54 (.aggs rfl rfl) ?_; refine VO.go (VC.seq (VC.seq (VC.text ?_))); refine VO.c (.fa (.r .o)) ?_; refine VO.r (.ld vt32) ?_; refine VO.r (.len el32) ?_; refine VO.c (.move rfl) ?_; refine VO.go (VC.block ?_); refine VC.cell0 52 y52 ?_; refine VC.keep [(1, .p y36 c), (2, .raw ww1), (3, .raw ww2), (8, .raw ww7), (28, .v y33 c.2.1), (29, I ((c.2.1.length : Nat) : Int)), (30, I ((j : Nat) : Int)), (38, .v y32 ((c.2.1[j]).2)), (39, I ((((c.2.1[j]).2).length : Nat) : Int)), (40, I ((0 : Nat) : Int))] ⟨rfl, rfl, rfl, rfl, rfl, rfl, rfl, rfl, rfl, rfl, trivial⟩ ?_; refine VC.loop (I := fun kk ff ss => ∃ (k : Nat) (w2 : Value), kk = (c.2.1[j]).2.length - k ∧ ff = [(1, .p y36 c), (2, .raw ww1), (3, .raw ww2), (8, .raw ww7), (28, .v y33 c.2.1), (29, I ((c.2.1.length : Nat) : Int)), (30, I ((j : Nat) : Int)), (38, .v y32 ((c.2.1[j]).2)), (39, I ((((c.2.1[j]).2).length : Nat) : Int)), (40, I ((k : Nat) : Int))] ∧ ss = [(w2, .row 52 y52 ((c.2.1[j]).2.take k)), (ww7, .var [St ((c.2.1[j]).1), .raw w2]), (w1, .row 54 y54 (c.2.1.take j)), (w0, .row 52 y52 (c.1.take i)), (ww2, .var [.raw w0, .raw w1, nilV]), (ww1, .var [nilV, nilV, nilV])] ∧ (k ≤ (c.2.1[j]).2.length)) ?_ _ _ _ ⟨0, (.slice none 0 0), rfl, rfl, rfl, (by omega)⟩; rintro kk ff ss ⟨k, w2, hk4, rfl, rfl, hk⟩; refine VC.seq (VC.text ?_); refine VO.c (.lss) ?_; refine VO.go (VC.seq ?_); refine VC.condD rfl (fun c12 => ?_) (fun c12 => ?_)
    · refine VC.skip (VC.seq (VC.block (VC.seq (VC.text ?_)))); refine VO.c (.ix (j := k) rfl rfl el32 (by omega)) ?_; refine VO.r (.ld vt98) ?_; refine VO.cell (.alloc zt98) ?_; intro ww8; refine VO.setV (cs' := [St ((((c.2.1[j]).2)[k]).1), I ((((c.2.1[j]).2)[k]).2)]) vt98 .v ?_; refine VO.shut [(10, .p y98 (((c.2.1[j]).2)[k]))] (.cons rfl (.var m0 .refl) .nil) ?_; refine VO.go (VC.text ?_); refine VO.c (.faO (k := 1) m1) ?_; refine VO.r (.ldF (k := 1) m1 vt22) ?_; refine VO.r (.ld vt98) ?_; refine VO.new (.lit [((c.2.1[j]).2)[k]] el22) ?_; refine VO.app rfl rfl el22 el22 (by simp; omega) ?_; intro ww9; refine VO.c (.faO (k := 1) m1) ?_; refine VO.perm swap1 ?_; refine VO.one m1 fun ho10 => ?_; refine VO.setF (cs' := [St ((c.2.1[j]).1), .raw ww9]) 1 vt22 (.raw rfl (agg_one ho10) ho10) ?_; refine VO.nil (VC.text ?_); refine VO.c (.add rfl rfl (by omega)) (VO.c (.move rfl) ?_); refine VO.perm swap5 ?_; refine VO.perm swap5 ?_; refine VO.perm swap5 ?_; refine VO.perm swap5 ?_; refine VO.perm swap4 ?_; refine VO.perm swap5 ?_; refine VO.nil ?_; refine ⟨_, [(1, .p y36 c), (2, .raw ww1), (3, .raw ww2), (8, .raw ww7), (28, .v y33 c.2.1), (29, I ((c.2.1.length : Nat) : Int)), (30, I ((j : Nat) : Int)), (38, .v y32 ((c.2.1[j]).2)), (39, I ((((c.2.1[j]).2).length : Nat) : Int)), (40, I (((k + 1) : Nat) : Int))], ?_, ⟨rfl, rfl, rfl, rfl, rfl, rfl, rfl, rfl, rfl, rfl, trivial⟩, (k + 1), ww9, rfl, rfl, (by rw [List.take_succ_eq_append_getElem (by omega)] <;> rfl), (by omega)⟩; omega
    refine VC.exit ?_; refine VC.perm swap1 ?_; refine VC.perm swap1 ?_; refine VC.shutL [(w2, .row 52 y52 ((c.2.1[j]).2.take k)), (ww7, .var [St ((c.2.1[j]).1), .raw w2])] [(8, .p y54 ((c.2.1[j]).1, ((c.2.1[j]).2.take k)))] rfl (.cons rfl (.var m1 (.cons .same (.cons (.row m0) .nil))) .nil) ?_; refine VC.text ?_; refine VO.c (.faO (k := 1) m2) ?_; refine VO.r (.ldF (k := 1) m2 vt23) ?_; refine VO.r (.ld vt54) ?_; refine VO.new (.lit [((c.2.1[j]).1, ((c.2.1[j]).2.take k))] el23) ?_; refine VO.app rfl rfl el23 el23 (by simp; omega) ?_; intro ww11; refine VO.c (.faO (k := 1) m2) ?_; refine VO.perm swap2 ?_; refine VO.one m1 fun ho12 => ?_; refine VO.setF (cs' := [.raw w0, .raw ww11, nilV]) 1 vt23 (.raw rfl (agg_one ho12) ho12) ?_; refine VO.nil (VC.text ?_); refine VO.c (.add rfl rfl (by omega)) (VO.c (.move rfl) ?_); refine VO.perm swap3 ?_; refine VO.perm swap1 ?_; refine VO.perm swap3 ?_; refine VO.perm swap3 ?_; refine VO.nil ?_; refine ⟨_, [(1, .p y36 c), (2, .raw ww1), (3, .raw ww2), (28, .v y33 c.2.1), (29, I ((c.2.1.length : Nat) : Int)), (30, I (((j + 1) : Nat) : Int))], ?_, ⟨rfl, rfl, rfl, rfl, rfl, rfl, trivial⟩, (j + 1), ww11, rfl, rfl, (by rw [List.take_succ_eq_append_getElem (by omega), List.take_of_length_le (i := k) (by omega)] <;> rfl), (by omega)⟩; omega
  refine VC.exit (VC.seq (VC.seq (VC.text ?_))); refine VO.c (.fa (.r (.r .o))) ?_; refine VO.r (.ld vt34) ?_; refine VO.r (.len el34) ?_; refine VO.c (.move rfl) ?_; refine VO.go (VC.block ?_); refine VC.cell0 56 y56 ?_; refine VC.keep [(2, .raw ww1), (3, .raw ww2), (59, .v y34 c.2.2), (60, I ((c.2.2.length : Nat) : Int)), (61, I ((0 : Nat) : Int))] ⟨rfl, rfl, rfl, rfl, rfl, trivial⟩ ?_; refine VC.loop (I := fun kk ff ss => ∃ (m : Nat) (w3 : Value), kk = c.2.2.length - m ∧ ff = [(2, .raw ww1), (3, .raw ww2), (59, .v y34 c.2.2), (60, I ((c.2.2.length : Nat) : Int)), (61, I ((m : Nat) : Int))] ∧ ss = [(w3, .row 56 y56 (c.2.2.take m)), (w1, .row 54 y54 (c.2.1.take j)), (w0, .row 52 y52 (c.1.take i)), (ww2, .var [.raw w0, .raw w1, .raw w3]), (ww1, .var [nilV, nilV, nilV])] ∧ (m ≤ c.2.2.length)) ?_ _ _ _ ⟨0, (.slice none 0 0), rfl, rfl, rfl, Nat.zero_le _⟩; rintro kk ff ss ⟨m, w3, hk6, rfl, rfl, hm⟩; refine VC.seq (VC.text ?_); refine VO.c (.lss) ?_; refine VO.go (VC.seq ?_); refine VC.condD rfl (fun c19 => ?_) (fun c19 => ?_)
  · refine VC.skip (VC.seq (VC.block (VC.seq (VC.text ?_)))); refine VO.c (.ix (j := m) rfl rfl el34 (by omega)) ?_; refine VO.r (.ld vt102) ?_; refine VO.cell (.alloc zt102) ?_; intro ww13; refine VO.setV (cs' := [St ((c.2.2[m]).1), B ((c.2.2[m]).2.1), .v (.sl .str) ((c.2.2[m]).2.2)]) vt102 .v ?_; refine VO.shut [(12, .p y102 (c.2.2[m]))] (.cons rfl (.var m0 .refl) .nil) ?_; refine VO.go (VC.drawn ?_); refine VD.co (.faO (k := 2) m3) ?_; refine VD.r [(w3, .row 56 y56 (c.2.2.take m)), (w1, .row 54 y54 (c.2.1.take j)), (w0, .row 52 y52 (c.1.take i)), (ww2, .var [.raw w0, .raw w1, .raw w3]), (ww1, .var [nilV, nilV, nilV])] (.ldF (k := 2) m3 vt24) (.inr ⟨rfl, rfl⟩) ?_; refine VD.c (.fa (.l .o)) ?_; refine VD.r [] (.ld vt9) (.inl rfl) ?_; refine VD.c (.fa (.r (.l .o))) ?_; refine VD.r [] (.ld vt4) (.inl rfl) ?_; refine VD.nw [] (VD.c (.fa (.r (.r .o))) ?_); refine VD.r [] (.ld vt48) (.inl rfl) ?_; refine VD.call rfl rfl (VF.call (lWords_ok (by have := hc.u _ (List.getElem_mem (show m < c.2.2.length by omega)); omega))) ?_; refine VD.c (.build ((c.2.2[m]).1, (c.2.2[m]).2.1, ((c.2.2[m]).2.2)) bt56) ?_; refine VD.new (.lit [((c.2.2[m]).1, (c.2.2[m]).2.1, ((c.2.2[m]).2.2))] el24) ?_; refine VD.mk (MakeV.app el24 el24 rfl rfl (by simp; omega)) ?_; rintro _ _ tl14 ⟨ww14, rfl, rfl⟩; refine VD.co (.faO (k := 2) m3) ?_; refine VD.perm swap3 ?_; refine VD.one m1 fun ho15 => ?_; refine VD.mk0 (MakeV.setF (k := 2) vt24 (.raw rfl (agg_one ho15) ho15) (Nat.le_of_ble_eq_true rfl) (.inl rfl) rfl rfl) ?_; rintro _ _ tl16 ⟨rfl, rfl⟩; refine VD.nil ?_; refine VC.text ?_; refine VO.c (.add rfl rfl (by omega)) (VO.c (.move rfl) ?_); refine VO.perm swap4 ?_; refine VO.perm swap1 ?_; refine VO.perm swap4 ?_; refine VO.perm swap4 ?_; refine VO.perm swap4 ?_; refine VO.nil ?_; refine ⟨_, [(2, .raw ww1), (3, .raw ww2), (59, .v y34 c.2.2), (60, I ((c.2.2.length : Nat) : Int)), (61, I (((m + 1) : Nat) : Int))], ?_, ⟨rfl, rfl, rfl, rfl, rfl, trivial⟩, (m + 1), ww14, rfl, rfl, (by rw [List.take_succ_eq_append_getElem (by omega)] <;> rfl), (by omega)⟩; omega
  refine VC.exit (VC.seq ?_); refine VC.perm swap3 ?_; refine VC.perm swap1 ?_; refine VC.perm swap2 ?_; refine VC.perm swap3 ?_; refine VC.shutL [(w0, .row 52 y52 (c.1.take i)), (w1, .row 54 y54 (c.2.1.take j)), (w3, .row 56 y56 (c.2.2.take m)), (ww2, .var [.raw w0, .raw w1, .raw w3])] [(3, .p y26 ((c.1.take i), (c.2.1.take j), (c.2.2.take m)))] rfl (.cons rfl (.var m3 (.cons (.row m0) (.cons (.row m1) (.cons (.row m2) .nil)))) .nil) ?_; refine VC.text ?_; refine VO.r (.ld vt26) ?_; refine VO.setV (cs' := [.v y22 (c.1.take i), .v y23 (c.2.1.take j), .v y24 (c.2.2.take m)]) vt26 .v ?_; refine VO.go ?_; refine VC.ret ?_; exact VEnd.one rfl (.cell (x := ((c.1.take i), (c.2.1.take j), (c.2.2.take m))) rfl m0 vt26 .refl) (pvE (by rw [List.take_of_length_le (by omega), List.take_of_length_le (by omega), List.take_of_length_le (by omega)]))
end Go.Proofs
namespace Go.Fs
variable {P : Program} {orc : FuncId → List Value → Heap → Option (Value × Heap)} {rnd : Option Nat} {h h' h0 h1 h2 hs : Heap} {S S' S0 B G : List Nat} {σ σ' : Sto} {t t' : Tr} {ms : List Nat} {fl : VL} {ops : Array Oper} {n i mem : Nat} {l : List Oper} {K : VL → Sto → Prop} {Q : Ex → VL → Sto → Prop}
  {d d1 d2 : Tmp} {ty ty1 ty2 : TypeId} {pos pos1 pos2 : String} {after after1 after2 : Array Edge} {op : Op} {v v1 : PV} {g g1 g2 : Option (Nat × Bool)} {bs nw : List Nat} {segs : List (Nat × Nat × Nat)} {tail so : Bool}
section
variable (P orc)
end
end Go.Fs
namespace Go.Fs
variable {P : Program} {orc : FuncId → List Value → Heap → Option (Value × Heap)} {rnd : Option Nat} {h h' h0 h1 h2 : Heap} {S S' S0 B G : List Nat} {σ σ' : Sto} {t t' : Tr} {ms : List Nat} {fl : VL} {ops : Array Oper} {n i mem : Nat} {l : List Oper} {K : VL → Sto → Prop} {Q : Ex → VL → Sto → Prop}
  {d : Tmp} {ty : TypeId} {pos : String} {after : Array Edge} {op : Op} {v pv : PV} {g : Option (Nat × Bool)} {bs nw : List Nat} {segs : List (Nat × Nat × Nat)} {so : Bool}
end Go.Fs
namespace Go.Fs
variable {P : Program} {orc : FuncId → List Value → Heap → Option (Value × Heap)} {rnd : Option Nat} {h h' h0 h1 h2 : Heap} {S S' S0 B G : List Nat} {σ σ' σr : Sto} {t t' : Tr} {ms : List Nat} {fl : VL} {ops : Array Oper} {n i mem : Nat} {l : List Oper} {K : VL → Sto → Prop} {Q : Ex → VL → Sto → Prop}
  {d : Tmp} {ty : TypeId} {pos : String} {after : Array Edge} {op : Op} {v pv : PV} {g : Option (Nat × Bool)} {x y z : Operand} {T T' e e' : TypeId} {τ τ' : Ty} {w w' : Value} {c c' : Cell}
end Go.Fs
namespace Go.Fs
variable {P : Program} {orc : FuncId → List Value → Heap → Option (Value × Heap)} {rnd : Option Nat} {h h' h0 h1 h2 : Heap} {S S' S0 B G : List Nat} {σ σ' σr : Sto} {t t' : Tr} {ms : List Nat} {fl : VL} {ops : Array Oper} {n i mem : Nat} {l : List Oper} {K : VL → Sto → Prop} {Q : Ex → VL → Sto → Prop}
  {d : Tmp} {ty : TypeId} {pos : String} {after : Array Edge} {op : Op} {v pv : PV} {g : Option (Nat × Bool)} {x y z : Operand} {T T' e : TypeId} {τ τ' : Ty} {bs nw : List Nat} {segs : List (Nat × Nat × Nat)} {tail so : Bool} {w w' : Value} {c c' : Cell}
end Go.Fs
namespace Go.Fs
variable {P : Program} {orc : FuncId → List Value → Heap → Option (Value × Heap)} {rnd : Option Nat} {h h' h0 h1 h2 : Heap} {S S' S0 G : List Nat} {σ σ' σr γ γ' : Sto} {t t' : Tr} {ms : List Nat} {fl nw : VL} {ops : Array Oper} {n i mem : Nat} {l : List Oper} {K : VL → Sto → Prop} {Q : Ex → VL → Sto → Prop}
  {d : Tmp} {ty : TypeId} {pos : String} {after : Array Edge} {op : Op} {v pv : PV} {g : Option (Nat × Bool)} {bs nw0 : List Nat} {tail so : Bool} {x y z : Operand} {T T' e : TypeId} {τ τ' : Ty} {w w' : Value}
end Go.Fs
namespace Go.Fs
variable {P : Program} {orc : FuncId → List Value → Heap → Option (Value × Heap)} {rnd : Option Nat} {h h' h0 h1 h2 : Heap} {S S' S0 G : List Nat} {σ σ' σr γ γ' : Sto} {t t' : Tr} {ms : List Nat} {fl nw : VL} {ops : Array Oper} {n i mem : Nat} {l : List Oper} {K : VL → Sto → Prop} {Q : Ex → VL → Sto → Prop}
  {d : Tmp} {ty : TypeId} {pos : String} {after : Array Edge} {op : Op} {v pv : PV} {g : Option (Nat × Bool)} {bs nw0 : List Nat} {tail so : Bool} {x y z : Operand} {T T' e : TypeId} {τ τ' : Ty} {w w' : Value}
theorem ReadV.ldAll {cs : List PV} (hm : (w, Cell.var cs) ∈ σ) (hT : ValT P T τ) (hl : cs.length = τ.size := by rfl) (ha : τ.agg = true := by rfl) (hx : evV fl x = some (.raw w) := by rfl) : ReadV P fl σ (.load T x) (.agg cs) :=
  ⟨rfl, fun h S t hs hcc => by
    have h1 : evalO t x = w := hs x (by simp [Op.operands]) _ hx; obtain ⟨b, e, vs, h3, h4, h5, h6, _⟩ := hcc _ hm; refine ⟨.agg vs.toArray, ⟨vs, rfl, h6⟩, fun H hH _ _ _ _ _ => ?_⟩; have hB : BoxR H 0 w vs := ⟨b, e, h3, Nat.zero_le _, hH b _ h5⟩; show (fsLoad P T (evalO t x) H).map _ = _
    rw [h1, hB.ldA hT ha (by rw [h6.len, hl])]; rfl⟩
end Go.Fs
namespace Go.Fs
variable {P : Program} {orc : FuncId → List Value → Heap → Option (Value × Heap)} {rnd : Option Nat} {h h' h0 h1 h2 : Heap} {S S' S0 S1 S2 B G : List Nat} {σ σ' σr γ : Sto} {t t' : Tr} {ms : List Nat} {fl : VL} {ops : Array Oper} {n i mem : Nat} {l : List Oper} {K : VL → Sto → Prop} {Q : Ex → VL → Sto → Prop}
  {d : Tmp} {ty : TypeId} {pos : String} {after : Array Edge} {op : Op} {v pv : PV} {g : Option (Nat × Bool)} {x y z : Operand} {T T' e e' e2 : TypeId} {τ τ' : Ty} {w w' : Value} {c c' : Cell}
theorem raws_rep : ∀ {us : List Value}, RepL h S (us.map .raw) us
  | [] => rfl
  | u :: us => ⟨u, us, rfl, rfl, raws_rep⟩
theorem raws_eq : ∀ {us rs : List Value}, RepL h S (us.map .raw) rs → rs = us
  | [], rs, hr => hr
  | u :: us, rs, ⟨v, r, h1, h2, h3⟩ => by
    subst h1; rw [show v = u from h2, raws_eq h3]
end Go.Fs
namespace Go.Fs
variable {P : Program} {orc : FuncId → List Value → Heap → Option (Value × Heap)} {rnd : Option Nat} {h h' h0 h1 h2 : Heap} {S S' S0 S1 S2 B G : List Nat} {σ σ' σr γ : Sto} {t t' : Tr} {ms : List Nat} {fl : VL} {ops : Array Oper} {n i mem : Nat} {l : List Oper} {K : VL → Sto → Prop} {Q : Ex → VL → Sto → Prop}
  {d : Tmp} {ty : TypeId} {pos : String} {after : Array Edge} {op : Op} {v pv : PV} {g : Option (Nat × Bool)} {x y z : Operand} {T T' e e' e2 : TypeId} {τ τ' : Ty} {w w' a u : Value} {c c' : Cell} {b : Nat}
def bytesI (s : ByteArray) : List Int := s.data.toList.map fun c => ((c.toNat : Nat) : Int)
theorem bytesI_len (s : ByteArray) : (bytesI s).length = s.size := by
  show (s.data.toList.map _).length = s.data.size; simp
theorem bytesI_app (s r : ByteArray) : bytesI (s ++ r) = bytesI s ++ bytesI r := by
  unfold bytesI; rw [ByteArray.data_append, Array.toList_append, List.map_append]
def bytesV (s : ByteArray) : List Value := (bytesI s).map (.int .u8)
theorem bytesV_len (s : ByteArray) : (bytesV s).length = s.size := by rw [bytesV, List.length_map, bytesI_len]
theorem u8_elems {rs : List Value} {xs : List Int} (he : Elems h S (.int .u8) rs xs) : rs = xs.map (.int .u8) := by
  have h1 := he.1; simp only [Ty.size, Nat.mul_one] at h1; refine List.ext_getElem (by simpa using h1) fun i h2 h3 => ?_; rw [List.getElem_map]
  have hi : i < xs.length := by simpa using h3
  have h4 := he.2 i hi; have h4 : (rs.drop (i * 1)).take 1 = [.int .u8 xs[i]] := h4; rw [Nat.mul_one, List.drop_eq_getElem_cons h2] at h4; exact List.cons.inj h4 |>.1
theorem elems_u8 {xs : List Int} : Elems h S (.int .u8) (xs.map (.int .u8)) xs := ⟨by simp [Ty.size], fun i hi => by
  show ((xs.map (Value.int .u8)).drop (i * 1)).take 1 = [.int .u8 xs[i]]; rw [Nat.mul_one, List.drop_eq_getElem_cons (by simpa using hi)]
  simp⟩
theorem bytesC_map : ∀ l : List UInt8, bytesC (l.map fun c => Value.int .u8 ((c.toNat : Nat) : Int)) = some l
  | [] => rfl
  | c :: r => by
    show (bif Nat.blt c.toNat 256 then (bytesC _).map (UInt8.ofNat c.toNat :: ·) else none) = _
    have h1 : Nat.blt c.toNat 256 = true := by
      show Nat.ble (c.toNat + 1) 256 = true; rw [Nat.ble_eq]; exact c.toNat_lt
    rw [h1, bytesC_map r]; simp
theorem bytesC_V (s : ByteArray) : bytesC (bytesV s) = some s.data.toList := by
  rw [bytesV, bytesI, List.map_map]; exact bytesC_map _
abbrev bP (b : Nat) : Value := .pointer (some ⟨b, 0, none⟩)
abbrev bW (b : Nat) : Value := .slice (some ⟨b, 0, none⟩) 0 0
theorem bld_get (hc : CellR h S (bW b) (.cel T 0 [.raw a, .raw u])) : b ∈ S ∧ h.get b = some (.row T [a, u] true false) ∧ oneCell a = true ∧ oneCell u = true := by
  rcases hc with ⟨h1, _⟩ | ⟨b', rs, m, h1, h2, h3, h4, h5, h6⟩
  · cases h1
  have h1 : bW b = .slice (some ⟨b', 0, none⟩) 0 0 := h1
  have hb : b = b' := by injection h1 with h1; injection h1 with h1; injection h1
  subst hb; obtain rfl : rs = [a, u] := raws_eq (us := [a, u]) h4; obtain rfl := h6 rfl; simp at h5; exact ⟨h2, h3, h5.1, h5.2⟩
theorem bld_of (hb : b ∈ S) (hg : h.get b = some (.row T [a, u] true false)) (ha : oneCell a = true) (hu : oneCell u = true) : CellR h S (bW b) (.cel T 0 [.raw a, .raw u]) :=
  .inr ⟨b, [a, u], false, rfl, hb, hg, raws_rep (us := [a, u]), by simp [ha, hu], fun _ => rfl⟩
theorem MakeV.allocB (hz : (P.info? T).bind (·.zero) = some (.agg #[.pointer none, .slice none 0 0])) : MakeV P fl σ (.alloc T) fun v σ' => ∃ b, v = .raw (bP b) ∧ σ' = (bW b, .cel T 0 [.raw (.pointer none), .raw (.slice none 0 0)]) :: σ :=
  ⟨rfl, fun S0 h t L => by
    refine ⟨_, h.push (.row T [.pointer none, .slice none 0 0] true false), .raw (bP h.next), _, ⟨_, rfl, rfl⟩, Made.cons L (Aft.push h _ _) (fun b hb => by simp [blk] at hb; omega) (by simp [blk]) fun hN => ?_, rfl, fun _ _ _ _ _ => ?_⟩
    · exact bld_of (List.mem_append_left _ (by rw [own_cons]; simp [blk])) (by rw [Heap.get_push, if_pos rfl]) rfl rfl
    show (match (P.info? T).bind (·.zero) with | some z => if af z then fsBox T z h else none | none => none) = _; rw [hz]
    rfl⟩
theorem CalmV.nilP {p : Addr} (hx : evV fl x = some (.raw (.pointer (some p))) := by rfl) : CalmV P fl σ (.nilCheck x) (.raw (.pointer (some p))) :=
  ⟨rfl, fun h S t hs hc => by
    have h1 : evalO t x = .pointer (some p) := hs x (by simp [Op.operands]) _ hx; refine ⟨_, rfl, fun _ _ _ _ _ H => ?_⟩; show (match evalO t x with | .pointer (some a) => some (Value.pointer (some a), H) | .func (.func f) a b => some (.func (.func f) a b, H) | _ => none) = _
    rw [h1]⟩
theorem CalmV.faB {s : TypeId} {f k : Nat} (hm : (bW b, Cell.cel T 0 [.raw a, .raw u]) ∈ σ) (hb : offB P s f k = true := by kernel_rfl) (hx : evV fl x = some (.raw (bP b)) := by rfl) : CalmV P fl σ (.fieldAddr s x f) (.raw (padd (bP b) k)) :=
  ⟨rfl, fun h S t hs hc => by
    have h1 : evalO t x = bP b := hs x (by simp [Op.operands]) _ hx; obtain ⟨_, h5, _⟩ := bld_get (hc _ hm); have hB : BoxR h 0 (bP b) [a, u] := ⟨b, T, rfl, Nat.zero_le _, h5⟩; refine ⟨_, rfl, fun _ _ _ _ _ H => ?_⟩; show (runPure P (Instr.fieldAt s (evalO t x) f)).map _ = _
    rw [h1, hB.fa hb]; rfl⟩
theorem ReadV.ldB (hm : (bW b, Cell.cel T 0 [.raw a, .raw u]) ∈ σ) (hT : ValT P T' τ) (ha : τ.agg = false := by rfl) (hx : evV fl x = some (.raw (padd (bP b) 1)) := by rfl) : ReadV P fl σ (.load T' x) (.raw u) :=
  ⟨rfl, fun h S t hs hc => by
    have h1 : evalO t x = padd (bP b) 1 := hs x (by simp [Op.operands]) _ hx; obtain ⟨_, h5, _⟩ := bld_get (hc _ hm); refine ⟨u, rfl, fun H hH _ _ _ _ _ => ?_⟩; have hB : BoxR H 0 (bP b) [a, u] := ⟨b, T, rfl, Nat.zero_le _, hH b _ h5⟩; show (fsLoad P T' (evalO t x) H).map _ = _
    rw [h1, hB.ld1 hT ha (u := u) (by rfl)]; rfl⟩
theorem MakeV.stB {u' : Value} (hT : ValT P T' (.sl τ)) (hx : evV fl x = some (.raw (padd (bP b) 1))) (hy : evV fl y = some (.raw u')) (ho : oneCell u' = true) :
    MakeV P fl ((bW b, .cel T 0 [.raw a, .raw u]) :: σ) (.store T' x y) fun v σ' => v = .raw undef ∧ σ' = (bW b, .cel T 0 [.raw a, .raw u']) :: σ :=
  ⟨rfl, fun S0 h t L => by
    have h1 : evalO t x = padd (bP b) 1 := evV_ok L.slots hx; have h2 : evalO t y = u' := evV_ok L.slots hy; obtain ⟨g1, g2, g3, g4⟩ := bld_get (L.cells _ List.mem_cons_self); obtain ⟨i, hi, hs⟩ := hT.info; have hs : i.size = 1 := hs
    have hul : u'.cells.toList = [u'] := by rw [cells_one (agg_one ho)]
    refine ⟨undef, h.set b (.row T [a, u'] true false), .raw undef, _, ⟨rfl, rfl⟩, Made.head L (Aft.set g2 (by simp [blk])) (fun b hb => .inl hb) (by simp [blk]) fun hN => ?_, rfl, fun _ _ _ _ _ => ?_⟩
    · exact bld_of (List.mem_append_left _ (by rw [own_cons]; simp [blk])) (by rw [Heap.get_set g2, if_pos rfl]) g3 ho
    show (fsStore P T' (evalO t x) (evalO t y) h).map _ = _
    have : fsStore P T' (evalO t x) (evalO t y) h = some (h.set b (.row T [a, u'] true false)) := by
      rw [h1, h2]; simp only [fsStore, padd, g2, hi, hs, hul]; rw [if_pos ⟨rfl, by show 0 + 1 + 1 ≤ 2; omega, by simp [ho]⟩]; rfl
    rw [this]; rfl⟩
theorem appended_str {i : TypeInfo} {z : Value} {s : ByteArray} {xd : TypeDesc} (hi : isInt xd = false) : appended i z (isInt xd) (.string s) h = some (s.size, bytesV s) := by
  rw [hi]; show (match lenV (.string s) with | some m => (cellsOf i.size m (.string s) h).map fun cs => (m, cs) | none => none) = _; simp only [lenV, cellsOf, Option.map_some]; congr 2; rw [show s.extract 0 s.size = s from ByteArray.extract_zero_size]; simp [bytesV, bytesI, Array.toList_map, List.map_map]
theorem row_growX (hT : ElT P T e τ) {xd : TypeDesc} (hT' : P.underlying T' = some xd) {u : Value} {news : List Value} {xs ys : List τ.den} (hok : HOk h) (hg : CellR h S w (.row e τ xs)) 
    (hap : ∀ i z, i.size = τ.size → z.cells.toList.all af0 = true → appended i z (isInt xd) u h = some (ys.length, news)) (hy : Elems h S τ news ys) (hk0 : 0 < ys.length) (hsz : xs.length + ys.length ≤ 1000000) :
    ∃ h' rs, fsAppend P #[T, T'] w u h = some (.slice (some ⟨h.next, 0, none⟩) (xs.length + ys.length) 0, h') ∧ Aft h h' (blk w) ∧ h'.get h.next = some (.row e rs true true) ∧ (∀ S', Goes h S h' S' → Elems h' S' τ rs (xs ++ ys)) := by
  obtain ⟨i, z, hi1, hi2, hi3, hi3', hi4, hi5, hi6⟩ := hT.sl.info; have hone : news.all oneCell = true := hy.allOne; have hnl : news.length = ys.length * τ.size := hy.1
  have hbytes : (xs.length + ys.length) * i.bytes ≤ 274877906944 := by
    have := Nat.mul_le_mul hsz hi3'; omega
  unfold fsAppend; simp only [List.getElem?_toArray, List.getElem?_cons_zero, List.getElem?_cons_succ, hT.sl.sl, hT', hi1, hi4, hap i z hi2 hi6, hi2]
  have hc : (Nat.blt 0 τ.size && Nat.blt 0 i.bytes && Nat.beq news.length (ys.length * τ.size) && news.all oneCell && Nat.beq z.cells.size τ.size) = true := by
    have e1 : Nat.blt 0 τ.size = true := by show Nat.ble 1 τ.size = true; rw [Nat.ble_eq]; exact hT.sl.pos
    have e2 : Nat.blt 0 i.bytes = true := by show Nat.ble 1 i.bytes = true; rw [Nat.ble_eq]; exact hi3
    rw [e1, e2, hnl, Nat.beq_refl, hone, hi5, Nat.beq_refl]; rfl
  rw [hc]; simp only [cond_true]; have e0 : Nat.beq ys.length 0 = false := beq_no (by omega); rcases hg with ⟨rfl, rfl⟩ | ⟨b0, rs, m, rfl, hb0, hrow, hel⟩
  · refine ⟨h.push (.row e news true true), news, ?_, Aft.push h _ _, by rw [Heap.get_push, if_pos rfl], fun S' hN => by rw [List.nil_append]; exact hy.nx hN⟩; unfold fsGrow
    have e2 : Nat.ble (ys.length * i.bytes) 274877906944 = true := by rw [Nat.ble_eq]; simpa using hbytes
    simp only [e0, cond_false, e2, cond_true, grown, List.length_nil, Nat.zero_add]
  have hrl := hel.1; have hks : 0 < ys.length * τ.size := Nat.mul_pos hk0 hT.sl.pos; have hadd : (xs.length + ys.length) * τ.size = xs.length * τ.size + ys.length * τ.size := Nat.add_mul _ _ _
  have e1 : (Nat.beq ys.length 0 && Nat.beq 0 1) = false := by rw [e0]; rfl
  have e2 : Nat.beq e e = true := Nat.beq_refl _
  have e3 : Nat.ble ((xs.length + ys.length) * i.bytes) 274877906944 = true := by rw [Nat.ble_eq]; exact hbytes
  have e4 : Nat.ble (0 + xs.length * i.size) rs.length = true := by rw [Nat.ble_eq, hi2]; omega
  have e5 : Nat.ble (0 + (xs.length + ys.length) * i.size) rs.length = false := by
    cases hx : Nat.ble (0 + (xs.length + ys.length) * i.size) rs.length with
    | false => rfl
    | true => have := nble hx; rw [hi2] at this; omega
  have e6 : Nat.beq (xs.length * i.size) rs.length = true := by rw [hi2, hrl]; exact Nat.beq_refl _
  have e7 : Nat.beq 0 1 = false := rfl; have e8 : Nat.beq 0 0 = true := rfl; have hlt0 := hok b0 _ hrow; have hbk : blk (.slice (some ⟨b0, 0, none⟩) xs.length 0) = [b0] := rfl
  cases m with
  | true =>
    refine ⟨(h.drop b0).push (.row e (rs ++ news) true true), rs ++ news, ?_, (Aft.drop (B := blk _) (by rw [hbk]; simp)).trans (Aft.push (h.drop b0) _ []) (fun i hi => by cases hi), ?_, fun S' hN => (hel.append hy).nx hN⟩
    · unfold fsGrow; simp only [hrow, e1, cond_false, e2, e3, e4, Bool.and_self, cond_true, e7, e8, e5, Bool.not_true, e6, grown, Bool.true_and, Bool.and_false]; rfl
    have : (h.drop b0).next = h.next := rfl
    rw [Heap.get_push, if_pos this.symm]
  | false =>
    refine ⟨h.push (.row e (rs ++ news) true true), rs ++ news, ?_, Aft.push h _ _, by rw [Heap.get_push, if_pos rfl], fun S' hN => (hel.append hy).nx hN⟩; unfold fsGrow
    have e9 : (rs.drop 0).take (xs.length * i.size) = rs := by rw [List.drop_zero, hi2, ← hrl, List.take_length]
    simp only [hrow, e1, cond_false, e2, e3, e4, Bool.and_self, cond_true, e7, e8, e5, Bool.not_false, grown, Bool.true_and, Bool.and_false, e9]
theorem MakeV.appS {acc s : ByteArray} (hT : ElT P T e (.int .u8)) (hT' : P.underlying T' = some .string) (hx : evV fl x = some (.raw w)) (hy : evV fl y = some (.v .str s)) (hsz : acc.size + s.size ≤ 1000000) (hn : acc.size = 0 → w = .slice none 0 0) :
    MakeV P fl ((w, .row e (.int .u8) (bytesI acc)) :: σ) (.call { callee := .builtin .append, args := #[x, y], argTypes := #[T, T'] }) fun v σ' => ∃ w', (v = .raw w' ∧ σ' = (w', .row e (.int .u8) (bytesI (acc ++ s))) :: σ) ∧ ((acc ++ s).size = 0 → w' = .slice none 0 0) :=
  ⟨rfl, fun S0 h t L => by
    have h1 : evalO t x = w := evV_ok L.slots hx; have h2 : evalO t y = .string s := RepV.str (evV_ok L.slots hy : RepV h _ .str (evalO t y) s); have hc := L.cells _ List.mem_cons_self
    have hst : ∀ u h', fsAppend P #[T, T'] w (.string s) h = some (u, h') → ∀ (d : Option Tmp) (ty : TypeId) (pos : String) (after : Array Edge) (g : Option (Nat × Bool)), stepO P ⟨d, .call { callee := .builtin .append, args := #[x, y], argTypes := #[T, T'] }, ty, pos, after, g⟩ (evalO t) h = some (u, h') := fun u h' e _ _ _ _ _ => by
      show fsAppend P #[T, T'] (evalO t x) (evalO t y) h = _; rw [h1, h2, e]
    have hal := bytesI_len acc; have hsl := bytesI_len s; by_cases hp : 0 < s.size
    · obtain ⟨h', rs', e1, e2, e3, e4⟩ := row_growX hT hT' L.ok hc (u := .string s) (news := bytesV s) (ys := bytesI s) (fun i z _ _ => by rw [hsl]; exact appended_str rfl) elems_u8 (by omega) (by omega); refine ⟨_, h', .raw (.slice (some ⟨h.next, 0, none⟩) ((bytesI acc).length + (bytesI s).length) 0), _, ⟨_, ⟨rfl, rfl⟩, fun hz => ?_⟩, Made.head L e2 (fun b hb => .inr (by simp [blk] at hb; omega)) (by simp [blk]) fun hN => ?_, rfl, hst _ _ e1⟩
      · rw [ByteArray.size_append] at hz; omega
      rw [bytesI_app]; exact .inr ⟨h.next, rs', true, by rw [List.length_append], List.mem_append_left _ (by rw [own_cons]; simp [blk]), e3, e4 _ hN⟩
    have hs0 : s.size = 0 := by omega
    have hse : acc ++ s = acc := by
      have : bytesI s = [] := List.eq_nil_of_length_eq_zero (by omega); apply ByteArray.ext; rw [ByteArray.data_append]; have h9 : s.data = #[] := Array.eq_empty_of_size_eq_zero hs0; rw [h9, Array.append_empty]
    refine ⟨w, h, .raw w, _, ⟨w, ⟨rfl, rfl⟩, fun hz => hn (by rw [hse] at hz; exact hz)⟩, ?_, rfl, hst _ _ ?_⟩
    · rw [hse]; exact Made.same L (Aft.refl _ _)
    obtain ⟨i, z, hi1, hi2, hi3, hi3', hi4, hi5, hi6⟩ := hT.sl.info; have hi2 : i.size = 1 := hi2
    have hap : appended i z (isInt .string) (.string s) h = some (0, []) := by
      have := appended_str (i := i) (z := z) (h := h) (s := s) (xd := .string) rfl; rw [this, hs0]; have h8 : bytesV s = [] := List.eq_nil_of_length_eq_zero (by rw [bytesV_len]; exact hs0); rw [h8]
    unfold fsAppend; simp only [List.getElem?_toArray, List.getElem?_cons_zero, List.getElem?_cons_succ, hT.sl.sl, hT', hi1, hi4, hap, hi2]
    have hc2 : (Nat.blt 0 1 && Nat.blt 0 i.bytes && Nat.beq ([] : List Value).length (0 * 1) && ([] : List Value).all oneCell && Nat.beq z.cells.size 1) = true := by
      have e2 : Nat.blt 0 i.bytes = true := by show Nat.ble 1 i.bytes = true; rw [Nat.ble_eq]; exact hi3
      rw [e2, show z.cells.size = 1 from hi5]; rfl
    rw [hc2]; simp only [cond_true]; rcases hc with ⟨hw0, hx0⟩ | ⟨b0, rs, m, hw0, hb0, hrow, hel⟩
    · have hw0 : w = .slice none 0 0 := hw0; rw [hw0]; rfl
    have hw0 : w = .slice (some ⟨b0, 0, none⟩) (bytesI acc).length 0 := hw0; rw [hw0]; have hrl : rs.length = (bytesI acc).length * 1 := hel.1
    have e3 : Nat.ble (((bytesI acc).length + 0) * i.bytes) 274877906944 = true := by
      rw [Nat.ble_eq]; have := Nat.mul_le_mul (show (bytesI acc).length + 0 ≤ 1000000 by omega) hi3'; omega
    have e4 : Nat.ble (0 + (bytesI acc).length * 1) rs.length = true := by rw [Nat.ble_eq]; omega
    have e5 : Nat.ble (0 + ((bytesI acc).length + 0) * 1) rs.length = true := by rw [Nat.ble_eq]; omega
    unfold fsGrow; simp only [hrow, hi2, e3, e4, e5, Nat.beq_refl, Bool.and_self, cond_true, show Nat.beq 0 1 = false from rfl, show Nat.beq 0 0 = true from rfl, Bool.and_false, cond_false, Nat.add_zero]; simp only [Nat.add_zero] at e3 e5; simp only [e3, e5, cond_true]
    rfl⟩
theorem VFG.cop {O O2 : FuncId → List Value → Heap → Option (Value × Heap)} {fc : FuncId} {tb : TypeId} (hE : ∀ us h, O2 fc us h = orcC fc tb O fc us h) (ha : a = .pointer none ∨ a = bP b) :
    VFG P O2 fc [.raw (bP b)] [(bW b, .cel tb 0 [.raw a, .raw u])] fun r γ' => r = .tup [] ∧ γ' = [(bW b, .cel tb 0 [.raw (bP b), .raw u])] := fun h S us hok hS hcells hnd hsep har => by
  obtain ⟨v, r, rfl, h1, h2⟩ := har; obtain rfl : r = [] := h2; obtain rfl : v = bP b := h1; obtain ⟨g1, g2, g3, g4⟩ := bld_get (hcells _ List.mem_cons_self); have gb : b ∈ own [(bW b, Cell.cel tb 0 [.raw (bP b), .raw u])] ++ S := List.mem_append_left _ (by simp [own, blk]); rcases ha with rfl | rfl
  · have ho : orcC fc tb O fc [bP b] h = some (.tuple #[], h.set b (.row tb [bP b, u] true false)) := by
      simp only [orcC, Nat.beq_refl, cond_true, g2]
    refine EvF.oracle ((hE _ _).trans ho) ⟨_, _, ⟨rfl, rfl⟩, ⟨Aft.set g2 (by simp [own, blk]), fun b' hb' => .inl (by simpa [own, blk] using hb'), by simp [own, blk], fun c hc => ?_⟩, ⟨[], rfl, rfl⟩⟩
    obtain rfl : c = _ := by simpa using hc
    exact bld_of gb (by rw [Heap.get_set g2, if_pos rfl]) rfl g4
  have ho : orcC fc tb O fc [bP b] h = some (.tuple #[], h) := by
    simp only [orcC, Nat.beq_refl, cond_true, g2, Bool.and_self]
  refine EvF.oracle ((hE _ _).trans ho) ⟨_, _, ⟨rfl, rfl⟩, ⟨Aft.refl _ _, fun b' hb' => .inl (by simpa [own, blk] using hb'), by simp [own, blk], fun c hc => ?_⟩, ⟨[], rfl, rfl⟩⟩
  obtain rfl : c = _ := by simpa using hc
  exact bld_of gb g2 rfl g4
def sdV : Value → Value
  | .slice a _ _ => .pointer a
  | v => v
theorem ReadV.sd {acc : ByteArray} {T1 : TypeId} (hx : evV fl x = some (.raw w)) (hm : (w, Cell.row e (.int .u8) (bytesI acc)) ∈ σ) (hn : acc.size = 0 → w = .slice none 0 0) : ReadV P fl σ (.call { callee := .builtin .unsafeSliceData, args := #[x], argTypes := #[T1] }) (.raw (sdV w)) :=
  ⟨rfl, fun h S t hs hc => by
    have h1 : evalO t x = w := hs x (by simp [Op.operands, Call.operands]) _ hx; refine ⟨sdV w, rfl, fun H hH _ _ _ _ _ => ?_⟩; show ((fsSliceData (evalO t x)).map fun v => (v, H)) = _; rw [h1]; rcases hc _ hm with ⟨h3, _⟩ | ⟨b, rs, m, h3, _⟩
    · have h3 : w = .slice none 0 0 := h3; rw [h3]; rfl
    have h3 : w = .slice (some ⟨b, 0, none⟩) (bytesI acc).length 0 := h3
    have hz : acc.size ≠ 0 := fun hz => by rw [hn hz] at h3; cases h3
    have hb : Nat.beq (bytesI acc).length 0 = false := beq_no (by rw [bytesI_len]; exact hz); rw [h3]; simp only [fsSliceData, hb, cond_false]
    rfl⟩
theorem MakeV.ustr {acc : ByteArray} {T1 T2 : TypeId} (hT : P.underlying T1 = some (.pointer e)) (hcell : P.cellsOf e = 1) (hx : evV fl x = some (.raw (sdV w))) (hy : evV fl y = some (.v (.int .i64) ((acc.size : Nat) : Int))) (hsz : acc.size ≤ 1000000) (hn : acc.size = 0 → w = .slice none 0 0) :
    MakeV P fl ((w, .row e (.int .u8) (bytesI acc)) :: σ) (.call { callee := .builtin .unsafeString, args := #[x, y], argTypes := #[T1, T2] }) fun v σ' => v = .v .str acc ∧ σ' = σ :=
  ⟨rfl, fun S0 h t L => by
    have h1 : evalO t x = sdV w := evV_ok L.slots hx; have h2 : evalO t y = .int .i64 ((acc.size : Nat) : Int) := RepV.int (evV_ok L.slots hy); have hap := L.apart; rw [own_cons] at hap; obtain ⟨hap1, hap2, hap3⟩ := List.nodup_append.1 hap
    have hkeep : ∀ {h' : Heap}, Aft h h' (blk w) → Made S0 h h' ((w, .row e (.int .u8) (bytesI acc)) :: σ) σ := fun {h'} ha => by
      have ha' : Aft h h' (own ((w, Cell.row e (.int .u8) (bytesI acc)) :: σ)) := ha.weak fun b hb => by rw [own_cons]; exact List.mem_append_left _ hb
      have hN : Goes h (own ((w, Cell.row e (.int .u8) (bytesI acc)) :: σ) ++ S0) h' (own σ ++ S0) := ha'.goes L.ok (fun b hb => List.mem_append_left _ hb) fun b hb => by
        rcases List.mem_append.1 hb with hb | hb
        · exact .inl (List.mem_append_left _ (by rw [own_cons]; exact List.mem_append_right _ hb))
        exact .inl (List.mem_append_right _ hb)
      refine ⟨ha', fun b hb => .inl (by rw [own_cons]; exact List.mem_append_right _ hb), hap2, fun c hc => ?_⟩; have hbo : ∀ b ∈ blk c.1, b ∈ own σ := fun b hb => List.mem_flatMap.2 ⟨c, hc, hb⟩; refine (L.cells c (List.mem_cons_of_mem _ hc)).keep (fun b hb => ?_) hN fun b hb => List.mem_append_left _ (hbo b hb); exact ha.get b (L.lt b (List.mem_append_left _ (by rw [own_cons]; exact List.mem_append_right _ (hbo b hb)))) fun hm => hap3 b hm b (hbo b hb) rfl
    rcases L.cells _ List.mem_cons_self with ⟨h3, h4⟩ | ⟨b, rs, m, h3, h4, h5, h6⟩
    · have h3 : w = .slice none 0 0 := h3; have h4 : bytesI acc = [] := h4
      have hz : acc.size = 0 := by rw [← bytesI_len, h4]; rfl
      have he : acc = ByteArray.empty := by
        apply ByteArray.ext; exact Array.eq_empty_of_size_eq_zero hz
      refine ⟨.string acc, h, .v .str acc, σ, ⟨rfl, rfl⟩, hkeep (Aft.refl _ _), RepV.ofStr _, fun _ _ _ _ _ => ?_⟩; show fsUnsafeStr P #[T1, T2] (evalO t x) (evalO t y) h = _; rw [h1, h2, h3, hz, he]; show fsUnsafeStr P #[T1, T2] (.pointer none) (.int .i64 0) h = _; unfold fsUnsafeStr; show (match P.underlying T1 with | some (.pointer _) => some (Value.string .empty, h) | _ => none) = _; rw [hT]
    have h3 : w = .slice (some ⟨b, 0, none⟩) (bytesI acc).length 0 := h3
    have hz : acc.size ≠ 0 := fun hz => by rw [hn hz] at h3; cases h3
    obtain ⟨q, hq⟩ : ∃ q, acc.size = q + 1 := ⟨acc.size - 1, by omega⟩; have hrs := u8_elems h6
    have hbk : blk w = [b] := by rw [h3]; rfl
    have htk : bytesC (rs.take (q + 1)) = some acc.data.toList := by
      rw [hrs, List.take_of_length_le (by rw [List.length_map, bytesI_len]; omega)]; exact bytesC_V acc
    refine ⟨.string acc, h.drop b, .v .str acc, σ, ⟨rfl, rfl⟩, hkeep (Aft.drop (by rw [hbk]; simp)), RepV.ofStr _, fun _ _ _ _ _ => ?_⟩; show fsUnsafeStr P #[T1, T2] (evalO t x) (evalO t y) h = _; rw [h1, h2, h3, hq]
    have e1 : Nat.ble (q + 1) rs.length = true := by rw [Nat.ble_eq, hrs, List.length_map, bytesI_len]; omega
    have e2 : Nat.ble q 1000000000 = true := by rw [Nat.ble_eq]; omega
    show fsUnsafeStr P #[T1, T2] (.pointer (some ⟨b, 0, none⟩)) (.int .i64 (.ofNat (q + 1))) h = _
    simp only [fsUnsafeStr, hT, h5, Nat.beq_refl, hcell, e1, e2, Bool.and_self, cond_true, htk]⟩
def VEndK (P : Program) (fn : Func) (γ : Sto) (Q : PV → Sto → Prop) : Ex → VL → Sto → Prop := fun e fl σ => e.goes = true ∧ ∃ ps, EndL P fl [] fn.results.toList ps ∧ Q (tupV ps) σ ∧ ∀ (h h2 : Heap) (S : List Nat), (∀ c ∈ γ, CellR h (own γ ++ S) c.1 c.2) → (∀ c ∈ σ, CellR h2 (own σ ++ S) c.1 c.2) → (∀ b ∈ own γ, h2.get b = h.get b) → (∀ b o, h.get b = some o → h2.get b = some o) → (∀ b ∈ own σ, b ∈ own γ) ∧ ∀ c ∈ σ, CellR h (own σ ++ S) c.1 c.2
theorem VFG.enterK {f : FuncId} {args : List PV} {fn : Func} {c : Code} {Q : PV → Sto → Prop} (hfn : P.funcs[f]? = some fn) (hc : fn.body = some c) (ho : ∀ us h, orc f us h = none) (hn : (Nat.blt 4000 fn.ntmps || Nat.blt fn.ntmps args.length) = false)
    (hb : VC P orc none c fn.ntmps (argVL 0 args) γ (VEndK P fn γ Q)) : VFG P orc f args γ Q := fun h S us hok hS hcells hnd hsep ha => by
  have hl := ha.len
  have hn2 : Nat.blt 4000 fn.ntmps = false ∧ Nat.blt fn.ntmps args.length = false := by simpa using hn
  have n3 := nble_no hn2.1; have n4 := nble_no hn2.2; have ha' : RepL (entry h) (own γ ++ S) args us := RepL.nx (h := h) (h' := entry h) (fun _ _ a b => ⟨a, b⟩) ha
  have I0 : Iv (entry h) (own γ) S (entry h) γ (fillTr .leaf 0 us) [] (argVL 0 args) := {
    ok := hok
    s0 := hS.1
    aft := Aft.refl _ _
    cells := fun c hc => (hcells c hc).keep (fun _ _ => rfl) (fun _ _ a b => ⟨a, b⟩) fun b hb => List.mem_append_left _ (List.mem_flatMap.2 ⟨c, hc, hb⟩)
    new := fun b hb => ⟨.inl hb, hsep b hb⟩
    apart := hnd
    mark := fun d hd => by cases hd
    marks := List.nodup_nil
    slots := slots_args (hS.2.ent hcells) ha' (by omega) }
  refine EvF.enter hfn hc (ho us h) (by rw [hl]; exact hn) ((hb (entry h) (own γ) S _ (entry h) [] I0).mono fun e fr h1 hq => ?_); obtain ⟨_, fl', σ', Iv1, he, ps, hps, hQ, hkd⟩ := hq; obtain ⟨h2, d1, d2, d3⟩ := drops_ok Iv1.marks fun d hd => (Iv1.mark d hd).2
  have hgd : ∀ b o, h1.get b = some o → o ≠ .defd → h2.get b = some o := fun b o hg hne => by
    rw [d3 b (fun hm => hne (by have := (Iv1.mark b hm).2; rw [hg] at this; exact Option.some.inj this))]; exact hg
  have a2 : Aft (entry h) h2 (own γ) := Iv1.aft.trans d2 fun i hi => .inr (Iv1.mark i hi).1; have L1 := Iv1.lc; have Lz : Lc (own σ' ++ S) h1 [] fr.t fl' := ⟨L1.ok, L1.lt, (fun c hc => by cases hc), (fun b hb => by cases hb), List.nodup_nil, L1.slots⟩; obtain ⟨us', e1, e2⟩ := hps.ok Lz hgd (fun b _ hg hne hbS => ⟨hgd b _ hg hne, hbS⟩); have hrep := tup_rep e2
  have hrow : ∀ c ∈ σ', ∀ b ∈ blk c.1, h2.get b = h1.get b := fun c hc b hb => by
    obtain ⟨o, hg, hne⟩ := (Iv1.cells c hc).isObj b hb; rw [hgd b _ hg hne, hg]
  have hcell2 : ∀ c ∈ σ', CellR h2 (own σ' ++ S) c.1 c.2 := fun c hc => by
    have hx := Iv1.cells c hc; have hN : GoesR h1 (own σ' ++ S) h2 (own σ' ++ S) := fun b _ hg hne hbS => ⟨hgd b _ hg hne, hbS⟩; have hgb := hrow c hc; obtain ⟨w, cc⟩ := c
    cases cc with
    | row e τ xs =>
      rcases hx with hx | ⟨b, rs, m, h3, h4, h5, h6⟩
      · exact .inl hx
      exact .inr ⟨b, rs, m, h3, h4, hgd b _ h5 (by simp), h6.1, fun i hi => (h6.2 i hi).nxR hN⟩
    | var cs =>
      obtain ⟨b, e, vs, h3, h4, h5, h6, h7⟩ := hx
      exact ⟨b, e, vs, h3, h4, hgd b _ h5 (by simp), h6.nxR hN, h7⟩
    | cap e k τ xs =>
      obtain ⟨b, rs, m, h3, h4, h5, h6, h7, h8⟩ := hx
      exact ⟨b, rs, m, h3, h4, hgd b _ h5 (by simp), h6, h7, h8.1, fun i hi => (h8.2 i hi).nxR hN⟩
    | mp κ ν kvs =>
      obtain ⟨b, es, c, h3, h4, h5, h6, h7⟩ := hx
      exact ⟨b, es, c, h3, h4, hgd b _ h5 (by simp), h6, fun i hi hj => ⟨⟨(h7 i hi hj).1.1, (h7 i hi hj).1.2.nxR hN⟩, ⟨(h7 i hi hj).2.1, (h7 i hi hj).2.2.nxR hN⟩⟩⟩
    | it s pos =>
      obtain ⟨b, h3, h4, h5⟩ := hx
      exact ⟨b, h3, h4, hgd b _ h5 (by simp)⟩
    | loop st jump n fl ps assign body =>
      obtain ⟨l, tmps, d, h3, h4, h5, h6⟩ := hx
      exact ⟨l, tmps, d, h3, h4, hgd l _ h5 (by simp), h6.nxR hN⟩
    | cel e n cs =>
      rcases hx with hx | ⟨b, rs, m, h3, h4, h5, h6, h7⟩
      · exact .inl hx
      exact .inr ⟨b, rs, m, h3, h4, hgd b _ h5 (by simp), h6.nxR hN, h7⟩
  have hnew2 : ∀ b ∈ own σ', b ∈ own γ ∨ h.next ≤ b := fun b hb => (Iv1.new b hb).1; refine ⟨he, h2, us', d1, e1, ?_⟩; unfold leftOf
  cases haf : (af (tupled us') && Nat.ble h.next h2.low) with
  | true =>
    obtain ⟨af1', hlow⟩ := band haf; have hlow := nble hlow
    have hsame : ∀ b ∈ own γ, h2.get b = h.get b := fun b hb => by
      rcases a2.chg b (own_lt hcells hok b hb) with h3 | h3
      · exact h3
      have := own_lt hcells hok b hb; omega
    have hall : ∀ b o, h.get b = some o → h2.get b = some o := fun b o hb => by
      have hlt := hok b o hb; rcases a2.chg b hlt with h3 | h3
      · rw [h3]; exact hb
      have : h.next ≤ b := Nat.le_trans hlow h3; omega
    obtain ⟨k1, k2⟩ := hkd h h2 S hcells hcell2 hsame hall
    exact ⟨_, σ', hQ, ⟨Aft.refl _ _, fun b hb => .inl (k1 b hb), Iv1.apart, k2⟩, hrep.anyAf af1'⟩
  | false =>
    refine ⟨_, σ', hQ, ⟨⟨a2.next, a2.get, fun x => a2.ok x, fun e h3 h4 h5 => Nat.le_min.2 ⟨h3, a2.low e (Nat.le_trans h4 (Nat.le_refl _)) h4 h5⟩, fun b hb => ?_, Nat.min_le_left _ _⟩, hnew2, Iv1.apart, fun c hc => (hcell2 c hc).keep (fun _ _ => rfl) (fun _ _ a b => ⟨a, b⟩) fun b hb => List.mem_append_left _ (List.mem_flatMap.2 ⟨c, hc, hb⟩)⟩, RepPV.nx (h := h2) (h' := { next := h2.next, low := min h.low h2.low, objs := h2.objs }) (fun _ _ a b => ⟨a, b⟩) hrep⟩; rcases a2.chg b hb with h3 | h3
    · exact .inl h3
    exact .inr (Nat.le_trans (Nat.min_le_right _ _) h3)
theorem bld_same {T1 T2 : TypeId} {a' u' : Value} (hg : CellR h S (bW b) (.cel T1 0 [.raw a, .raw u])) (hs : CellR h2 S' (bW b) (.cel T2 0 [.raw a', .raw u'])) (hk : h2.get b = h.get b) : T2 = T1 ∧ a' = a ∧ u' = u := by
  obtain ⟨_, g2, _⟩ := bld_get hg; obtain ⟨_, s2, _⟩ := bld_get hs; rw [s2, g2] at hk; injection hk with hk; injection hk with h1 h2; injection h2 with h3 h4; injection h4 with h5 h6; exact ⟨h1, h3, h5⟩
theorem bld_keep {acc acc' : ByteArray} {a' u' : Value} (h h2 : Heap) (S : List Nat) (hg : ∀ c ∈ [(bW b, Cell.cel T 0 [.raw a, .raw u]), (u, .row e (.int .u8) (bytesI acc))], CellR h (own [(bW b, Cell.cel T 0 [.raw a, .raw u]), (u, .row e (.int .u8) (bytesI acc))] ++ S) c.1 c.2)
    (hs : ∀ c ∈ [(bW b, Cell.cel T 0 [.raw a', .raw u']), (u', .row e (.int .u8) (bytesI acc'))], CellR h2 (own [(bW b, Cell.cel T 0 [.raw a', .raw u']), (u', .row e (.int .u8) (bytesI acc'))] ++ S) c.1 c.2)
    (hk : ∀ b' ∈ own [(bW b, Cell.cel T 0 [.raw a, .raw u]), (u, .row e (.int .u8) (bytesI acc))], h2.get b' = h.get b') (hx : ∀ b o, h.get b = some o → h2.get b = some o) :
    (∀ b' ∈ own [(bW b, Cell.cel T 0 [.raw a', .raw u']), (u', .row e (.int .u8) (bytesI acc'))], b' ∈ own [(bW b, Cell.cel T 0 [.raw a, .raw u]), (u, .row e (.int .u8) (bytesI acc))]) ∧ ∀ c ∈ [(bW b, Cell.cel T 0 [.raw a', .raw u']), (u', .row e (.int .u8) (bytesI acc'))], CellR h (own [(bW b, Cell.cel T 0 [.raw a', .raw u']), (u', .row e (.int .u8) (bytesI acc'))] ++ S) c.1 c.2 := by
  obtain ⟨_, rfl, rfl⟩ := bld_same (hg _ List.mem_cons_self) (hs _ List.mem_cons_self) (hk b (by simp [own, blk])); refine ⟨fun b' hb => hb, fun c hc => ?_⟩; rcases List.mem_cons.1 hc with rfl | hc
  · exact hg _ List.mem_cons_self
  obtain rfl := List.mem_singleton.1 hc; rcases hs _ (List.mem_cons_of_mem _ List.mem_cons_self) with hx | ⟨b2, rs, m, h3, h4, h5, h6⟩
  · exact .inl hx
  have h3 : u' = _ := h3; refine .inr ⟨b2, rs, m, h3, h4, ?_, ?_⟩
  · rw [← hk b2 (by rw [own_cons]; exact List.mem_append_right _ (by rw [own_cons, h3]; simp [blk]))]; exact h5
  rw [u8_elems h6]; exact elems_u8
theorem bld_keep1 {acc : ByteArray} {a' u' : Value} (h h2 : Heap) (S : List Nat) (hg : ∀ c ∈ [(bW b, Cell.cel T 0 [.raw a, .raw u]), (u, .row e (.int .u8) (bytesI acc))], CellR h (own [(bW b, Cell.cel T 0 [.raw a, .raw u]), (u, .row e (.int .u8) (bytesI acc))] ++ S) c.1 c.2)
    (hs : ∀ c ∈ [(bW b, Cell.cel T 0 [.raw a', .raw u'])], CellR h2 (own [(bW b, Cell.cel T 0 [.raw a', .raw u'])] ++ S) c.1 c.2)
    (hk : ∀ b' ∈ own [(bW b, Cell.cel T 0 [.raw a, .raw u]), (u, .row e (.int .u8) (bytesI acc))], h2.get b' = h.get b') (hx : ∀ b o, h.get b = some o → h2.get b = some o) :
    (∀ b' ∈ own [(bW b, Cell.cel T 0 [.raw a', .raw u'])], b' ∈ own [(bW b, Cell.cel T 0 [.raw a, .raw u]), (u, .row e (.int .u8) (bytesI acc))]) ∧ ∀ c ∈ [(bW b, Cell.cel T 0 [.raw a', .raw u'])], CellR h (own [(bW b, Cell.cel T 0 [.raw a', .raw u'])] ++ S) c.1 c.2 := by
  obtain ⟨_, rfl, rfl⟩ := bld_same (hg _ List.mem_cons_self) (hs _ List.mem_cons_self) (hk b (by simp [own, blk])); refine ⟨fun b' hb => by rw [own_cons] at hb ⊢; exact List.mem_append_left _ (by simpa [own] using hb), fun c hc => ?_⟩; obtain rfl := List.mem_singleton.1 hc; obtain ⟨_, g2, g3, g4⟩ := bld_get (hg _ List.mem_cons_self); exact bld_of (List.mem_append_left _ (by simp [own, blk])) g2 g3 g4
end Go.Fs
namespace Go.Fs
def digB (c : UInt8) : Bool := decide (48 ≤ c.toNat ∧ c.toNat ≤ 57)
def digO (d : Nat) : UInt8 := UInt8.ofNat (48 + d)
theorem digO_nat {d : Nat} (h : d < 10) : (digO d).toNat = 48 + d := by
  unfold digO; rw [UInt8.toNat_ofNat']; omega
theorem digO_dig {d : Nat} (h : d < 10) : digB (digO d) = true := decide_eq_true (by rw [digO_nat h]; omega)
theorem digO_of {c : UInt8} (h : digB c = true) : digO (c.toNat - 48) = c := by
  have h := of_decide_eq_true h; apply UInt8.toNat_inj.1; rw [digO_nat (by omega)]; omega
def decL (n : Nat) : List UInt8 := if n < 10 then [digO n] else decL (n / 10) ++ [digO (n % 10)]
termination_by n
decreasing_by omega
theorem decL_lt {n : Nat} (h : n < 10) : decL n = [digO n] := by rw [decL, if_pos h]
theorem decL_ge {n : Nat} (h : 10 ≤ n) : decL n = decL (n / 10) ++ [digO (n % 10)] := by rw [decL, if_neg (by omega)]
def valL (w : List UInt8) (v : Nat) : Nat := w.foldl (fun v c => 10 * v + (c.toNat - 48)) v
theorem valL_snoc {w : List UInt8} {c : UInt8} {v : Nat} : valL (w ++ [c]) v = 10 * valL w v + (c.toNat - 48) := by
  unfold valL; rw [List.foldl_append]; rfl
theorem val_dec (n : Nat) : valL (decL n) 0 = n := by
  induction n using Nat.strongRecOn with
  | ind n ih =>
    by_cases h : n < 10
    · rw [decL_lt h]; show 10 * 0 + ((digO n).toNat - 48) = n; rw [digO_nat h]; omega
    rw [decL_ge (by omega), valL_snoc, ih (n / 10) (by omega), digO_nat (by omega)]; omega
theorem dec_dig (n : Nat) : ∀ c ∈ decL n, digB c = true := by
  induction n using Nat.strongRecOn with
  | ind n ih =>
    by_cases h : n < 10
    · rw [decL_lt h]; intro c hc; rw [List.mem_singleton.1 hc]; exact digO_dig h
    rw [decL_ge (by omega)]; intro c hc; rcases List.mem_append.1 hc with hc | hc
    · exact ih (n / 10) (by omega) c hc
    rw [List.mem_singleton.1 hc]; exact digO_dig (by omega)
theorem dec_ne (n : Nat) : decL n ≠ [] := by
  by_cases h : n < 10
  · rw [decL_lt h]; simp
  rw [decL_ge (by omega)]; simp
theorem dec_len (k : Nat) : ∀ n : Nat, n < 10 ^ (k + 1) → (decL n).length ≤ k + 1 := by
  induction k with
  | zero => intro n h; rw [decL_lt (by simpa using h)]; simp
  | succ k ih =>
    intro n h; by_cases h2 : n < 10
    · rw [decL_lt h2]; simp
    rw [decL_ge (by omega), List.length_append]; have h3 : n / 10 < 10 ^ (k + 1) := Nat.div_lt_of_lt_mul (by rw [Nat.pow_succ, Nat.mul_comm] at h; exact h); have := ih _ h3; simp only [List.length_singleton]; omega
theorem dec_head {n : Nat} (h : 1 ≤ n) : ∃ c r, decL n = c :: r ∧ c.toNat ≠ 48 := by
  induction n using Nat.strongRecOn with
  | ind n ih =>
    by_cases h2 : n < 10
    · exact ⟨digO n, [], decL_lt h2, by rw [digO_nat h2]; omega⟩
    obtain ⟨c, r, h3, h4⟩ := ih (n / 10) (by omega) (by omega); exact ⟨c, r ++ [digO (n % 10)], by rw [decL_ge (by omega), h3]; rfl, h4⟩
def numL (w : List UInt8) : Option Nat := if (w = [] ∨ 9 < w.length) ∨ (1 < w.length ∧ (w.headD 0).toNat = 48) ∨ w.all digB = false then none else some (valL w 0)
theorem num_dec {n : Nat} (h : n < 10 ^ 9) : numL (decL n) = some n := by
  have h1 := dec_len 8 n h; unfold numL; rw [if_neg, val_dec]; rintro ((h2 | h2) | ⟨h2, h3⟩ | h2)
  · exact dec_ne n h2
  · omega
  · by_cases h4 : n < 10
    · rw [decL_lt h4] at h2; simp at h2
    obtain ⟨c, r, h5, h6⟩ := dec_head (n := n) (by omega); rw [h5] at h3; exact h6 h3
  rw [List.all_eq_true.2 (dec_dig n)] at h2; cases h2
theorem snoc_ex {α : Type} {w : List α} (h : w ≠ []) : ∃ r c, w = r ++ [c] := ⟨w.dropLast, w.getLast h, (List.dropLast_concat_getLast h).symm⟩
theorem val_pos : ∀ {r : List UInt8} {c : UInt8}, c.toNat ≠ 48 → digB c = true → 1 ≤ valL (c :: r) 0 := fun {r c} h hd => by
  have h0 := of_decide_eq_true hd
  have hmono : ∀ (r : List UInt8) (v : Nat), 1 ≤ v → 1 ≤ valL r v := by
    intro r
    induction r with
    | nil => exact fun v h => h
    | cons c r ih => exact fun v h => ih (10 * v + (c.toNat - 48)) (by omega)
  exact hmono r (10 * 0 + (c.toNat - 48)) (by omega)
theorem dec_val_aux (k : Nat) : ∀ w : List UInt8, w.length = k → w ≠ [] → (∀ c ∈ w, digB c = true) → (1 < w.length → (w.headD 0).toNat ≠ 48) → decL (valL w 0) = w := by
  induction k with
  | zero => intro w hk h; exact absurd (List.eq_nil_of_length_eq_zero hk) h
  | succ k ih =>
    intro w hk hne hd hz; obtain ⟨r, c, rfl⟩ := snoc_ex hne; have hc := hd c (List.mem_append_right _ (List.mem_singleton.2 rfl)); have hc2 := of_decide_eq_true hc; rw [valL_snoc]
    cases r with
    | nil =>
      show decL (10 * 0 + (c.toNat - 48)) = [c]
      rw [Nat.mul_zero, Nat.zero_add, decL_lt (by omega), digO_of hc]
    | cons x r =>
      have hx : x.toNat ≠ 48 := hz (by simp); have hxd := hd x (by simp); have hv := val_pos (r := r) hx hxd
      have hl : (x :: r).length = k := by simpa using hk
      have h1 := ih (x :: r) hl (by simp) (fun c hc => hd c (List.mem_append_left _ hc)) fun _ => hx; rw [decL_ge (by omega), show (10 * valL (x :: r) 0 + (c.toNat - 48)) / 10 = valL (x :: r) 0 by omega, show (10 * valL (x :: r) 0 + (c.toNat - 48)) % 10 = c.toNat - 48 by omega, h1, digO_of hc]
theorem dec_val {w : List UInt8} {n : Nat} (h : numL w = some n) : decL n = w := by
  unfold numL at h; split at h
  · cases h
  rename_i hn; have hn1 : w ≠ [] := fun e => hn (.inl (.inl e))
  have hn2 : w.all digB = true := by
    cases hc : w.all digB with
    | true => rfl
    | false => exact absurd (.inr (.inr hc)) hn
  obtain rfl := Option.some.inj h; exact dec_val_aux _ w rfl hn1 (List.all_eq_true.1 hn2) fun h1 h2 => hn (.inr (.inl ⟨h1, h2⟩))
def splL (s : UInt8) : List UInt8 → List (List UInt8)
  | [] => [[]]
  | x :: r => if x = s then [] :: splL s r else match splL s r with
    | [] => [[x]]
    | w :: l => (x :: w) :: l
theorem spl_ne {s : UInt8} : ∀ l : List UInt8, splL s l ≠ []
  | [] => by simp [splL]
  | x :: r => by
    unfold splL; split
    · simp
    split <;> simp
theorem spl_sep {s : UInt8} {r : List UInt8} : splL s (s :: r) = [] :: splL s r := by rw [splL, if_pos rfl]
theorem spl_cons {s x : UInt8} {r w : List UInt8} {l : List (List UInt8)} (h : x ≠ s) (hr : splL s r = w :: l) : splL s (x :: r) = (x :: w) :: l := by rw [splL, if_neg h, hr]
theorem spl_word {s : UInt8} : ∀ {w : List UInt8}, (∀ c ∈ w, c ≠ s) → splL s w = [w]
  | [], _ => rfl
  | x :: w, h => spl_cons (h x List.mem_cons_self) (spl_word fun c hc => h c (List.mem_cons_of_mem _ hc))
theorem spl_app {s : UInt8} : ∀ {w r : List UInt8}, (∀ c ∈ w, c ≠ s) → splL s (w ++ s :: r) = w :: splL s r
  | [], r, _ => spl_sep
  | x :: w, r, h => spl_cons (h x List.mem_cons_self) (spl_app fun c hc => h c (List.mem_cons_of_mem _ hc))
def joiL (s : UInt8) : List (List UInt8) → List UInt8
  | [] => []
  | [w] => w
  | w :: v :: l => w ++ s :: joiL s (v :: l)
theorem joi_cons {s : UInt8} {w : List UInt8} {l : List (List UInt8)} (h : l ≠ []) : joiL s (w :: l) = w ++ s :: joiL s l := by
  cases l with
  | nil => exact absurd rfl h
  | cons v l => rfl
theorem joi_spl {s : UInt8} : ∀ l : List UInt8, joiL s (splL s l) = l
  | [] => rfl
  | x :: r => by
    have ih := joi_spl (s := s) r; by_cases h : x = s
    · subst h; rw [spl_sep, joi_cons (spl_ne r), ih]; rfl
    cases hr : splL s r with
    | nil => exact absurd hr (spl_ne r)
    | cons w l =>
      rw [hr] at ih; rw [spl_cons h hr, ← ih]
      cases l with
      | nil => rfl
      | cons v l => rfl
theorem spl_joi {s : UInt8} : ∀ {l : List (List UInt8)}, l ≠ [] → (∀ w ∈ l, ∀ c ∈ w, c ≠ s) → splL s (joiL s l) = l
  | [], h, _ => absurd rfl h
  | [w], _, h => spl_word (h w List.mem_cons_self)
  | w :: v :: l, _, h => by
    rw [joi_cons (by simp), spl_app (h w List.mem_cons_self), spl_joi (by simp) fun u hu => h u (List.mem_cons_of_mem _ hu)]
end Go.Fs
namespace Go.Fs
variable {P : Program} {orc : FuncId → List Value → Heap → Option (Value × Heap)} {h : Heap} {S : List Nat} {σ : Sto} {t : Tr} {fl : VL} {x y z lo hi : Operand} {T : TypeId} {s : ByteArray} {a b : Int}
theorem bound_run {k : Int} {n : Nat} {q : BoundsCode} (h : 0 ≤ k ∧ k ≤ ((n : Nat) : Int)) : runPure P (Instr.sliceBound (.int .i64 k) n q) = some k.toNat := by
  unfold Instr.sliceBound; simp [runPure_bind, asIntOf, runPure_pure, h.1, h.2]
theorem str_slice {l r : Option Value} {i j : Nat} (hT : P.underlying T = some .string) (hb : runPure P (Instr.sliceBounds false s.size s.size l r none) = some (i, j, s.size)) : runPure P (Instr.sliceAt T (.string s) l r none) = some (.string (s.extract i j)) := by
  have h1 : runPure P (Instr.sliceAt T (.string s) l r none) = runPure P (Instr.slice T (.string s) l r none) := by
    unfold Instr.sliceAt; simp only [runPure_bind, runPure_underlying hT, Option.bind_some]
  rw [h1]; unfold Instr.slice; simp only [runPure_bind, runPure_underlying hT, Option.bind_some, Option.isSome_none, Bool.false_eq_true, if_false, hb, runPure_pure]
theorem ReadV.cutHS {k : Int} (hT : P.underlying T = some .string) (hx : evV fl x = some (.v .str s)) (hh : evV fl hi = some (.v (.int .i64) k)) (h0 : 0 ≤ k ∧ k ≤ ((s.size : Nat) : Int)) : ReadV P fl σ (.slice T x none (some hi) none) (.v .str (s.extract 0 k.toNat)) :=
  ⟨rfl, fun h S t hs _ => by
    have h1 := RepV.str (hs x (by simp [Op.operands]) _ hx : RepV h S .str (evalO t x) s); have h2 := RepV.int (hs hi (by simp [Op.operands]) _ hh); refine ⟨.string (s.extract 0 k.toNat), RepV.ofStr _, fun H _ _ _ _ _ _ => ?_⟩; show (fsSlice P T (evalO t x) none (some (evalO t hi)) none H).map _ = _
    have hb : runPure P (Instr.sliceBounds false s.size s.size none (some (.int .i64 k)) none) = some (0, k.toNat, s.size) := by
      unfold Instr.sliceBounds; simp only [runPure_bind, runPure_pure, Option.bind_some, bound_run h0]
    rw [h1, h2]; simp only [fsSlice, hT, str_slice hT hb]
    rfl⟩
theorem ReadV.cutLS {k : Int} (hT : P.underlying T = some .string) (hx : evV fl x = some (.v .str s)) (hh : evV fl lo = some (.v (.int .i64) k)) (h0 : 0 ≤ k ∧ k ≤ ((s.size : Nat) : Int)) : ReadV P fl σ (.slice T x (some lo) none none) (.v .str (s.extract k.toNat s.size)) :=
  ⟨rfl, fun h S t hs _ => by
    have h1 := RepV.str (hs x (by simp [Op.operands]) _ hx : RepV h S .str (evalO t x) s); have h2 := RepV.int (hs lo (by simp [Op.operands]) _ hh); refine ⟨.string (s.extract k.toNat s.size), RepV.ofStr _, fun H _ _ _ _ _ _ => ?_⟩; show (fsSlice P T (evalO t x) (some (evalO t lo)) none none H).map _ = _
    have hb : runPure P (Instr.sliceBounds false s.size s.size (some (.int .i64 k)) none none) = some (k.toNat, s.size, s.size) := by
      unfold Instr.sliceBounds; simp only [runPure_bind, runPure_pure, Option.bind_some, bound_run h0]
    rw [h1, h2]; simp only [fsSlice, hT, str_slice hT hb]
    rfl⟩
theorem ReadV.cutLHS (hT : P.underlying T = some .string) (hx : evV fl x = some (.v .str s)) (hl : evV fl lo = some (.v (.int .i64) a)) (hh : evV fl hi = some (.v (.int .i64) b)) (h0 : 0 ≤ a ∧ a ≤ b) (h1 : b ≤ ((s.size : Nat) : Int)) : ReadV P fl σ (.slice T x (some lo) (some hi) none) (.v .str (s.extract a.toNat b.toNat)) :=
  ⟨rfl, fun h S t hs _ => by
    have g1 := RepV.str (hs x (by simp [Op.operands]) _ hx : RepV h S .str (evalO t x) s); have g2 := RepV.int (hs lo (by simp [Op.operands]) _ hl); have g3 := RepV.int (hs hi (by simp [Op.operands]) _ hh); refine ⟨.string (s.extract a.toNat b.toNat), RepV.ofStr _, fun H _ _ _ _ _ _ => ?_⟩; show (fsSlice P T (evalO t x) (some (evalO t lo)) (some (evalO t hi)) none H).map _ = _
    have hb : runPure P (Instr.sliceBounds false s.size s.size (some (.int .i64 a)) (some (.int .i64 b)) none) = some (a.toNat, b.toNat, s.size) := by
      unfold Instr.sliceBounds
      have e2 : a ≤ ((b.toNat : Nat) : Int) := by omega
      simp only [runPure_bind, runPure_pure, Option.bind_some]; have e3 := bound_run (P := P) (k := b) (n := s.size) (q := .sliceAlen) ⟨by omega, h1⟩; have e4 := bound_run (P := P) (k := a) (n := b.toNat) (q := .sliceB) ⟨h0.1, e2⟩; show (runPure P (Instr.sliceBound (.int .i64 b) s.size .sliceAlen)).bind _ = _; rw [e3]; show (runPure P (Instr.sliceBound (.int .i64 a) b.toNat .sliceB)).bind _ = _; rw [e4]; rfl
    rw [g1, g2, g3]; simp only [fsSlice, hT, str_slice hT hb]
    rfl⟩
theorem repl_sb {h : Heap} {S : List Nat} {us : List Value} {c : Int} (hr : RepL h S [.v .str s, .v (.int .u8) c] us) : us = [.string s, .int .u8 c] := by
  obtain ⟨u, r, rfl, h2, u2, r2, rfl, h3, h4⟩ := hr; obtain rfl : r2 = [] := h4; rw [RepV.str h2, RepV.int h3]
theorem VF.idxByte {f : FuncId} {fn : Func} {c : Int} (hfn : P.funcs[f]? = some fn) (ho : ∀ us h, orc f us h = none) (hb : (fn.body.isNone && !(fn.name == "runtime.NumGoroutine")) = true) (h1 : (Extern.findNext fn).isNone = true) (h2 : Extern.find fn = some Extern.BytealgIndexByte.indexByte) :
    VF P orc f [.v .str s, .v (.int .u8) c] (.v (.int .i64) (Go.Lib.indexByte s.data.toList c.toNat.toUInt8)) :=
  VF.ext (us := [.string s, .int .u8 c]) hfn ho hb h1 h2 rfl (fun _ _ _ hr => repl_sb hr) (w := .int .i64 (Go.Lib.indexByte s.data.toList c.toNat.toUInt8)) (by
    have e : runPure P (Extern.BytealgIndexByte.indexByte #[.string s, .int .u8 c]) = some (.int .i64 (Go.Lib.indexByte s.data.toList c.toNat.toUInt8)) := by
      rw [← Go.Lib.firstIdx_eq]; unfold Go.firstIdx; show runPure P (do let b ← Extern.Bytes.bytesOf (.string s); let c ← Extern.Bytes.asByte (.int .u8 c); match (List.range b.size).find? fun i => b[i]! == c with | some i => pure (goInt i) | none => pure (goInt (-1))) = _; simp only [Extern.Bytes.bytesOf, Extern.Bytes.asByte, runPure_bind, runPure_pure, Option.bind_some]
      cases (List.range s.size).find? fun i => s[i]! == c.toNat.toUInt8 with
      | none => rfl
      | some i => rfl
    show ((runPure P (Extern.BytealgIndexByte.indexByte #[.string s, .int .u8 c])).bind fun v => if af v then some v else none) = _
    rw [e]; rfl) fun _ _ => RepV.ofInt _ _
theorem VF.cntByte {f : FuncId} {fn : Func} {c : Int} (hfn : P.funcs[f]? = some fn) (ho : ∀ us h, orc f us h = none) (hb : (fn.body.isNone && !(fn.name == "runtime.NumGoroutine")) = true) (h1 : (Extern.findNext fn).isNone = true) (h2 : Extern.find fn = some Extern.BytealgCount.count) :
    VF P orc f [.v .str s, .v (.int .u8) c] (.v (.int .i64) ((s.data.toList.count c.toNat.toUInt8 : Nat) : Int)) :=
  VF.ext (us := [.string s, .int .u8 c]) hfn ho hb h1 h2 rfl (fun _ _ _ hr => repl_sb hr) (w := .int .i64 ((s.data.toList.count c.toNat.toUInt8 : Nat) : Int)) (by
    have e : runPure P (Extern.BytealgCount.count #[.string s, .int .u8 c]) = some (.int .i64 ((s.data.toList.count c.toNat.toUInt8 : Nat) : Int)) := by
      show runPure P (do let b ← Extern.Bytes.bytesOf (.string s); let c' ← Extern.Bytes.asByte (.int .u8 c); pure (goInt (b.foldl (fun n x => if x == c' then n + 1 else n) (0 : Nat)))) = _; simp only [Extern.Bytes.bytesOf, Extern.Bytes.asByte, runPure_bind, runPure_pure, Option.bind_some]; rw [Go.Lib.foldl_data, Go.Lib.count_foldl]; simp [goInt, Go.Lib.countByte]
    show ((runPure P (Extern.BytealgCount.count #[.string s, .int .u8 c])).bind fun v => if af v then some v else none) = _
    rw [e]; rfl) fun _ _ => RepV.ofInt _ _
end Go.Fs
namespace Go.Fs
open Go.Lib (indexByte)
theorem idx_none {c : UInt8} : ∀ {l : List UInt8}, indexByte l c < 0 → ∀ x ∈ l, x ≠ c
  | [], _, x, hx => by cases hx
  | b :: l, h, x, hx => by
    unfold indexByte at h; by_cases hb : b = c
    · rw [if_pos (by simp [hb])] at h; omega
    rw [if_neg (by simp [hb])] at h
    have ih : indexByte l c < 0 := by
      split at h
      · rename_i he; have := of_decide_eq_true he; omega
      have := Go.Lib.indexByte_ge l c; omega
    rcases List.mem_cons.1 hx with rfl | hx
    · exact hb
    exact idx_none ih x hx
theorem idx_some {c : UInt8} : ∀ {l : List UInt8} {k : Nat}, indexByte l c = ((k : Nat) : Int) → k < l.length ∧ (∀ x ∈ l.take k, x ≠ c) ∧ l.drop k = c :: l.drop (k + 1)
  | [], k, h => by
    unfold indexByte at h
    omega
  | b :: l, k, h => by
    unfold indexByte at h; by_cases hb : b = c
    · rw [if_pos (by simp [hb])] at h
      obtain rfl : k = 0 := by omega
      subst hb; exact ⟨by simp, fun x hx => by simp at hx, rfl⟩
    rw [if_neg (by simp [hb])] at h; split at h
    · omega
    rename_i he; have hge := Go.Lib.indexByte_ge l c; have hne : indexByte l c ≠ -1 := fun e => he (by rw [e]; rfl); obtain ⟨j, rfl⟩ : ∃ j, k = j + 1 := ⟨k - 1, by omega⟩; obtain ⟨h1, h2, h3⟩ := idx_some (c := c) (l := l) (k := j) (by omega); refine ⟨by simp; omega, fun x hx => ?_, by simpa using h3⟩; rw [List.take_succ_cons] at hx; rcases List.mem_cons.1 hx with rfl | hx
    · exact hb
    exact h2 x hx
theorem spl_idx {c : UInt8} {l : List UInt8} {k : Nat} (h : indexByte l c = ((k : Nat) : Int)) : splL c l = l.take k :: splL c (l.drop (k + 1)) := by
  obtain ⟨h1, h2, h3⟩ := idx_some h
  have e : l = l.take k ++ c :: l.drop (k + 1) := by rw [← h3, List.take_append_drop]
  have := spl_app (s := c) (w := l.take k) (r := l.drop (k + 1)) h2; rw [← e] at this; exact this
theorem spl_no {c : UInt8} {l : List UInt8} (h : indexByte l c < 0) : splL c l = [l] := spl_word (idx_none h)
theorem spl_len {c : UInt8} : ∀ l : List UInt8, (splL c l).length = l.count c + 1
  | [] => rfl
  | x :: r => by
    have ih := spl_len (c := c) r; by_cases h : x = c
    · subst h; rw [spl_sep, List.length_cons, ih, List.count_cons_self]
    cases hr : splL c r with
    | nil => exact absurd hr (spl_ne r)
    | cons w l =>
      rw [hr] at ih; rw [spl_cons h hr, List.length_cons, List.count_cons_of_ne h]; simpa using ih
def toL (s : ByteArray) : List UInt8 := s.data.toList
def ofL (l : List UInt8) : ByteArray := ⟨l.toArray⟩
theorem ofL_toL (s : ByteArray) : ofL (toL s) = s := rfl
theorem toL_ofL (l : List UInt8) : toL (ofL l) = l := rfl
theorem toL_len (s : ByteArray) : (toL s).length = s.size := by
  show s.data.toList.length = s.data.size; simp
theorem toL_app (s r : ByteArray) : toL (s ++ r) = toL s ++ toL r := by
  unfold toL; rw [ByteArray.data_append, Array.toList_append]
theorem toL_inj {s r : ByteArray} (h : toL s = toL r) : s = r := by rw [← ofL_toL s, ← ofL_toL r, h]
theorem toL_take (s : ByteArray) (k : Nat) : toL (s.extract 0 k) = (toL s).take k := by
  unfold toL; rw [ByteArray.data_extract, Array.toList_extract, List.extract_eq_take_drop, List.drop_zero, Nat.sub_zero]
theorem toL_drop (s : ByteArray) (k : Nat) : toL (s.extract k s.size) = (toL s).drop k := by
  have hl := toL_len s; unfold toL at hl ⊢; rw [ByteArray.data_extract, Array.toList_extract, List.extract_eq_take_drop, List.take_of_length_le (by rw [List.length_drop]; omega)]
def splS (c : UInt8) (s : ByteArray) : List ByteArray := (splL c (toL s)).map ofL
theorem splS_len {c : UInt8} {s : ByteArray} : (splS c s).length = (toL s).count c + 1 := by rw [splS, List.length_map, spl_len]
theorem splS_idx {c : UInt8} {s : ByteArray} {k : Nat} (h : indexByte (toL s) c = ((k : Nat) : Int)) : splS c s = s.extract 0 k :: splS c (s.extract (k + 1) s.size) := by
  unfold splS; rw [spl_idx h, List.map_cons, toL_drop, ← toL_take, ofL_toL]
theorem splS_no {c : UInt8} {s : ByteArray} (h : indexByte (toL s) c < 0) : splS c s = [s] := by
  unfold splS; rw [spl_no h]; rfl
theorem count_idx {c : UInt8} {l : List UInt8} {k : Nat} (h : indexByte l c = ((k : Nat) : Int)) : l.count c = (l.drop (k + 1)).count c + 1 := by
  have h1 := spl_len (c := c) l; rw [spl_idx h, List.length_cons, spl_len] at h1; omega
theorem count_no {c : UInt8} {l : List UInt8} (h : indexByte l c < 0) : l.count c = 0 := by
  have h1 := spl_len (c := c) l; rw [spl_no h] at h1; simpa using h1.symm
end Go.Fs
namespace Go.Proofs
open Go.Fs
set_option maxHeartbeats 1000000
theorem zIBS_ok {s : ByteArray} {c : Int} : VF Tryz.prog OA 167 [.v .str s, .v (.int .u8) c] (.v (.int .i64) (Go.Lib.indexByte (toL s) c.toNat.toUInt8)) := VF.idxByte Tryz.func167 (fun _ _ => rfl) (by kernel_rfl) (by kernel_rfl) (by kernel_rfl)
theorem zCntS_ok {s : ByteArray} {c : Int} : VF Tryz.prog OA 170 [.v .str s, .v (.int .u8) c] (.v (.int .i64) (((toL s).count c.toNat.toUInt8 : Nat) : Int)) := VF.cntByte Tryz.func170 (fun _ _ => rfl) (by kernel_rfl) (by kernel_rfl) (by kernel_rfl)
def sepB (p : ByteArray) : UInt8 := p.get! 0
theorem sepB_of {p : ByteArray} : (byteE p 0).toNat.toUInt8 = sepB p := by
  show ((((p.get! 0).toNat : Nat) : Int)).toNat.toUInt8 = p.get! 0; rw [Int.toNat_natCast]; exact UInt8.ofNat_toNat
theorem one_byte {p : ByteArray} (hp : p.size = 1) : ∃ c, p = ofL [c] := by
  have hl := toL_len p; rw [hp] at hl; obtain ⟨c, hc⟩ := List.length_eq_one_iff.1 hl; exact ⟨c, by rw [← hc, ofL_toL]⟩
theorem idx_self {p : ByteArray} (hp : p.size = 1) : Go.Lib.indexByte (toL p) (sepB p) = 0 := by
  obtain ⟨c, rfl⟩ := one_byte hp; show Go.Lib.indexByte [c] c = 0; unfold Go.Lib.indexByte; rw [if_pos (by simp)]
theorem zIB_ok {s : ByteArray} {c : Int} : VF Tryz.prog OA 138 [St s, .v (.int .u8) c] (I (Go.Lib.indexByte (toL s) c.toNat.toUInt8)) := by
  refine VF.enter Tryz.func138 rfl (fun _ _ => rfl) rfl ?_; show VC _ _ _ _ _ [(0, St s), (1, .v (.int .u8) c)] [] _; refine VC.seq (VC.text ?_); refine VO.c (.assign rfl) ?_; refine VO.go (VC.seq (VC.text ?_)); refine VO.c (.move rfl) (VO.c (.move rfl) ?_); refine VO.call rfl rfl (VF.call (zIBS_ok )) ?_; refine VO.c (.assign rfl) (VO.go ?_); refine VC.ret ?_; exact VEnd.one rfl evT (pvI (by rfl))
theorem zSIx_ok {s : ByteArray} {p : ByteArray} (hp : p.size = 1) : VF Tryz.prog OA 171 [St s, St p] (I (Go.Lib.indexByte (toL s) (sepB p))) := by
  refine VF.enter Tryz.func171 rfl (fun _ _ => rfl) rfl ?_; show VC _ _ _ _ _ [(0, St s), (1, St p)] [] _; refine VC.seq (VC.text ?_); refine VO.c (.assign rfl) ?_; refine VO.go (VC.seq (VC.text ?_)); refine VO.c (.move rfl) ?_; refine VO.r (.lenS) ?_; refine VO.c (.assign rfl) ?_; refine VO.go (VC.seq (VC.block (VC.seq (VC.text ?_)))); refine VO.c (.move rfl) (VO.c (.eql) (VO.c (.move rfl) ?_)); refine VO.cg (r := decide (((p.size : Nat) : Int) = (0 : Int))) (w := false) [] trivial (fun _ => (.move rfl)) ?_; refine VO.cg (r := decide (((p.size : Nat) : Int) = (0 : Int))) (w := false) [] trivial (fun _ => (.move rfl)) ?_; refine VO.cg (r := decide (((p.size : Nat) : Int) = (0 : Int))) (w := false) [(20, St p), (21, St s)] ⟨rfl, rfl, trivial⟩ (fun _ => (.seql)) ?_; refine VO.c (.or) (VO.c (.assign rfl) (VO.go ?_)); refine VC.condB rfl (fun c2 => ?_) (fun c2 => ?_)
  · try simp only [Bool.and_eq_true, Bool.or_eq_true, Bool.and_eq_false_iff, Bool.or_eq_false_iff, Bool.not_eq_true', Bool.not_eq_false', decide_eq_true_eq, decide_eq_false_iff_not] at c2
    refine VC.seq (VC.text ?_); refine VO.c (.assign rfl) (VO.go ?_); refine VC.ret ?_; exact VEnd.one rfl evT (pvI (by rcases c2 with h | h; exact absurd h (by omega); rw [← h, idx_self hp]))
  try simp only [Bool.and_eq_true, Bool.or_eq_true, Bool.and_eq_false_iff, Bool.or_eq_false_iff, Bool.not_eq_true', Bool.not_eq_false', decide_eq_true_eq, decide_eq_false_iff_not] at c2
  refine VC.seq (VC.text ?_); refine VO.c (.move rfl) (VO.c (.eql) (VO.c (.assign rfl) (VO.go ?_))); refine VC.condD rfl (fun c4 => ?_) (fun c4 => ?_)
  · refine VC.seq (VC.text ?_); refine VO.c (.move rfl) (VO.c (.move rfl) (VO.c (.ixS rfl rfl (by omega) (by omega)) ?_)); refine VO.call rfl rfl (VF.call (zIB_ok )) ?_; refine VO.c (.assign rfl) (VO.go ?_); refine VC.ret ?_; exact VEnd.one rfl evT (pvI (by exact congrArg (Go.Lib.indexByte (toL s)) sepB_of))
  omega
theorem zIx_ok {s : ByteArray} {p : ByteArray} (hp : p.size = 1) : VF Tryz.prog OA 143 [St s, St p] (I (Go.Lib.indexByte (toL s) (sepB p))) := by
  refine VF.enter Tryz.func143 rfl (fun _ _ => rfl) rfl ?_; show VC _ _ _ _ _ [(0, St s), (1, St p)] [] _; refine VC.seq (VC.text ?_); refine VO.c (.assign rfl) ?_; refine VO.go (VC.seq (VC.text ?_)); refine VO.c (.move rfl) (VO.c (.move rfl) ?_); refine VO.call rfl rfl (VF.call (zSIx_ok hp)) ?_; refine VO.c (.assign rfl) (VO.go ?_); refine VC.ret ?_; exact VEnd.one rfl evT (pvI (by rfl))
theorem zCnt_ok {s : ByteArray} {p : ByteArray} (hp : p.size = 1) : VF Tryz.prog OA 142 [St s, St p] (I (((toL s).count (sepB p) : Nat) : Int)) := by
  refine VF.enter Tryz.func142 rfl (fun _ _ => rfl) rfl ?_; show VC _ _ _ _ _ [(0, St s), (1, St p)] [] _; refine VC.seq (VC.text ?_); refine VO.c (.assign rfl) ?_; refine VO.go (VC.seq (VC.seq (VC.text ?_))); refine VO.c (.move rfl) ?_; refine VO.r (.lenS) ?_; refine VO.c (.eql) (VO.go ?_); refine VC.condD rfl (fun c1 => ?_) (fun c1 => ?_)
  · omega
  refine VC.skip (VC.seq (VC.seq (VC.text ?_))); refine VO.c (.move rfl) ?_; refine VO.r (.lenS) ?_; refine VO.c (.eql) (VO.go ?_); refine VC.condD rfl (fun c3 => ?_) (fun c3 => ?_)
  · refine VC.seq (VC.text ?_); refine VO.c (.move rfl) (VO.c (.move rfl) (VO.c (.ixS rfl rfl (by omega) (by omega)) ?_)); refine VO.call rfl rfl (VF.call (zCntS_ok )) ?_; refine VO.c (.assign rfl) (VO.go ?_); refine VC.ret ?_; exact VEnd.one rfl evT (pvI (by exact congrArg (fun c => (((toL s).count c : Nat) : Int)) sepB_of))
  omega
def cutA (c : UInt8) (s : ByteArray) : ByteArray := if Go.Lib.indexByte (toL s) c < 0 then s else s.extract 0 (Go.Lib.indexByte (toL s) c).toNat
def cutR (c : UInt8) (s : ByteArray) : ByteArray := if Go.Lib.indexByte (toL s) c < 0 then ByteArray.empty else s.extract ((Go.Lib.indexByte (toL s) c).toNat + 1) s.size
theorem idx_lt {s : ByteArray} {c : UInt8} : Go.Lib.indexByte (toL s) c < ((s.size : Nat) : Int) := by
  have hl := toL_len s; by_cases h : 0 ≤ Go.Lib.indexByte (toL s) c
  · obtain ⟨k, hk⟩ := Int.eq_ofNat_of_zero_le h; have := (idx_some hk).1; omega
  omega
end Go.Proofs
namespace Go.Proofs
open Go.Fs
set_option maxHeartbeats 1000000
theorem zt9 : ZerT Tryz.prog 9 .str := zerT_of (z := .string ByteArray.empty) (by kernel_rfl) rfl rfl
theorem fillS {α : Type} {W : List α} {i n : Nat} {d x : α} (hn : W.length = n) (hi : i < W.length) (hx : W[i] = x) : (W.take i ++ List.replicate (n - i) d).set i x = W.take (i + 1) ++ List.replicate (n - (i + 1)) d := by
  have h1 : (W.take i).length = i := by rw [List.length_take]; omega
  rw [List.set_append_right _ _ (by omega), h1, Nat.sub_self, show n - i = (n - (i + 1)) + 1 by omega, List.replicate_succ, List.set_cons_zero, List.take_succ_eq_append_getElem hi, hx, List.append_assoc]; rfl
theorem fillN {α : Type} {W : List α} {i n : Nat} {d : α} (hn : W.length = n) (hi : i ≤ n) : (W.take i ++ List.replicate (n - i) d).length = n := by
  rw [List.length_append, List.length_take, List.length_replicate]; omega
theorem app_at {α : Type} {W A R : List α} {x : α} {i : Nat} (h : W = A ++ x :: R) (hA : A.length = i) : ∃ hi : i < W.length, W[i] = x := by
  subst h; refine ⟨by rw [List.length_append, List.length_cons]; omega, ?_⟩; subst hA; simp
theorem app_next {α : Type} {W R : List α} {x : α} {i : Nat} (h : W = W.take i ++ x :: R) (hi : i < W.length) : W = W.take (i + 1) ++ R := by
  obtain ⟨h1, h2⟩ := app_at (i := i) h (by rw [List.length_take]; omega); rw [List.take_succ_eq_append_getElem hi, h2, List.append_assoc]; exact h
theorem splS_one {c : UInt8} {s : ByteArray} (h : (toL s).count c = 0) : splS c s = [s] := by
  by_cases hx : Go.Lib.indexByte (toL s) c < 0
  · exact splS_no hx
  obtain ⟨m, hm⟩ := Int.eq_ofNat_of_zero_le (show 0 ≤ Go.Lib.indexByte (toL s) c by omega); have := count_idx hm; omega
theorem zGen_ok {s : ByteArray} {p : ByteArray} {sv : Int} {n : Int} (hp : p.size = 1) (hs : s.size < 100000) (hsv : sv = 0) (hn : n = -1) : VF Tryz.prog OA 98 [St s, St p, I sv, I n] (.v (.sl .str) (splS (sepB p) s)) := by
  refine VF.enter Tryz.func98 rfl (fun _ _ => rfl) rfl ?_; show VC _ _ _ _ _ [(0, St s), (1, St p), (2, I sv), (3, I n)] [] _; refine VC.seq (VC.text ?_); have hcl := List.count_le_length (a := sepB p) (l := toL s); rw [toL_len] at hcl; refine VO.c (.assign rfl) ?_; refine VO.go (VC.seq (VC.seq (VC.text ?_))); refine VO.c (.move rfl) (VO.c (.eql) (VO.go ?_)); refine VC.condD rfl (fun c1 => ?_) (fun c1 => ?_)
  · omega
  refine VC.skip (VC.seq (VC.seq (VC.text ?_))); refine VO.c (.move rfl) (VO.c (.seql) (VO.go ?_)); refine VC.condD rfl (fun c3 => ?_) (fun c3 => ?_)
  · rw [c3] at hp; cases hp
  refine VC.skip (VC.seq (VC.seq (VC.text ?_))); refine VO.c (.move rfl) (VO.c (.lss) (VO.go ?_)); refine VC.condD rfl (fun c5 => ?_) (fun c5 => ?_)
  · refine VC.text ?_; refine VO.c (.move rfl) (VO.c (.move rfl) ?_); refine VO.call rfl rfl (VF.call (zCnt_ok hp)) ?_; refine VO.c (.add rfl rfl (by omega)) (VO.c (.assign rfl) ?_); refine VO.go (VC.seq (VC.text ?_))
    have hmin : min ((((toL s).count (sepB p) : Nat) : Int) + 1) (((s.size : Nat) : Int) + 1) = (((toL s).count (sepB p) + 1 : Nat) : Int) := by omega
    have hwl := splS_len (c := sepB p) (s := s); refine VO.c (.move rfl) (VO.c (.move rfl) ?_); refine VO.r (.lenS) ?_; refine VO.c (.add rfl rfl (by omega)) (VO.c (.imin) ?_); rw [hmin]; refine VO.c (.assign rfl) ?_; refine VO.go (VC.seq (VC.text ?_)); refine VO.c (.move rfl) ?_; refine VO.cell (.make (k := ((toL s).count (sepB p) + 1)) rfl rfl el48 zt9 (by omega)) ?_; intro ww1; refine VO.c (.assign rfl) ?_; refine VO.go (VC.seq (VC.text ?_)); refine VO.c (.move rfl) (VO.c (.sub rfl rfl (by omega)) (VO.c (.assign rfl) ?_)); refine VO.go (VC.seq (VC.text ?_)); refine VO.c (.assign rfl) ?_; refine VO.go (VC.seq (VC.block ?_)); refine VC.keep [(0, St s), (1, St p), (2, I sv), (3, I ((((toL s).count (sepB p) + 1 : Nat) : Int) - (1 : Int))), (9, .raw ww1), (10, I ((0 : Nat) : Int))] ⟨rfl, rfl, rfl, rfl, rfl, rfl, trivial⟩ ?_; refine VC.loop (I := fun kk ff ss => ∃ (i : Nat) (S : ByteArray), kk = (toL s).count (sepB p) - i ∧ ff = [(0, St S), (1, St p), (2, I sv), (3, I ((((toL s).count (sepB p) + 1 : Nat) : Int) - (1 : Int))), (9, .raw ww1), (10, I ((i : Nat) : Int))] ∧ ss = [(ww1, .row 9 .str ((splS (sepB p) s).take i ++ List.replicate ((toL s).count (sepB p) + 1 - i) ByteArray.empty))] ∧ (i ≤ (toL s).count (sepB p)) ∧ (splS (sepB p) s = (splS (sepB p) s).take i ++ splS (sepB p) S) ∧ ((toL S).count (sepB p) + i = (toL s).count (sepB p)) ∧ (S.size ≤ s.size)) ?_ _ _ _ ⟨0, s, rfl, rfl, rfl, (by omega), (by rfl), (by rfl), (by exact Nat.le_refl _)⟩; rintro kk ff ss ⟨i, S, hk0, rfl, rfl, hi, hS, hc, hz⟩; have hfl := fillN (d := ByteArray.empty) hwl (i := i) (by omega); refine VC.seq (VC.seq (VC.text ?_)); refine VO.c (.move rfl) (VO.c (.move rfl) (VO.c (.lss) (VO.go ?_))); refine VC.condD rfl (fun c11 => ?_) (fun c11 => ?_)
    · have hit : i < (toL s).count (sepB p) := by omega
      have hge := Go.Lib.indexByte_ge (toL S) (sepB p); have hlt := idx_lt (s := S) (c := sepB p); refine VC.skip (VC.block (VC.seq (VC.text ?_))); refine VO.c (.move rfl) (VO.c (.move rfl) ?_); refine VO.call rfl rfl (VF.call (zIx_ok hp)) ?_; refine VO.c (.assign rfl) ?_; refine VO.go (VC.seq (VC.seq (VC.text ?_))); refine VO.c (.move rfl) (VO.c (.lss) (VO.go ?_)); refine VC.condD rfl (fun c13 => ?_) (fun c13 => ?_)
      · have := count_no (l := toL S) c13; omega
      obtain ⟨m, hm⟩ := Int.eq_ofNat_of_zero_le (show 0 ≤ Go.Lib.indexByte (toL S) (sepB p) by omega)
      have he1 : (Go.Lib.indexByte (toL S) (sepB p) + sv).toNat = m := by omega
      have he2 : (Go.Lib.indexByte (toL S) (sepB p) + ((p.size : Nat) : Int)).toNat = m + 1 := by omega
      have hsp := splS_idx hm; have hcn := count_idx hm; have hS2 := hS; rw [hsp] at hS2; have hnx := app_next hS2 (by omega); obtain ⟨hw1, hw2⟩ := app_at (i := i) hS2 (by rw [List.length_take]; omega); have hset := fillS (d := ByteArray.empty) hwl (by omega) hw2
      have hzl : (S.extract (m + 1) S.size).size ≤ S.size := by
        have h7 := congrArg List.length (toL_drop S (m + 1)); rw [toL_len, List.length_drop, toL_len] at h7; omega
      refine VC.skip (VC.seq (VC.text ?_)); refine VO.c (.move rfl) (VO.c (.move rfl) (VO.c (.move rfl) (VO.c (.move rfl) ?_))); refine VO.c (.move rfl) (VO.c (.add rfl rfl (by omega)) ?_); refine VO.r (.cutHS (by kernel_rfl) rfl rfl (by omega)) ?_; rw [he1]; refine VO.c (.ixO (j := i) rfl rfl m0 el48 (by omega)) ?_; refine VO.setE i rfl rfl vt9 (by omega) ?_; refine VO.go (VC.seq (VC.text ?_)); refine VO.c (.move rfl) (VO.c (.move rfl) (VO.c (.move rfl) ?_)); refine VO.r (.lenS) ?_; refine VO.c (.add rfl rfl (by omega)) ?_; refine VO.r (.cutLS (by kernel_rfl) rfl rfl (by omega)) ?_; rw [he2]; refine VO.c (.assign rfl) ?_; refine VO.go (VC.text ?_); refine VO.c (.move rfl) (VO.c (.add rfl rfl (by omega)) (VO.c (.assign rfl) ?_)); refine VO.nil ?_; refine ⟨_, [(0, St (S.extract (m + 1) S.size)), (1, St p), (2, I sv), (3, I ((((toL s).count (sepB p) + 1 : Nat) : Int) - (1 : Int))), (9, .raw ww1), (10, I (((i + 1) : Nat) : Int))], ?_, ⟨slE rfl (by first | rfl | simp | omega), rfl, rfl, rfl, rfl, rfl, trivial⟩, (i + 1), (S.extract (m + 1) S.size), rfl, rfl, (by rw [hset]), (by omega), (by exact hnx), (by rw [toL_drop]; omega), (by exact Nat.le_trans hzl hz)⟩; omega
    have hic : i = (toL s).count (sepB p) := by omega
    have hS4 := hS; rw [splS_one (s := S) (by omega)] at hS4; obtain ⟨hw1, hw2⟩ := app_at (i := i) hS4 (by rw [List.length_take]; omega); have hset := fillS (d := ByteArray.empty) hwl hw1 hw2
    have hall : ((splS (sepB p) s).take i ++ List.replicate ((toL s).count (sepB p) + 1 - i) ByteArray.empty).set i S = splS (sepB p) s := by
      rw [hset, List.take_of_length_le (by omega), show (toL s).count (sepB p) + 1 - (i + 1) = 0 by omega]; simp
    refine VC.exit (VC.seq (VC.text ?_)); refine VO.c (.move rfl) (VO.c (.move rfl) (VO.c (.move rfl) (VO.c (.ixO (j := i) rfl rfl m0 el48 (by omega)) ?_))); refine VO.setE i rfl rfl vt9 (by omega) ?_; refine VO.go (VC.seq (VC.text ?_)); refine VO.c (.move rfl) (VO.c (.move rfl) (VO.c (.add rfl rfl (by omega)) ?_)); refine VO.shut [(9, .v (.sl .str) (((splS (sepB p) s).take i ++ List.replicate ((toL s).count (sepB p) + 1 - i) ByteArray.empty).set i S)), (58, .v (.sl .str) (((splS (sepB p) s).take i ++ List.replicate ((toL s).count (sepB p) + 1 - i) ByteArray.empty).set i S)), (62, .v (.sl .str) (((splS (sepB p) s).take i ++ List.replicate ((toL s).count (sepB p) + 1 - i) ByteArray.empty).set i S))] (.cons rfl (.row m0) (.cons rfl (.row m0) (.cons rfl (.row m0) .nil))) ?_; refine VO.r (.cutH rfl rfl el48 (by rw [List.length_set]; omega)) ?_; refine VO.c (.assign rfl) (VO.go ?_); refine VC.ret ?_; exact VEnd.one rfl evT (pvE (by rw [hall, List.take_of_length_le (by omega)]))
  omega
theorem zSplit_ok {s : ByteArray} {p : ByteArray} (hp : p.size = 1) (hs : s.size < 100000) : VF Tryz.prog OA 51 [St s, St p] (.v (.sl .str) (splS (sepB p) s)) := by
  refine VF.enter Tryz.func51 rfl (fun _ _ => rfl) rfl ?_; show VC _ _ _ _ _ [(0, St s), (1, St p)] [] _; refine VC.seq (VC.text ?_); refine VO.c (.assign rfl) ?_; refine VO.go (VC.seq (VC.text ?_)); refine VO.c (.move rfl) (VO.c (.move rfl) ?_); refine VO.call rfl rfl (VF.call (zGen_ok hp hs rfl rfl)) ?_; refine VO.c (.assign rfl) (VO.go ?_); refine VC.ret ?_; exact VEnd.one rfl evT (pvE (by rfl))
end Go.Proofs
