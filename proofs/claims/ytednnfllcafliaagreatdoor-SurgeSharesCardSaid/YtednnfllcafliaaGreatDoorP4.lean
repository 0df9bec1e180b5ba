/- Contracts of functions of the program, over the evaluator: what each answers. Conditions: those in each statement. -/
import Derived.Test.YtednnfllcafliaaGreatDoorP3
set_option linter.all false
namespace Go.Proofs
open Go.Fs
set_option linter.unusedVariables false

theorem gWhen_ok {h : Heap} {S : List Nat} {c : Bool} {e : Int} (hok : HOk h) (hS : ∀ b ∈ S, b < h.next) : EvF Tryz.prog OA 163 [.bool c, .int .i64 e] h fun r h' => r = .int .i64 (whenE c e) ∧ h' = h := by
  refine XF.enter Tryz.func163 rfl rfl rfl ?_
  have hok : HOk (entry h) := hok
  have hA := After.refl (entry h)
  show XC Tryz.prog OA none _ _ [] [(0, .bool c), (1, .int .i64 e)] (entry h) _
  refine XC.seq ?_
  refine XC.text ?_
  refine XO.c (.assign rfl) rfl rfl ?_
  refine XO.nil (thenC.go ?_)
  refine XC.seq ?_
  refine XC.seq ?_
  refine XC.text ?_
  refine XO.c (.move rfl) rfl rfl ?_
  refine XO.nil (thenC.go ?_)
  refine XC.condB rfl (fun c1 => ?_) (fun c1 => ?_)
  · subst c1
    refine XC.seq ?_
    refine XC.text ?_
    refine XO.c (.move rfl) rfl rfl ?_
    refine XO.c (.assign rfl) rfl rfl ?_
    refine XO.nil (thenC.go ?_)
    refine XC.ret fun tf htf => ?_
    refine thenC_ret ?_
    refine endF.one rfl rfl (htf 4 _ rfl) ?_
    exact ⟨congrArg (Value.int .i64) (by rfl), hA.leftAf rfl⟩
  · subst c1
    refine XC.skip (thenC.go ?_)
    refine XC.seq ?_
    refine XC.text ?_
    refine XO.c (.assign rfl) rfl rfl ?_
    refine XO.nil (thenC.go ?_)
    refine XC.ret fun tf htf => ?_
    refine endF.one rfl rfl (htf 4 _ rfl) ?_
    exact ⟨congrArg (Value.int .i64) (by rfl), hA.leftAf rfl⟩
theorem gWithin_ok {h : Heap} {S : List Nat} {n : Int} {lo : Int} {hi : Int} (hok : HOk h) (hS : ∀ b ∈ S, b < h.next) : EvF Tryz.prog OA 162 [.int .i64 n, .int .i64 lo, .int .i64 hi] h fun r h' => r = .int .i64 (rangeE n lo hi) ∧ h' = h := by
  refine XF.enter Tryz.func162 rfl rfl rfl ?_
  have hok : HOk (entry h) := hok
  have hA := After.refl (entry h)
  show XC Tryz.prog OA none _ _ [] [(0, .int .i64 n), (1, .int .i64 lo), (2, .int .i64 hi)] (entry h) _
  refine XC.seq ?_
  refine XC.text ?_
  refine XO.c (.assign rfl) rfl rfl ?_
  refine XO.nil (thenC.go ?_)
  refine XC.seq ?_
  refine XC.text ?_
  refine XO.c (.move rfl) rfl rfl ?_
  refine XO.c (.move rfl) rfl rfl ?_
  refine XO.c (.lss rfl rfl) rfl rfl ?_
  refine XO.c (.move rfl) rfl rfl ?_
  refine XO.splitD (x := 10) rfl (fun g1_3 => ?_) (fun g1_3 => ?_)
  · refine XO.skip rfl rfl rfl rfl rfl ?_
    refine XO.skip rfl rfl rfl rfl rfl ?_
    refine XO.skip rfl rfl rfl rfl rfl ?_
    refine XO.c (.pickT rfl rfl) rfl rfl ?_
    refine XO.call rfl rfl rfl rfl ?_
    refine EvF.mono (gWhen_ok (hA.ok hok) (hA.inS hS)  ) ?_
    rintro _ _ ⟨rfl, hh⟩
    obtain rfl := hh.symm
    clear hh
    refine XO.c (.assign rfl) rfl rfl ?_
    refine XO.nil (thenC.go ?_)
    refine XC.ret fun tf htf => ?_
    refine endF.one rfl rfl (htf 6 _ rfl) ?_
    exact ⟨congrArg (Value.int .i64) (by simp [rangeE, whenE, *]), hA.leftAf rfl⟩
  · refine XO.gc rfl rfl rfl (.move rfl) rfl rfl ?_
    refine XO.gc rfl rfl rfl (.move rfl) rfl rfl ?_
    refine XO.gc rfl rfl rfl (.gtr rfl rfl) rfl rfl ?_
    refine XO.c (.pickF rfl rfl) rfl rfl ?_
    refine XO.call rfl rfl rfl rfl ?_
    refine EvF.mono (gWhen_ok (hA.ok hok) (hA.inS hS)  ) ?_
    rintro _ _ ⟨rfl, hh⟩
    obtain rfl := hh.symm
    clear hh
    refine XO.c (.assign rfl) rfl rfl ?_
    refine XO.nil (thenC.go ?_)
    refine XC.ret fun tf htf => ?_
    refine endF.one rfl rfl (htf 6 _ rfl) ?_
    exact ⟨congrArg (Value.int .i64) (by simp [rangeE, whenE, *]), hA.leftAf rfl⟩
theorem gFirst_ok {h : Heap} {S : List Nat} {v0 : Value} {l : List Int} (hok : HOk h) (hS : ∀ b ∈ S, b < h.next) (ha0 : SlV h S (.int .i64) v0 l) (hl : l.length < 1000000) : EvF Tryz.prog OA 161 [v0] h fun r h' => r = .int .i64 (firstE l) ∧ h' = h := by
  refine XF.enter Tryz.func161 rfl rfl rfl ?_
  have hok : HOk (entry h) := hok
  have hA := After.refl (entry h)
  replace ha0 := ha0.entry
  show XC Tryz.prog OA none _ _ [] [(0, v0)] (entry h) _
  refine XC.seq ?_
  refine XC.text ?_
  refine XO.c (.assign rfl) rfl rfl ?_
  refine XO.nil (thenC.go ?_)
  refine XC.seq ?_
  refine XC.seq ?_
  refine XC.text ?_
  refine XO.c (.move rfl) rfl rfl ?_
  refine XO.a (.len rfl (ha0.len el179)) rfl rfl ?_
  refine XO.c (.move rfl) rfl rfl ?_
  refine XO.nil (thenC.go ?_)
  refine XC.block ?_
  have hAL103 := hA
  have hkL103 := hA.ok hok
  have hSL103 := (hA.inS hS)
  refine XC.keep [(5, v0), (6, .int .i64 ((l.length : Nat) : Int)), (7, .int .i64 ((0 : Nat) : Int))] ⟨rfl, rfl, rfl, trivial⟩ ?_
  refine XC.loopI (I := fun (kk : Nat) (ff : FL) (hh : Heap) => ∃ (j : Nat), kk = l.length - j ∧ ff = [(5, v0), (6, .int .i64 ((l.length : Nat) : Int)), (7, .int .i64 ((j : Nat) : Int))] ∧ After (entry h) hh ∧ After (entry h) hh ∧ Goes (entry h) S hh S ∧ (j ≤ l.length) ∧ (firstE l = firstE (l.drop j))) ?_ _ _ _ ⟨0, rfl, rfl, hA, After.refl _, Goes.refl, (by omega), (by rfl)⟩
  clear hA
  rintro kk ff hh103 ⟨j, hk103, rfl, hA, aL103, nL103, hj, hf⟩
  replace ha0 := ha0.nx nL103
  refine XC.seq ?_
  refine XC.text ?_
  refine XO.c (.lss rfl rfl) rfl rfl ?_
  refine XO.nil (thenC.go ?_)
  refine XC.seq ?_
  refine XC.condD rfl (fun c2 => ?_) (fun c2 => ?_)
  · refine XC.skip (thenC.go ?_)
    refine XC.seq ?_
    refine XC.block ?_
    refine XC.seq ?_
    refine XC.text ?_
    refine XO.c (.indexAddr rfl rfl rfl (ha0.ix (j := j) el179 (by omega))) rfl rfl ?_
    refine XO.r (.load rfl (((ha0.at (j := j) (by omega))).ldInt vt26)) rfl rfl ?_
    refine XO.c (.assign rfl) rfl rfl ?_
    refine XO.nil (thenC.go ?_)
    refine XC.seq ?_
    refine XC.text ?_
    refine XO.c (.move rfl) rfl rfl ?_
    refine XO.c (.neq rfl rfl) rfl rfl ?_
    refine XO.nil (thenC.go ?_)
    refine XC.condD rfl (fun c4 => ?_) (fun c4 => ?_)
    · refine XC.seq ?_
      refine XC.text ?_
      refine XO.c (.move rfl) rfl rfl ?_
      refine XO.c (.assign rfl) rfl rfl ?_
      refine XO.nil (thenC.go ?_)
      refine XC.ret fun tf htf => ?_
      refine inBlock_ret ?_
      refine thenC_ret ?_
      refine loopQ_ret ?_
      refine inBlock_ret ?_
      refine thenC_ret ?_
      refine endF.one rfl rfl (htf 2 _ rfl) ?_
      exact ⟨congrArg (Value.int .i64) (by rw [hf, firstE_drop (by omega), if_neg c4]), hA.leftAf rfl⟩
    · refine XC.skip ?_
      intro tf htf
      refine inBlock_nrm ?_
      refine thenC.go ?_ tf htf
      refine XC.text ?_
      refine XO.c (.add rfl rfl (by omega)) rfl rfl ?_
      refine XO.c (.move rfl) rfl rfl ?_
      refine XO.nil ?_
      intro tf htf
      refine ⟨rfl, rfl, _, [(5, v0), (6, .int .i64 ((l.length : Nat) : Int)), (7, .int .i64 (((j + 1) : Nat) : Int))], ?_, htf.keep _ ⟨rfl, rfl, rfl, trivial⟩, (j + 1), rfl, rfl, hA, aL103, nL103, (by omega), (by rw [hf, firstE_drop (by omega), if_pos (by simpa using c4)])⟩
      omega
  · refine XC.exit ?_
    intro tf htf
    refine thenC_exit ?_
    refine loopQ_exit ?_
    refine inBlock_eq ?_
    refine thenC.go ?_ tf htf
    refine XC.seq ?_
    refine XC.text ?_
    refine XO.c (.assign rfl) rfl rfl ?_
    refine XO.nil (thenC.go ?_)
    refine XC.ret fun tf htf => ?_
    refine endF.one rfl rfl (htf 2 _ rfl) ?_
    exact ⟨congrArg (Value.int .i64) (by rw [hf, firstE_end (by omega)]), hA.leftAf rfl⟩
def ratioE (r : Int × Int) : Int := firstE [rangeE r.1 (-999999999) 999999999, rangeE r.2 1 999999999, whenE (decide (((Int.gcd r.1 r.2 : Nat) : Int) ≠ 1)) 1]
theorem ratio_two {r : Int × Int} : ratioE r = firstE ([rangeE r.1 (-999999999) 999999999, rangeE r.2 1 999999999] ++ [whenE (decide (((Int.gcd r.1 r.2 : Nat) : Int) ≠ 1)) 1]) := rfl
theorem ratio_ok {a b : Int} (h : firstE [rangeE a (-999999999) 999999999, rangeE b 1 999999999] = 0) : (-999999999 ≤ a ∧ a ≤ 999999999) ∧ (1 ≤ b ∧ b ≤ 999999999) := by
  rw [firstE_zero] at h
  exact ⟨rangeE_zero.1 (h _ (by simp)), rangeE_zero.1 (h _ (by simp))⟩
theorem firstE_one (x : Int) : firstE [x] = x := by
  show (if x = 0 then 0 else x) = x
  split <;> omega
theorem gRatio_ok {h : Heap} {S : List Nat} {q : Int × Int} (hok : HOk h) (hS : ∀ b ∈ S, b < h.next) : EvF Tryz.prog OA 116 [.agg #[.int .i64 q.1, .int .i64 q.2]] h fun r h' => r = .int .i64 (ratioE q) ∧ h' = h := by
  refine XF.enter Tryz.func116 rfl rfl rfl ?_
  have hok : HOk (entry h) := hok
  have hA := After.refl (entry h)
  show XC Tryz.prog OA none _ _ [] [(0, .agg #[.int .i64 q.1, .int .i64 q.2])] (entry h) _
  refine XC.seq ?_
  refine XC.text ?_
  refine XO.boxR rfl (RepV.mk2 (a := (.int .i64)) (b := (.int .i64)) (x := q) (RepV.ofInt .i64 _) (RepV.ofInt .i64 _) rfl rfl) (hA.ok hok) (hA.inS hS) rfl rfl ?_
  intro p104 h104 b104 a104
  have ok105 := hA.ok hok
  have gg105 : Goes (entry h) S h104 S := a104.nx ok105
  replace hA := hA.trans a104
  refine XO.c (.assign rfl) rfl rfl ?_
  refine XO.nil (thenC.go ?_)
  refine XC.seq ?_
  refine XC.seq ?_
  refine XC.drawn ?_
  have hkr106 := hA.ok hok
  have hSr106 := (hA.inS hS)
  refine XD.c (b := 0) (.fieldAddr rfl ((b104).fa (f := 0) (k := 0) (by kernel_rfl))) rfl rfl rfl ?_
  refine XD.ld (b := 1) (After.refl _) SegsOk.nil hkr106 rfl (((b104).base.fst').ldInt vt3) rfl rfl rfl rfl ?_
  refine XD.callV (bb := 3) (After.refl _) (SegsOk.cons ((After.refl _)).next SegsOk.nil) rfl rfl rfl rfl rfl rfl ?_
  intro M107 aM107 oM107
  refine EvF.mono (gWithin_ok (aM107.ok hkr106) (aM107.inS hSr106)  ) ?_
  rintro _ _ ⟨rfl, hh⟩
  refine ⟨hh, ?_⟩
  clear hh
  refine XD.c (b := 0) (.fieldAddr rfl ((b104).fa (f := 1) (k := 1) (by kernel_rfl))) rfl rfl rfl ?_
  refine XD.ld (b := 8) (After.refl _) (SegsOk.cons ((After.refl _)).next (SegsOk.cons ((After.refl _)).next SegsOk.nil)) hkr106 rfl ((((b104).base.snd' (m := 1) rfl (b104).isP)).ldInt vt3) rfl rfl rfl rfl ?_
  refine XD.callV (bb := 31) (After.refl _) (SegsOk.cons ((After.refl _)).next (SegsOk.cons ((After.refl _)).next (SegsOk.cons ((After.refl _)).next SegsOk.nil))) rfl rfl rfl rfl rfl rfl ?_
  intro M108 aM108 oM108
  refine EvF.mono (gWithin_ok (aM108.ok hkr106) (aM108.inS hSr106)  ) ?_
  rintro _ _ ⟨rfl, hh⟩
  refine ⟨hh, ?_⟩
  clear hh
  refine XD.lit (b := 63) (h := h104) (S := S) (τ := (.int .i64)) (vsC (RepV.ofInt .i64 _) (vs1 (RepV.ofInt .i64 _))) el179 rfl rfl rfl (by simp) (by simp) (by decide) (hA.ok hok) (hA.inS hS) rfl rfl rfl rfl ?_
  intro w109 h109 s109 a109
  have b104o := b104
  have rg106 : Goes h104 S h104 S := Goes.refl
  have ra106 := After.refl h104
  have ok110 := hA.ok hok
  have gg110 : Goes h104 S h109 S := a109.nx ok110
  replace hA := hA.trans a109
  replace b104 := b104.nx gg110
  replace rg106 := rg106.trans gg110
  have ra106_109 := ra106.trans a109
  refine XD.callV (bb := 127) ra106_109 (SegsOk.cons (ra106).next (SegsOk.cons ((After.refl _)).next (SegsOk.cons ((After.refl _)).next (SegsOk.cons ((After.refl _)).next (SegsOk.cons ((After.refl _)).next SegsOk.nil))))) rfl rfl rfl rfl rfl rfl ?_
  intro M111 aM111 oM111
  obtain rfl := oM111 rfl
  refine EvF.mono (gFirst_ok (hA.ok hok) (hA.inS hS) (s109).entry (by simp)) ?_
  rintro _ _ ⟨rfl, hh⟩
  refine ⟨hh, ?_⟩
  clear hh
  refine XD.c (b := 255) (.assign rfl) rfl rfl rfl ?_
  refine XD.nil (thenC.go ?_)
  refine XC.seq ?_
  refine XC.text ?_
  refine XO.c (.move rfl) rfl rfl ?_
  refine XO.c (.neq rfl rfl) rfl rfl ?_
  refine XO.nil (thenC.go ?_)
  refine XC.condD rfl (fun c2 => ?_) (fun c2 => ?_)
  · refine XC.seq ?_
    refine XC.text ?_
    refine XO.c (.move rfl) rfl rfl ?_
    refine XO.c (.assign rfl) rfl rfl ?_
    refine XO.nil (thenC.go ?_)
    refine XC.ret fun tf htf => ?_
    refine thenC_ret ?_
    refine endF.one rfl rfl (htf 2 _ rfl) ?_
    exact ⟨congrArg (Value.int .i64) (by rw [ratio_two, firstE_app, if_neg c2]), hA.leftAf rfl⟩
  · have hr := ratio_ok (Decidable.not_not.1 c2)
    refine XC.skip (thenC.go ?_)
    refine XC.seq ?_
    refine XC.drawn ?_
    have hkr112 := hA.ok hok
    have hSr112 := (hA.inS hS)
    refine XD.c (b := 0) (.fieldAddr rfl ((b104).fa (f := 0) (k := 0) (by kernel_rfl))) rfl rfl rfl ?_
    refine XD.ld (b := 1) (After.refl _) SegsOk.nil hkr112 rfl (((b104).base.fst').ldInt vt3) rfl rfl rfl rfl ?_
    refine XD.c (b := 0) (.fieldAddr rfl ((b104).fa (f := 0) (k := 0) (by kernel_rfl))) rfl rfl rfl ?_
    refine XD.ld (b := 4) (After.refl _) (SegsOk.cons ((After.refl _)).next SegsOk.nil) hkr112 rfl (((b104).base.fst').ldInt vt3) rfl rfl rfl rfl ?_
    refine XD.c (b := 12) (.neg rfl (by omega)) rfl rfl rfl ?_
    refine XD.a (b := 31) rfl (.max rfl rfl) rfl rfl rfl rfl ?_
    refine XD.c (b := 0) (.fieldAddr rfl ((b104).fa (f := 1) (k := 1) (by kernel_rfl))) rfl rfl rfl ?_
    refine XD.ld (b := 64) (After.refl _) (SegsOk.cons ((After.refl _)).next (SegsOk.cons ((After.refl _)).next (SegsOk.cons ((After.refl _)).next SegsOk.nil))) hkr112 rfl ((((b104).base.snd' (m := 1) rfl (b104).isP)).ldInt vt3) rfl rfl rfl rfl ?_
    refine XD.c (b := 63) (.assign rfl) rfl rfl rfl ?_
    refine XD.c (b := 511) (.assign rfl) rfl rfl rfl ?_
    refine XD.nil (thenC.go ?_)
    refine XC.seq ?_
    refine XC.block ?_
    have hAL113 := hA
    have hkL113 := hA.ok hok
    have hSL113 := (hA.inS hS)
    refine XC.keep [(4, .int .i64 ((q.1.natAbs : Nat) : Int)), (5, .int .i64 ((q.2.toNat : Nat) : Int))] ⟨(congrArg (fun z => some z) (by exact congrArg _ (by omega))), (congrArg (fun z => some z) (by exact congrArg _ (Int.toNat_of_nonneg (by omega)).symm)), trivial⟩ ?_
    refine XC.loopI (I := fun (kk : Nat) (ff : FL) (hh : Heap) => ∃ (a : Nat) (b : Nat), kk = b ∧ ff = [(4, .int .i64 ((a : Nat) : Int)), (5, .int .i64 ((b : Nat) : Int))] ∧ After (entry h) hh ∧ After h109 hh ∧ Goes h109 S hh S ∧ (Nat.gcd a b = Int.gcd q.1 q.2)) ?_ _ _ _ ⟨q.1.natAbs, q.2.toNat, rfl, rfl, hA, After.refl _, Goes.refl, (by show Nat.gcd q.1.natAbs q.2.toNat = Nat.gcd q.1.natAbs q.2.natAbs; congr 1; omega)⟩
    clear hA
    rintro kk ff hh113 ⟨a, b, hk113, rfl, hA, aL113, nL113, hg⟩
    replace b104 := b104.nx nL113
    replace s109 := s109.nx nL113
    refine XC.seq ?_
    refine XC.seq ?_
    refine XC.text ?_
    refine XO.c (.move rfl) rfl rfl ?_
    refine XO.c (.neq rfl rfl) rfl rfl ?_
    refine XO.nil (thenC.go ?_)
    refine XC.condD rfl (fun c5 => ?_) (fun c5 => ?_)
    · refine XC.skip (thenC.go ?_)
      refine XC.block ?_
      refine XC.drawn ?_
      have hkr114 := hA.ok hok
      have hSr114 := (hA.inS hS)
      refine XD.c (b := 0) (.move rfl) rfl rfl rfl ?_
      refine XD.c (b := 0) (.move rfl) rfl rfl rfl ?_
      refine XD.c (b := 0) (.move rfl) rfl rfl rfl ?_
      refine XD.c (b := 6) (.rem rfl rfl (by exact c5)) rfl rfl rfl ?_
      refine XD.c (b := 3) (.assign rfl) rfl rfl rfl ?_
      refine XD.c (b := 31) (.assign rfl) rfl rfl rfl ?_
      refine XD.nil ?_
      intro tf htf
      refine inBlock_nrm ?_
      refine ⟨rfl, rfl, _, [(4, .int .i64 ((b : Nat) : Int)), (5, .int .i64 (((a % b) : Nat) : Int))], ?_, htf.keep _ ⟨rfl, (congrArg (fun z => some z) (by exact congrArg _ (Int.ofNat_tmod a b).symm)), trivial⟩, b, (a % b), rfl, rfl, hA, aL113, nL113, (by exact gcd_step hg c5)⟩
      have h9 := Nat.mod_lt a (show 0 < b by omega); omega
    · refine XC.exit ?_
      intro tf htf
      refine thenC_exit ?_
      refine loopQ_exit ?_
      refine inBlock_eq ?_
      refine thenC.go ?_ tf htf
      refine XC.seq ?_
      refine XC.text ?_
      have ea := gcd_end hg c5
      refine XO.c (.move rfl) rfl rfl ?_
      refine XO.c (.neq rfl rfl) rfl rfl ?_
      refine XO.call rfl rfl rfl rfl ?_
      refine EvF.mono (gWhen_ok (hA.ok hok) (hA.inS hS)  ) ?_
      rintro _ _ ⟨rfl, hh⟩
      obtain rfl := hh.symm
      clear hh
      refine XO.c (.assign rfl) rfl rfl ?_
      refine XO.nil (thenC.go ?_)
      refine XC.ret fun tf htf => ?_
      refine endF.one rfl rfl (htf 2 _ rfl) ?_
      exact ⟨congrArg (Value.int .i64) (by rw [ratio_two, firstE_app, if_pos (Decidable.not_not.1 c2), firstE_one, ← ea]), hA.leftAf rfl⟩
theorem low_eq {r : Int × Int} (hd : 0 < r.2) : r = lowE r.1 r.2 ↔ ((Int.gcd r.1 r.2 : Nat) : Int) = 1 := by
  constructor
  · intro h
    have h2 : r.2 = r.2.tdiv (Int.gcd r.1 r.2) := congrArg Prod.snd h
    have hp := gcd_pos (n := r.1) hd
    by_cases h1 : Int.gcd r.1 r.2 = 1
    · rw [h1]; rfl
    · exfalso
      have h3 : r.2.tdiv (Int.gcd r.1 r.2) < r.2 := by
        rw [Int.tdiv_eq_ediv_of_nonneg (by omega)]
        exact Int.ediv_lt_self_of_pos_of_ne_one hd (by omega)
      omega
  · intro h
    have h1 : Int.gcd r.1 r.2 = 1 := by omega
    unfold lowE
    rw [h1]
    simp
theorem rRatio_ok {h : Heap} {S : List Nat} {q : Int × Int} (hok : HOk h) (hS : ∀ b ∈ S, b < h.next) : EvF Tryz.prog OA 121 [.agg #[.int .i64 q.1, .int .i64 q.2]] h fun r h' => r = .int .i64 (ratioE q) ∧ h' = h := by
  refine XF.enter Tryz.func121 rfl rfl rfl ?_
  have hok : HOk (entry h) := hok
  have hA := After.refl (entry h)
  show XC Tryz.prog OA none _ _ [] [(0, .agg #[.int .i64 q.1, .int .i64 q.2])] (entry h) _
  refine XC.seq ?_
  refine XC.text ?_
  refine XO.boxR rfl (RepV.mk2 (a := (.int .i64)) (b := (.int .i64)) (x := q) (RepV.ofInt .i64 _) (RepV.ofInt .i64 _) rfl rfl) (hA.ok hok) (hA.inS hS) rfl rfl ?_
  intro p116 h116 b116 a116
  have ok117 := hA.ok hok
  have gg117 : Goes (entry h) S h116 S := a116.nx ok117
  replace hA := hA.trans a116
  refine XO.c (.assign rfl) rfl rfl ?_
  refine XO.nil (thenC.go ?_)
  refine XC.seq ?_
  refine XC.seq ?_
  refine XC.drawn ?_
  have hkr118 := hA.ok hok
  have hSr118 := (hA.inS hS)
  refine XD.c (b := 0) (.fieldAddr rfl ((b116).fa (f := 0) (k := 0) (by kernel_rfl))) rfl rfl rfl ?_
  refine XD.ld (b := 1) (After.refl _) SegsOk.nil hkr118 rfl (((b116).base.fst').ldInt vt3) rfl rfl rfl rfl ?_
  refine XD.callV (bb := 3) (After.refl _) (SegsOk.cons ((After.refl _)).next SegsOk.nil) rfl rfl rfl rfl rfl rfl ?_
  intro M119 aM119 oM119
  refine EvF.mono (rCheckRange_ok (aM119.ok hkr118) (aM119.inS hSr118)  ) ?_
  rintro _ _ ⟨rfl, hh⟩
  refine ⟨hh, ?_⟩
  clear hh
  refine XD.c (b := 0) (.fieldAddr rfl ((b116).fa (f := 1) (k := 1) (by kernel_rfl))) rfl rfl rfl ?_
  refine XD.ld (b := 8) (After.refl _) (SegsOk.cons ((After.refl _)).next (SegsOk.cons ((After.refl _)).next SegsOk.nil)) hkr118 rfl ((((b116).base.snd' (m := 1) rfl (b116).isP)).ldInt vt3) rfl rfl rfl rfl ?_
  refine XD.callV (bb := 31) (After.refl _) (SegsOk.cons ((After.refl _)).next (SegsOk.cons ((After.refl _)).next (SegsOk.cons ((After.refl _)).next SegsOk.nil))) rfl rfl rfl rfl rfl rfl ?_
  intro M120 aM120 oM120
  refine EvF.mono (rCheckRange_ok (aM120.ok hkr118) (aM120.inS hSr118)  ) ?_
  rintro _ _ ⟨rfl, hh⟩
  refine ⟨hh, ?_⟩
  clear hh
  refine XD.lit (b := 63) (h := h116) (S := S) (τ := (.int .i64)) (vsC (RepV.ofInt .i64 _) (vs1 (RepV.ofInt .i64 _))) el22 rfl rfl rfl (by simp) (by simp) (by decide) (hA.ok hok) (hA.inS hS) rfl rfl rfl rfl ?_
  intro w121 h121 s121 a121
  have b116o := b116
  have rg118 : Goes h116 S h116 S := Goes.refl
  have ra118 := After.refl h116
  have ok122 := hA.ok hok
  have gg122 : Goes h116 S h121 S := a121.nx ok122
  replace hA := hA.trans a121
  replace b116 := b116.nx gg122
  replace rg118 := rg118.trans gg122
  have ra118_121 := ra118.trans a121
  refine XD.callV (bb := 127) ra118_121 (SegsOk.cons (ra118).next (SegsOk.cons ((After.refl _)).next (SegsOk.cons ((After.refl _)).next (SegsOk.cons ((After.refl _)).next (SegsOk.cons ((After.refl _)).next SegsOk.nil))))) rfl rfl rfl rfl rfl rfl ?_
  intro M123 aM123 oM123
  obtain rfl := oM123 rfl
  refine EvF.mono (rFirst_ok (hA.ok hok) (hA.inS hS) (s121).entry (by simp)) ?_
  rintro _ _ ⟨rfl, hh⟩
  refine ⟨hh, ?_⟩
  clear hh
  refine XD.c (b := 255) (.assign rfl) rfl rfl rfl ?_
  refine XD.nil (thenC.go ?_)
  refine XC.seq ?_
  refine XC.text ?_
  refine XO.c (.move rfl) rfl rfl ?_
  refine XO.c (.neq rfl rfl) rfl rfl ?_
  refine XO.nil (thenC.go ?_)
  refine XC.condD rfl (fun c2 => ?_) (fun c2 => ?_)
  · refine XC.seq ?_
    refine XC.text ?_
    refine XO.c (.move rfl) rfl rfl ?_
    refine XO.c (.assign rfl) rfl rfl ?_
    refine XO.nil (thenC.go ?_)
    refine XC.ret fun tf htf => ?_
    refine thenC_ret ?_
    refine endF.one rfl rfl (htf 2 _ rfl) ?_
    exact ⟨congrArg (Value.int .i64) (by rw [ratio_two, firstE_app, if_neg c2]), hA.leftAf rfl⟩
  · have hr := ratio_ok (Decidable.not_not.1 c2)
    refine XC.skip (thenC.go ?_)
    refine XC.seq ?_
    refine XC.seq ?_
    refine XC.drawn ?_
    have hkr124 := hA.ok hok
    have hSr124 := (hA.inS hS)
    obtain ⟨u125, e125, r125⟩ := (b116).ldV vt58
    obtain ⟨c126_0, c126_1, rfl, r126_0, r126_1⟩ := r125.st2 rfl rfl
    obtain rfl := r126_0.int
    obtain rfl := r126_1.int
    refine XD.ld (b := 0) (After.refl _) SegsOk.nil hkr124 rfl (e125) rfl rfl rfl rfl ?_
    refine XD.c (b := 0) (.fieldAddr rfl ((b116).fa (f := 0) (k := 0) (by kernel_rfl))) rfl rfl rfl ?_
    refine XD.ld (b := 2) (After.refl _) (SegsOk.cons ((After.refl _)).next SegsOk.nil) hkr124 rfl (((b116).base.fst').ldInt vt3) rfl rfl rfl rfl ?_
    refine XD.c (b := 0) (.fieldAddr rfl ((b116).fa (f := 1) (k := 1) (by kernel_rfl))) rfl rfl rfl ?_
    refine XD.ld (b := 8) (After.refl _) (SegsOk.cons ((After.refl _)).next (SegsOk.cons ((After.refl _)).next SegsOk.nil)) hkr124 rfl ((((b116).base.snd' (m := 1) rfl (b116).isP)).ldInt vt3) rfl rfl rfl rfl ?_
    refine XD.callV (bb := 30) (After.refl _) (SegsOk.cons ((After.refl _)).next (SegsOk.cons ((After.refl _)).next (SegsOk.cons ((After.refl _)).next SegsOk.nil))) rfl rfl rfl rfl rfl rfl ?_
    intro M127 aM127 oM127
    refine EvF.mono (rLowest_ok (aM127.ok hkr124) (aM127.inS hSr124)  (by omega) (by omega)) ?_
    rintro _ _ ⟨rfl, hh⟩
    refine ⟨hh, ?_⟩
    clear hh
    refine XD.c (b := 63) (.neII (by kernel_rfl) rfl rfl) rfl rfl rfl ?_
    refine XD.nil (thenC.go ?_)
    refine XC.condD rfl (fun c4 => ?_) (fun c4 => ?_)
    · refine XC.seq ?_
      refine XC.text ?_
      refine XO.c (.assign rfl) rfl rfl ?_
      refine XO.nil (thenC.go ?_)
      refine XC.ret fun tf htf => ?_
      refine thenC_ret ?_
      refine endF.one rfl rfl (htf 2 _ rfl) ?_
      exact ⟨congrArg (Value.int .i64) (by rw [ratio_two, firstE_app, if_pos (Decidable.not_not.1 c2), firstE_one, whenE_t (fun h => c4 ((low_eq (by omega)).2 h))]), hA.leftAf rfl⟩
    · refine XC.skip (thenC.go ?_)
      refine XC.seq ?_
      refine XC.text ?_
      refine XO.c (.assign rfl) rfl rfl ?_
      refine XO.nil (thenC.go ?_)
      refine XC.ret fun tf htf => ?_
      refine endF.one rfl rfl (htf 2 _ rfl) ?_
      exact ⟨congrArg (Value.int .i64) (by rw [ratio_two, firstE_app, if_pos (Decidable.not_not.1 c2), firstE_one, whenE_f (fun h => h ((low_eq (by omega)).1 (Decidable.not_not.1 c4)))]), hA.leftAf rfl⟩
def spanE (s : Int × Int) (n : Int) : Int := if s.1 < 0 ∨ s.2 < s.1 ∨ n < s.2 then 14 else 0
theorem rSpan_ok {h : Heap} {S : List Nat} {s : Int × Int} {n : Int} (hok : HOk h) (hS : ∀ b ∈ S, b < h.next) : EvF Tryz.prog OA 41 [.agg #[.int .i64 s.1, .int .i64 s.2], .int .i64 n] h fun r h' => r = .int .i64 (spanE s n) ∧ h' = h := by
  refine XF.enter Tryz.func41 rfl rfl rfl ?_
  have hok : HOk (entry h) := hok
  have hA := After.refl (entry h)
  show XC Tryz.prog OA none _ _ [] [(0, .agg #[.int .i64 s.1, .int .i64 s.2]), (1, .int .i64 n)] (entry h) _
  refine XC.seq ?_
  refine XC.text ?_
  refine XO.boxR rfl (RepV.mk2 (a := (.int .i64)) (b := (.int .i64)) (x := s) (RepV.ofInt .i64 _) (RepV.ofInt .i64 _) rfl rfl) (hA.ok hok) (hA.inS hS) rfl rfl ?_
  intro p128 h128 b128 a128
  have ok129 := hA.ok hok
  have gg129 : Goes (entry h) S h128 S := a128.nx ok129
  replace hA := hA.trans a128
  refine XO.c (.assign rfl) rfl rfl ?_
  refine XO.nil (thenC.go ?_)
  refine XC.seq ?_
  refine XC.seq ?_
  refine XC.text ?_
  refine XO.c (.fieldAddr rfl ((b128).fa (f := 0) (k := 0) (by kernel_rfl))) rfl rfl ?_
  refine XO.r (.load rfl (((b128).base.fst').ldInt vt3)) rfl rfl ?_
  refine XO.c (.lss rfl rfl) rfl rfl ?_
  refine XO.c (.move rfl) rfl rfl ?_
  refine XO.splitD (x := 8) rfl (fun g1_3 => ?_) (fun g1_3 => ?_)
  · refine XO.skip rfl rfl rfl rfl rfl ?_
    refine XO.skip rfl rfl rfl rfl rfl ?_
    refine XO.skip rfl rfl rfl rfl rfl ?_
    refine XO.skip rfl rfl rfl rfl rfl ?_
    refine XO.skip rfl rfl rfl rfl rfl ?_
    refine XO.c (.pickT rfl rfl) rfl rfl ?_
    refine XO.c (.move rfl) rfl rfl ?_
    refine XO.skip rfl rfl rfl rfl rfl ?_
    refine XO.skip rfl rfl rfl rfl rfl ?_
    refine XO.skip rfl rfl rfl rfl rfl ?_
    refine XO.skip rfl rfl rfl rfl rfl ?_
    refine XO.c (.pickT rfl rfl) rfl rfl ?_
    refine XO.nil (thenC.go ?_)
    refine XC.condT rfl ?_
    refine XC.seq ?_
    refine XC.text ?_
    refine XO.c (.assign rfl) rfl rfl ?_
    refine XO.nil (thenC.go ?_)
    refine XC.ret fun tf htf => ?_
    refine thenC_ret ?_
    refine endF.one rfl rfl (htf 4 _ rfl) ?_
    exact ⟨congrArg (Value.int .i64) (by first | rw [spanE, if_pos (by omega)] | rw [spanE, if_neg (by omega)]), hA.leftAf rfl⟩
  · refine XO.gc rfl rfl rfl (.fieldAddr rfl ((b128).fa (f := 0) (k := 0) (by kernel_rfl))) rfl rfl ?_
    refine XO.gr rfl rfl rfl (.load rfl (((b128).base.fst').ldInt vt3)) rfl rfl ?_
    refine XO.gc rfl rfl rfl (.fieldAddr rfl ((b128).fa (f := 1) (k := 1) (by kernel_rfl))) rfl rfl ?_
    refine XO.gr rfl rfl rfl (.load rfl ((((b128).base.snd' (m := 1) rfl (b128).isP)).ldInt vt3)) rfl rfl ?_
    refine XO.gc rfl rfl rfl (.gtr rfl rfl) rfl rfl ?_
    refine XO.c (.pickF rfl rfl) rfl rfl ?_
    refine XO.c (.move rfl) rfl rfl ?_
    refine XO.splitD (x := 15) rfl (fun g1_10 => ?_) (fun g1_10 => ?_)
    · refine XO.skip rfl rfl rfl rfl rfl ?_
      refine XO.skip rfl rfl rfl rfl rfl ?_
      refine XO.skip rfl rfl rfl rfl rfl ?_
      refine XO.skip rfl rfl rfl rfl rfl ?_
      refine XO.c (.pickT rfl rfl) rfl rfl ?_
      refine XO.nil (thenC.go ?_)
      refine XC.condT rfl ?_
      refine XC.seq ?_
      refine XC.text ?_
      refine XO.c (.assign rfl) rfl rfl ?_
      refine XO.nil (thenC.go ?_)
      refine XC.ret fun tf htf => ?_
      refine thenC_ret ?_
      refine endF.one rfl rfl (htf 4 _ rfl) ?_
      exact ⟨congrArg (Value.int .i64) (by first | rw [spanE, if_pos (by omega)] | rw [spanE, if_neg (by omega)]), hA.leftAf rfl⟩
    · refine XO.gc rfl rfl rfl (.fieldAddr rfl ((b128).fa (f := 1) (k := 1) (by kernel_rfl))) rfl rfl ?_
      refine XO.gr rfl rfl rfl (.load rfl ((((b128).base.snd' (m := 1) rfl (b128).isP)).ldInt vt3)) rfl rfl ?_
      refine XO.gc rfl rfl rfl (.move rfl) rfl rfl ?_
      refine XO.gc rfl rfl rfl (.gtr rfl rfl) rfl rfl ?_
      refine XO.c (.pickF rfl rfl) rfl rfl ?_
      refine XO.nil (thenC.go ?_)
      refine XC.condD rfl (fun c1 => ?_) (fun c1 => ?_)
      · refine XC.seq ?_
        refine XC.text ?_
        refine XO.c (.assign rfl) rfl rfl ?_
        refine XO.nil (thenC.go ?_)
        refine XC.ret fun tf htf => ?_
        refine thenC_ret ?_
        refine endF.one rfl rfl (htf 4 _ rfl) ?_
        exact ⟨congrArg (Value.int .i64) (by first | rw [spanE, if_pos (by omega)] | rw [spanE, if_neg (by omega)]), hA.leftAf rfl⟩
      · refine XC.skip (thenC.go ?_)
        refine XC.seq ?_
        refine XC.text ?_
        refine XO.c (.assign rfl) rfl rfl ?_
        refine XO.nil (thenC.go ?_)
        refine XC.ret fun tf htf => ?_
        refine endF.one rfl rfl (htf 4 _ rfl) ?_
        exact ⟨congrArg (Value.int .i64) (by first | rw [spanE, if_pos (by omega)] | rw [spanE, if_neg (by omega)]), hA.leftAf rfl⟩
def shareE (r : Int × Int) : Int := firstE [ratioE r, whenE (decide (r.1 < 0 ∨ r.2 < r.1)) 3]
theorem rShare_ok {h : Heap} {S : List Nat} {q : Int × Int} (hok : HOk h) (hS : ∀ b ∈ S, b < h.next) : EvF Tryz.prog OA 43 [.agg #[.int .i64 q.1, .int .i64 q.2]] h fun r h' => r = .int .i64 (shareE q) ∧ h' = h := by
  refine XF.enter Tryz.func43 rfl rfl rfl ?_
  have hok : HOk (entry h) := hok
  have hA := After.refl (entry h)
  show XC Tryz.prog OA none _ _ [] [(0, .agg #[.int .i64 q.1, .int .i64 q.2])] (entry h) _
  refine XC.seq ?_
  refine XC.text ?_
  refine XO.boxR rfl (RepV.mk2 (a := (.int .i64)) (b := (.int .i64)) (x := q) (RepV.ofInt .i64 _) (RepV.ofInt .i64 _) rfl rfl) (hA.ok hok) (hA.inS hS) rfl rfl ?_
  intro p130 h130 b130 a130
  have ok131 := hA.ok hok
  have gg131 : Goes (entry h) S h130 S := a130.nx ok131
  replace hA := hA.trans a130
  refine XO.c (.assign rfl) rfl rfl ?_
  refine XO.nil (thenC.go ?_)
  refine XC.seq ?_
  refine XC.seq ?_
  refine XC.text ?_
  obtain ⟨u132, e132, r132⟩ := (b130).ldV vt58
  obtain ⟨c133_0, c133_1, rfl, r133_0, r133_1⟩ := r132.st2 rfl rfl
  obtain rfl := r133_0.int
  obtain rfl := r133_1.int
  refine XO.r (.load rfl (e132)) rfl rfl ?_
  refine XO.call rfl rfl rfl rfl ?_
  refine EvF.mono (rRatio_ok (hA.ok hok) (hA.inS hS)  ) ?_
  rintro _ _ ⟨rfl, hh⟩
  obtain rfl := hh.symm
  clear hh
  refine XO.c (.assign rfl) rfl rfl ?_
  refine XO.nil (thenC.go ?_)
  refine XC.seq ?_
  refine XC.text ?_
  refine XO.c (.move rfl) rfl rfl ?_
  refine XO.c (.neq rfl rfl) rfl rfl ?_
  refine XO.nil (thenC.go ?_)
  refine XC.condD rfl (fun c2 => ?_) (fun c2 => ?_)
  · refine XC.seq ?_
    refine XC.text ?_
    refine XO.c (.move rfl) rfl rfl ?_
    refine XO.c (.assign rfl) rfl rfl ?_
    refine XO.nil (thenC.go ?_)
    refine XC.ret fun tf htf => ?_
    refine thenC_ret ?_
    refine endF.one rfl rfl (htf 2 _ rfl) ?_
    exact ⟨congrArg (Value.int .i64) (by rw [shareE, firstE, if_neg c2]), hA.leftAf rfl⟩
  · refine XC.skip (thenC.go ?_)
    refine XC.seq ?_
    refine XC.seq ?_
    refine XC.text ?_
    refine XO.c (.fieldAddr rfl ((b130).fa (f := 0) (k := 0) (by kernel_rfl))) rfl rfl ?_
    refine XO.r (.load rfl (((b130).base.fst').ldInt vt3)) rfl rfl ?_
    refine XO.c (.lss rfl rfl) rfl rfl ?_
    refine XO.c (.move rfl) rfl rfl ?_
    refine XO.splitD (x := 12) rfl (fun g4_3 => ?_) (fun g4_3 => ?_)
    · refine XO.skip rfl rfl rfl rfl rfl ?_
      refine XO.skip rfl rfl rfl rfl rfl ?_
      refine XO.skip rfl rfl rfl rfl rfl ?_
      refine XO.skip rfl rfl rfl rfl rfl ?_
      refine XO.skip rfl rfl rfl rfl rfl ?_
      refine XO.c (.pickT rfl rfl) rfl rfl ?_
      refine XO.nil (thenC.go ?_)
      refine XC.condT rfl ?_
      refine XC.seq ?_
      refine XC.text ?_
      refine XO.c (.assign rfl) rfl rfl ?_
      refine XO.nil (thenC.go ?_)
      refine XC.ret fun tf htf => ?_
      refine thenC_ret ?_
      refine endF.one rfl rfl (htf 2 _ rfl) ?_
      exact ⟨congrArg (Value.int .i64) (by rw [shareE, firstE, if_pos (by first | exact Decidable.not_not.1 c2 | simpa using c2), firstE_one]; first | rw [whenE_t (by omega)] | rw [whenE_f (by omega)]), hA.leftAf rfl⟩
    · refine XO.gc rfl rfl rfl (.fieldAddr rfl ((b130).fa (f := 0) (k := 0) (by kernel_rfl))) rfl rfl ?_
      refine XO.gr rfl rfl rfl (.load rfl (((b130).base.fst').ldInt vt3)) rfl rfl ?_
      refine XO.gc rfl rfl rfl (.fieldAddr rfl ((b130).fa (f := 1) (k := 1) (by kernel_rfl))) rfl rfl ?_
      refine XO.gr rfl rfl rfl (.load rfl ((((b130).base.snd' (m := 1) rfl (b130).isP)).ldInt vt3)) rfl rfl ?_
      refine XO.gc rfl rfl rfl (.gtr rfl rfl) rfl rfl ?_
      refine XO.c (.pickF rfl rfl) rfl rfl ?_
      refine XO.nil (thenC.go ?_)
      refine XC.condD rfl (fun c4 => ?_) (fun c4 => ?_)
      · refine XC.seq ?_
        refine XC.text ?_
        refine XO.c (.assign rfl) rfl rfl ?_
        refine XO.nil (thenC.go ?_)
        refine XC.ret fun tf htf => ?_
        refine thenC_ret ?_
        refine endF.one rfl rfl (htf 2 _ rfl) ?_
        exact ⟨congrArg (Value.int .i64) (by rw [shareE, firstE, if_pos (by first | exact Decidable.not_not.1 c2 | simpa using c2), firstE_one]; first | rw [whenE_t (by omega)] | rw [whenE_f (by omega)]), hA.leftAf rfl⟩
      · refine XC.skip (thenC.go ?_)
        refine XC.seq ?_
        refine XC.text ?_
        refine XO.c (.assign rfl) rfl rfl ?_
        refine XO.nil (thenC.go ?_)
        refine XC.ret fun tf htf => ?_
        refine endF.one rfl rfl (htf 2 _ rfl) ?_
        exact ⟨congrArg (Value.int .i64) (by rw [shareE, firstE, if_pos (by first | exact Decidable.not_not.1 c2 | simpa using c2), firstE_one]; first | rw [whenE_t (by omega)] | rw [whenE_f (by omega)]), hA.leftAf rfl⟩
/-! ## Weights -/
def weightE (F : Int × List Int → Bool) (l : List (Int × List Int)) : Int := ((l.filter F).map fun c => c.1).sum
theorem weight_succ {F : Int × List Int → Bool} {l : List (Int × List Int)} {j : Nat} (hj : j < l.length) : weightE F (l.take (j + 1)) = weightE F (l.take j) + if F l[j] = true then l[j].1 else 0 := by
  unfold weightE
  rw [List.take_succ_eq_append_getElem hj, List.filter_append, List.map_append, List.sum_append, List.filter_cons, List.filter_nil]
  split <;> simp
theorem weight_bound {F : Int × List Int → Bool} : ∀ {l : List (Int × List Int)}, (∀ c ∈ l, 1 ≤ c.1 ∧ c.1 ≤ 1000) → 0 ≤ weightE F l ∧ weightE F l ≤ 1000 * (l.length : Nat)
  | [], _ => by simp [weightE]
  | c :: l, h => by
    have h1 := h c List.mem_cons_self
    have h2 := weight_bound (F := F) (l := l) fun x hx => h x (List.mem_cons_of_mem _ hx)
    unfold weightE at h2 ⊢
    rw [List.filter_cons, List.length_cons]
    split
    · rw [List.map_cons, List.sum_cons]; omega
    · omega
theorem take_all {α : Type} {p : α → Prop} {l : List α} (h : ∀ c ∈ l, p c) (j : Nat) : ∀ c ∈ l.take j, p c := fun c hc => h c (List.mem_of_mem_take hc)
theorem weight_bound' {F : Int × List Int → Bool} {l : List (Int × List Int)} (h : ∀ c ∈ l, 1 ≤ c.1 ∧ c.1 ≤ 1000) (j : Nat) : 0 ≤ weightE F (l.take j) ∧ weightE F (l.take j) ≤ 1000 * (j : Nat) := by
  have := weight_bound (F := F) (take_all h j)
  rw [List.length_take] at this
  omega
theorem sWeight_ok {h : Heap} {S : List Nat} {v0 : Value} {l : List (Int × (List Int))} {f_f : FuncId} {f_a f_b : Array Value} {F : Int × List Int → Bool} (hok : HOk h) (hS : ∀ b ∈ S, b < h.next) (ha0 : SlV h S (.pair (.int .i64) (.sl (.int .i64))) v0 l) (hl : l.length < 100000) (hw1 : ∀ c ∈ l, 1 ≤ c.1 ∧ c.1 ≤ 1000) (hf : ∀ {h2 : Heap} {S2 : List Nat} {v : Value} {x : Int × List Int}, HOk h2 → (∀ b ∈ S2, b < h2.next) → RepV h2 S2 (.pair (.int .i64) (.sl (.int .i64))) v x → After h h2 → x ∈ l → EvF Tryz.prog OA f_f (f_a.toList ++ [v] ++ f_b.toList) h2 fun r h' => r = .bool (F x) ∧ h' = h2) : EvF Tryz.prog OA 114 [v0, .func (.func f_f) f_a f_b] h fun r h' => r = .int .i64 (weightE F l) ∧ h' = h := by
  refine XF.enter Tryz.func114 rfl rfl rfl ?_
  have hok : HOk (entry h) := hok
  have hA := After.refl (entry h)
  replace ha0 := ha0.entry
  show XC Tryz.prog OA none _ _ [] [(0, v0), (1, .func (.func f_f) f_a f_b)] (entry h) _
  refine XC.seq ?_
  refine XC.text ?_
  refine XO.c (.assign rfl) rfl rfl ?_
  refine XO.nil (thenC.go ?_)
  refine XC.seq ?_
  refine XC.text ?_
  refine XO.c (.assign rfl) rfl rfl ?_
  refine XO.nil (thenC.go ?_)
  refine XC.seq ?_
  refine XC.seq ?_
  refine XC.text ?_
  refine XO.c (.move rfl) rfl rfl ?_
  refine XO.a (.len rfl (ha0.len el64)) rfl rfl ?_
  refine XO.c (.move rfl) rfl rfl ?_
  refine XO.nil (thenC.go ?_)
  refine XC.block ?_
  have hAL135 := hA
  have hkL135 := hA.ok hok
  have hSL135 := (hA.inS hS)
  refine XC.keep [(1, .func (.func f_f) f_a f_b), (5, .int .i64 (weightE F (l.take 0))), (8, v0), (9, .int .i64 ((l.length : Nat) : Int)), (10, .int .i64 ((0 : Nat) : Int))] ⟨rfl, (congrArg (fun z => some z) (by rfl)), rfl, rfl, rfl, trivial⟩ ?_
  refine XC.loopI (I := fun (kk : Nat) (ff : FL) (hh : Heap) => ∃ (j : Nat), kk = l.length - j ∧ ff = [(1, .func (.func f_f) f_a f_b), (5, .int .i64 (weightE F (l.take j))), (8, v0), (9, .int .i64 ((l.length : Nat) : Int)), (10, .int .i64 ((j : Nat) : Int))] ∧ After (entry h) hh ∧ After (entry h) hh ∧ Goes (entry h) S hh S ∧ (j ≤ l.length)) ?_ _ _ _ ⟨0, rfl, rfl, hA, After.refl _, Goes.refl, (by omega)⟩
  clear hA
  rintro kk ff hh135 ⟨j, hk135, rfl, hA, aL135, nL135, hj⟩
  replace ha0 := ha0.nx nL135
  refine XC.seq ?_
  refine XC.text ?_
  refine XO.c (.lss rfl rfl) rfl rfl ?_
  refine XO.nil (thenC.go ?_)
  refine XC.seq ?_
  refine XC.condD rfl (fun c3 => ?_) (fun c3 => ?_)
  · refine XC.skip (thenC.go ?_)
    refine XC.seq ?_
    refine XC.block ?_
    refine XC.seq ?_
    refine XC.text ?_
    refine XO.c (.indexAddr rfl rfl rfl (ha0.ix (j := j) el64 (by omega))) rfl rfl ?_
    obtain ⟨u136, e136, r136⟩ := ((ha0.at (j := j) (by omega))).ldV vt89
    obtain ⟨c137_0, c137_1, rfl, r137_0, r137_1⟩ := r136.st2 rfl rfl
    obtain rfl := r137_0.int
    replace r137_1 := r137_1.sl
    refine XO.r (.load rfl (e136)) rfl rfl ?_
    refine XO.allocP (S := S) (z := .agg #[.int .i64 0, .slice none 0 0]) (by kernel_rfl) rfl rfl aL135 hkL135 (hA.inS hS) rfl rfl ?_
    intro p138 h138 b138 a138 gs138
    have ok139 := hA.ok hok
    have gg139 : Goes hh135 S h138 (ownP p138 ++ S) := gs138
    replace hA := hA.trans a138
    replace aL135 := aL135.trans a138
    replace nL135 := nL135.trans gg139
    replace ha0 := ha0.nx gg139
    replace r137_1 := r137_1.nx gg139
    refine XO.stP (S := S) (h0 := (entry h)) (τ := (.pair (.int .i64) (.sl (.int .i64)))) rfl rfl b138 (RepV.mk2 (a := (.int .i64)) (b := (.sl (.int .i64))) (x := l[j]) (RepV.ofInt .i64 _) (r137_1).rep rfl rfl) vt89 aL135 ?_
    intro h140 b140 a140 gs140 nx140 fr140
    have ok141 := hA.ok hok
    have gg141 : Goes h138 (ownP p138 ++ S) h140 S := gs140
    replace hA := hAL135.trans a140
    replace aL135 := a140
    replace nL135 := nL135.trans gg141
    replace ha0 := ha0.nx gg141
    replace r137_1 := r137_1.nx gg141
    refine XO.nil (thenC.go ?_)
    refine XC.seq ?_
    refine XC.text ?_
    have hb := weight_bound' (F := F) hw1 j
    have hc := hw1 _ (List.getElem_mem (show j < l.length by omega))
    refine XO.c (.move rfl) rfl rfl ?_
    obtain ⟨u142, e142, r142⟩ := (b140).ldV vt89
    obtain ⟨c143_0, c143_1, rfl, r143_0, r143_1⟩ := r142.st2 rfl rfl
    obtain rfl := r143_0.int
    replace r143_1 := r143_1.sl
    refine XO.r (.load rfl (e142)) rfl rfl ?_
    refine XO.call rfl rfl rfl rfl ?_
    refine EvF.mono (hf (hA.ok hok) (hA.inS hS) (RepV.mk2 (a := (.int .i64)) (b := (.sl (.int .i64))) (x := l[j]) (RepV.ofInt .i64 _) (r143_1).rep rfl rfl) hA.ofEntry (List.getElem_mem _)) ?_
    rintro _ _ ⟨rfl, hh⟩
    obtain rfl := hh.symm
    clear hh
    refine XO.nil (thenC.go ?_)
    refine XC.condB rfl (fun c5 => ?_) (fun c5 => ?_)
    · refine XC.text ?_
      refine XO.c (.move rfl) rfl rfl ?_
      refine XO.c (.fieldAddr rfl ((b140).fa (f := 0) (k := 0) (by kernel_rfl))) rfl rfl ?_
      refine XO.r (.load rfl (((b140).base.fst').ldInt vt3)) rfl rfl ?_
      refine XO.c (.add rfl rfl (by omega)) rfl rfl ?_
      refine XO.c (.assign rfl) rfl rfl ?_
      refine XO.nil ?_
      intro tf htf
      refine inBlock_nrm ?_
      refine thenC.go ?_ tf htf
      refine XC.text ?_
      refine XO.c (.add rfl rfl (by omega)) rfl rfl ?_
      refine XO.c (.move rfl) rfl rfl ?_
      refine XO.nil ?_
      intro tf htf
      refine ⟨rfl, rfl, _, [(1, .func (.func f_f) f_a f_b), (5, .int .i64 (weightE F (l.take (j + 1)))), (8, v0), (9, .int .i64 ((l.length : Nat) : Int)), (10, .int .i64 (((j + 1) : Nat) : Int))], ?_, htf.keep _ ⟨rfl, (congrArg (fun z => some z) (by rw [weight_succ (by omega)]; first | rw [if_pos c5] | (rw [if_neg (by rw [c5]; decide)]; simp))), rfl, rfl, rfl, trivial⟩, (j + 1), rfl, rfl, hA, aL135, nL135, (by omega)⟩
      omega
    · refine XC.skip ?_
      intro tf htf
      refine inBlock_nrm ?_
      refine thenC.go ?_ tf htf
      refine XC.text ?_
      refine XO.c (.add rfl rfl (by omega)) rfl rfl ?_
      refine XO.c (.move rfl) rfl rfl ?_
      refine XO.nil ?_
      intro tf htf
      refine ⟨rfl, rfl, _, [(1, .func (.func f_f) f_a f_b), (5, .int .i64 (weightE F (l.take (j + 1)))), (8, v0), (9, .int .i64 ((l.length : Nat) : Int)), (10, .int .i64 (((j + 1) : Nat) : Int))], ?_, htf.keep _ ⟨rfl, (congrArg (fun z => some z) (by rw [weight_succ (by omega)]; first | rw [if_pos c5] | (rw [if_neg (by rw [c5]; decide)]; simp))), rfl, rfl, rfl, trivial⟩, (j + 1), rfl, rfl, hA, aL135, nL135, (by omega)⟩
      omega
  · refine XC.exit ?_
    intro tf htf
    refine thenC_exit ?_
    refine loopQ_exit ?_
    refine inBlock_eq ?_
    refine thenC.go ?_ tf htf
    refine XC.seq ?_
    refine XC.text ?_
    refine XO.c (.move rfl) rfl rfl ?_
    refine XO.c (.assign rfl) rfl rfl ?_
    refine XO.nil (thenC.go ?_)
    refine XC.ret fun tf htf => ?_
    refine endF.one rfl rfl (htf 4 _ rfl) ?_
    exact ⟨congrArg (Value.int .i64) (by rw [List.take_of_length_le (by omega)]), hA.leftAf rfl⟩
theorem sAll_ok {h : Heap} {S : List Nat} {v0 : Value} {c : Int × (List Int)} (hok : HOk h) (hS : ∀ b ∈ S, b < h.next) (ha0 : RepV h S (.pair (.int .i64) (.sl (.int .i64))) v0 c) : EvF Tryz.prog OA 115 [v0] h fun r h' => r = .bool true ∧ h' = h := by
  refine XF.enter Tryz.func115 rfl rfl rfl ?_
  have hok : HOk (entry h) := hok
  have hA := After.refl (entry h)
  replace ha0 := ha0.entry
  show XC Tryz.prog OA none _ _ [] [(0, v0)] (entry h) _
  refine XC.seq ?_
  refine XC.text ?_
  refine XO.boxR rfl ha0 (hA.ok hok) (hA.inS hS) rfl rfl ?_
  intro p145 h145 b145 a145
  have ok146 := hA.ok hok
  have gg146 : Goes (entry h) S h145 S := a145.nx ok146
  replace hA := hA.trans a145
  replace ha0 := ha0.nx gg146
  refine XO.c (.assign rfl) rfl rfl ?_
  refine XO.nil (thenC.go ?_)
  refine XC.seq ?_
  refine XC.text ?_
  refine XO.c (.assign rfl) rfl rfl ?_
  refine XO.nil (thenC.go ?_)
  refine XC.ret fun tf htf => ?_
  refine endF.one rfl rfl (htf 2 _ rfl) ?_
  exact ⟨congrArg Value.bool (by first | rfl | simp), hA.leftAf rfl⟩
theorem rTotal_ok {h : Heap} {S : List Nat} {v0 : Value} {l : List (Int × (List Int))} (hok : HOk h) (hS : ∀ b ∈ S, b < h.next) (ha0 : SlV h S (.pair (.int .i64) (.sl (.int .i64))) v0 l) (hl : l.length < 100000) (hw1 : ∀ c ∈ l, 1 ≤ c.1 ∧ c.1 ≤ 1000) : EvF Tryz.prog OA 123 [v0] h fun r h' => r = .int .i64 (weightE (fun _ => true) l) ∧ h' = h := by
  refine XF.enter Tryz.func123 rfl rfl rfl ?_
  have hok : HOk (entry h) := hok
  have hA := After.refl (entry h)
  replace ha0 := ha0.entry
  show XC Tryz.prog OA none _ _ [] [(0, v0)] (entry h) _
  refine XC.seq ?_
  refine XC.text ?_
  refine XO.c (.assign rfl) rfl rfl ?_
  refine XO.nil (thenC.go ?_)
  refine XC.seq ?_
  refine XC.text ?_
  refine XO.c (.assign rfl) rfl rfl ?_
  refine XO.nil (thenC.go ?_)
  refine XC.seq ?_
  refine XC.seq ?_
  refine XC.text ?_
  refine XO.c (.assign rfl) rfl rfl ?_
  refine XO.nil (thenC.go ?_)
  refine XC.block ?_
  have hAL147 := hA
  have hkL147 := hA.ok hok
  have hSL147 := (hA.inS hS)
  refine XC.keep [(0, v0), (3, .int .i64 (weightE (fun _ => true) (l.take 0))), (4, .int .i64 ((0 : Nat) : Int))] ⟨rfl, (congrArg (fun z => some z) (by rfl)), rfl, trivial⟩ ?_
  refine XC.loopI (I := fun (kk : Nat) (ff : FL) (hh : Heap) => ∃ (j : Nat), kk = l.length - j ∧ ff = [(0, v0), (3, .int .i64 (weightE (fun _ => true) (l.take j))), (4, .int .i64 ((j : Nat) : Int))] ∧ After (entry h) hh ∧ After (entry h) hh ∧ Goes (entry h) S hh S ∧ (j ≤ l.length)) ?_ _ _ _ ⟨0, rfl, rfl, hA, After.refl _, Goes.refl, (by omega)⟩
  clear hA
  rintro kk ff hh147 ⟨j, hk147, rfl, hA, aL147, nL147, hj⟩
  replace ha0 := ha0.nx nL147
  refine XC.seq ?_
  refine XC.seq ?_
  refine XC.text ?_
  refine XO.c (.move rfl) rfl rfl ?_
  refine XO.c (.move rfl) rfl rfl ?_
  refine XO.a (.len rfl (ha0.len el54)) rfl rfl ?_
  refine XO.c (.lss rfl rfl) rfl rfl ?_
  refine XO.nil (thenC.go ?_)
  refine XC.condD rfl (fun c3 => ?_) (fun c3 => ?_)
  · refine XC.skip (thenC.go ?_)
    refine XC.seq ?_
    refine XC.block ?_
    refine XC.text ?_
    have hb := weight_bound' (F := fun _ => true) hw1 j
    have hc := hw1 _ (List.getElem_mem (show j < l.length by omega))
    refine XO.c (.move rfl) rfl rfl ?_
    refine XO.c (.move rfl) rfl rfl ?_
    refine XO.c (.move rfl) rfl rfl ?_
    refine XO.c (.indexAddr rfl rfl rfl (ha0.ix (j := j) el54 (by omega))) rfl rfl ?_
    refine XO.c (.fieldAddr rfl (((ha0.at (j := j) (by omega))).fa (f := 0) (k := 0) (by kernel_rfl))) rfl rfl ?_
    refine XO.r (.load rfl ((((ha0.at (j := j) (by omega))).base.fst').ldInt vt3)) rfl rfl ?_
    refine XO.c (.add rfl rfl (by omega)) rfl rfl ?_
    refine XO.c (.assign rfl) rfl rfl ?_
    refine XO.nil ?_
    intro tf htf
    refine inBlock_nrm ?_
    refine thenC.go ?_ tf htf
    refine XC.text ?_
    refine XO.c (.move rfl) rfl rfl ?_
    refine XO.c (.add rfl rfl (by omega)) rfl rfl ?_
    refine XO.c (.assign rfl) rfl rfl ?_
    refine XO.nil ?_
    intro tf htf
    refine ⟨rfl, rfl, _, [(0, v0), (3, .int .i64 (weightE (fun _ => true) (l.take (j + 1)))), (4, .int .i64 (((j + 1) : Nat) : Int))], ?_, htf.keep _ ⟨rfl, (congrArg (fun z => some z) (by rw [weight_succ (by omega)]; simp)), rfl, trivial⟩, (j + 1), rfl, rfl, hA, aL147, nL147, (by omega)⟩
    omega
  · refine XC.exit ?_
    intro tf htf
    refine thenC_exit ?_
    refine loopQ_exit ?_
    refine inBlock_eq ?_
    refine thenC.go ?_ tf htf
    refine XC.seq ?_
    refine XC.text ?_
    refine XO.c (.move rfl) rfl rfl ?_
    refine XO.c (.assign rfl) rfl rfl ?_
    refine XO.nil (thenC.go ?_)
    refine XC.ret fun tf htf => ?_
    refine endF.one rfl rfl (htf 2 _ rfl) ?_
    exact ⟨congrArg (Value.int .i64) (by rw [List.take_of_length_le (by omega)]), hA.leftAf rfl⟩
end Go.Proofs
namespace Go.Proofs
open Go.Fs
set_option linter.unusedVariables false

def idxE (F : Int → Bool) : List Int → Int → Int
  | [], _ => -1
  | x :: l, k => if F x = true then k else idxE F l (k + 1)
theorem idxE_drop {F : Int → Bool} {l : List Int} {j : Nat} (hj : j < l.length) : idxE F (l.drop j) (j : Nat) = if F l[j] = true then ((j : Nat) : Int) else idxE F (l.drop (j + 1)) ((j + 1 : Nat) : Int) := by
  rw [List.drop_eq_getElem_cons hj]; rfl
theorem idxE_end {F : Int → Bool} {l : List Int} {j : Nat} {k : Int} (hj : l.length ≤ j) : idxE F (l.drop j) k = -1 := by rw [List.drop_eq_nil_of_le hj]; rfl
theorem idxE_any {F : Int → Bool} : ∀ {l : List Int} {k : Int}, 0 ≤ k → ((0 ≤ idxE F l k) ↔ l.any F = true)
  | [], k, _ => by simp [idxE]
  | x :: l, k, h => by
    unfold idxE
    rw [List.any_cons]
    by_cases hx : F x = true
    · rw [if_pos hx, hx]; simp [h]
    · rw [if_neg hx, idxE_any (l := l) (by omega)]; simp [hx]
theorem zIndexF_ok {h : Heap} {S : List Nat} {v0 : Value} {l : List Int} {f_f : FuncId} {f_a f_b : Array Value} {F : Int → Bool} (hok : HOk h) (hS : ∀ b ∈ S, b < h.next) (ha0 : SlV h S (.int .i64) v0 l) (hl : l.length < 100000) (hf : ∀ {h2 : Heap} {S2 : List Nat} {x : Int}, HOk h2 → (∀ b ∈ S2, b < h2.next) → After h h2 → x ∈ l → EvF Tryz.prog OA f_f (f_a.toList ++ [.int .i64 x] ++ f_b.toList) h2 fun r h' => r = .bool (F x) ∧ h' = h2) : EvF Tryz.prog OA 160 [v0, .func (.func f_f) f_a f_b] h fun r h' => r = .int .i64 (idxE F l 0) ∧ h' = h := by
  refine XF.enter Tryz.func160 rfl rfl rfl ?_
  have hok : HOk (entry h) := hok
  have hA := After.refl (entry h)
  replace ha0 := ha0.entry
  show XC Tryz.prog OA none _ _ [] [(0, v0), (1, .func (.func f_f) f_a f_b)] (entry h) _
  refine XC.seq ?_
  refine XC.text ?_
  refine XO.c (.assign rfl) rfl rfl ?_
  refine XO.nil (thenC.go ?_)
  refine XC.seq ?_
  refine XC.seq ?_
  refine XC.text ?_
  refine XO.c (.move rfl) rfl rfl ?_
  refine XO.a (.len rfl (ha0.len el22)) rfl rfl ?_
  refine XO.c (.move rfl) rfl rfl ?_
  refine XO.nil (thenC.go ?_)
  refine XC.block ?_
  have hAL101 := hA
  have hkL101 := hA.ok hok
  have hSL101 := (hA.inS hS)
  refine XC.keep [(0, v0), (1, .func (.func f_f) f_a f_b), (7, .int .i64 ((l.length : Nat) : Int)), (8, .int .i64 ((0 : Nat) : Int))] ⟨rfl, rfl, rfl, rfl, trivial⟩ ?_
  refine XC.loopI (I := fun (kk : Nat) (ff : FL) (hh : Heap) => ∃ (j : Nat), kk = l.length - j ∧ ff = [(0, v0), (1, .func (.func f_f) f_a f_b), (7, .int .i64 ((l.length : Nat) : Int)), (8, .int .i64 ((j : Nat) : Int))] ∧ After (entry h) hh ∧ After (entry h) hh ∧ Goes (entry h) S hh S ∧ (j ≤ l.length) ∧ (idxE F l 0 = idxE F (l.drop j) (j : Nat))) ?_ _ _ _ ⟨0, rfl, rfl, hA, After.refl _, Goes.refl, (by omega), (by rfl)⟩
  clear hA
  rintro kk ff hh101 ⟨j, hk101, rfl, hA, aL101, nL101, hj, hi⟩
  replace ha0 := ha0.nx nL101
  refine XC.seq ?_
  refine XC.text ?_
  refine XO.c (.lss rfl rfl) rfl rfl ?_
  refine XO.nil (thenC.go ?_)
  refine XC.seq ?_
  refine XC.condD rfl (fun c2 => ?_) (fun c2 => ?_)
  · refine XC.skip (thenC.go ?_)
    refine XC.seq ?_
    refine XC.block ?_
    refine XC.seq ?_
    refine XC.text ?_
    refine XO.c (.move rfl) rfl rfl ?_
    refine XO.c (.assign rfl) rfl rfl ?_
    refine XO.nil (thenC.go ?_)
    refine XC.seq ?_
    refine XC.text ?_
    refine XO.c (.move rfl) rfl rfl ?_
    refine XO.c (.move rfl) rfl rfl ?_
    refine XO.c (.move rfl) rfl rfl ?_
    refine XO.c (.indexAddr rfl rfl rfl (ha0.ix (j := j) el22 (by omega))) rfl rfl ?_
    refine XO.r (.load rfl (((ha0.at (j := j) (by omega))).ldInt vt3)) rfl rfl ?_
    refine XO.call rfl rfl rfl rfl ?_
    refine EvF.mono (hf (hA.ok hok) (hA.inS hS)  hA.ofEntry (List.getElem_mem _)) ?_
    rintro _ _ ⟨rfl, hh⟩
    obtain rfl := hh.symm
    clear hh
    refine XO.nil (thenC.go ?_)
    refine XC.condB rfl (fun c4 => ?_) (fun c4 => ?_)
    · refine XC.seq ?_
      refine XC.text ?_
      refine XO.c (.move rfl) rfl rfl ?_
      refine XO.c (.assign rfl) rfl rfl ?_
      refine XO.nil (thenC.go ?_)
      refine XC.ret fun tf htf => ?_
      refine inBlock_ret ?_
      refine thenC_ret ?_
      refine loopQ_ret ?_
      refine inBlock_ret ?_
      refine thenC_ret ?_
      refine endF.one rfl rfl (htf 4 _ rfl) ?_
      exact ⟨congrArg (Value.int .i64) (by rw [hi, idxE_drop (by omega), if_pos c4]), hA.leftAf rfl⟩
    · refine XC.skip ?_
      intro tf htf
      refine inBlock_nrm ?_
      refine thenC.go ?_ tf htf
      refine XC.text ?_
      refine XO.c (.add rfl rfl (by omega)) rfl rfl ?_
      refine XO.c (.move rfl) rfl rfl ?_
      refine XO.nil ?_
      intro tf htf
      refine ⟨rfl, rfl, _, [(0, v0), (1, .func (.func f_f) f_a f_b), (7, .int .i64 ((l.length : Nat) : Int)), (8, .int .i64 (((j + 1) : Nat) : Int))], ?_, htf.keep _ ⟨rfl, rfl, rfl, rfl, trivial⟩, (j + 1), rfl, rfl, hA, aL101, nL101, (by omega), (by rw [hi, idxE_drop (by omega), if_neg (by rw [c4]; decide)])⟩
      omega
  · refine XC.exit ?_
    intro tf htf
    refine thenC_exit ?_
    refine loopQ_exit ?_
    refine inBlock_eq ?_
    refine thenC.go ?_ tf htf
    refine XC.seq ?_
    refine XC.text ?_
    refine XO.c (.assign rfl) rfl rfl ?_
    refine XO.nil (thenC.go ?_)
    refine XC.ret fun tf htf => ?_
    refine endF.one rfl rfl (htf 4 _ rfl) ?_
    exact ⟨congrArg (Value.int .i64) (by rw [hi, idxE_end (by omega)]), hA.leftAf rfl⟩
theorem zContainsF_ok {h : Heap} {S : List Nat} {v0 : Value} {l : List Int} {f_f : FuncId} {f_a f_b : Array Value} {F : Int → Bool} (hok : HOk h) (hS : ∀ b ∈ S, b < h.next) (ha0 : SlV h S (.int .i64) v0 l) (hl : l.length < 100000) (hf : ∀ {h2 : Heap} {S2 : List Nat} {x : Int}, HOk h2 → (∀ b ∈ S2, b < h2.next) → After h h2 → x ∈ l → EvF Tryz.prog OA f_f (f_a.toList ++ [.int .i64 x] ++ f_b.toList) h2 fun r h' => r = .bool (F x) ∧ h' = h2) : EvF Tryz.prog OA 111 [v0, .func (.func f_f) f_a f_b] h fun r h' => r = .bool (l.any F) ∧ h' = h := by
  refine XF.enter Tryz.func111 rfl rfl rfl ?_
  have hok : HOk (entry h) := hok
  have hA := After.refl (entry h)
  replace ha0 := ha0.entry
  show XC Tryz.prog OA none _ _ [] [(0, v0), (1, .func (.func f_f) f_a f_b)] (entry h) _
  refine XC.seq ?_
  refine XC.text ?_
  refine XO.c (.assign rfl) rfl rfl ?_
  refine XO.nil (thenC.go ?_)
  refine XC.seq ?_
  refine XC.text ?_
  refine XO.c (.move rfl) rfl rfl ?_
  refine XO.c (.move rfl) rfl rfl ?_
  refine XO.call rfl rfl rfl rfl ?_
  refine EvF.mono (zIndexF_ok (hA.ok hok) (hA.inS hS) ha0 (F := F) hl (fun a b g m => hf a b g.ofEntry m)) ?_
  rintro _ _ ⟨rfl, hh⟩
  obtain rfl := hh.symm
  clear hh
  refine XO.c (.geq rfl rfl) rfl rfl ?_
  refine XO.c (.assign rfl) rfl rfl ?_
  refine XO.nil (thenC.go ?_)
  refine XC.ret fun tf htf => ?_
  refine endF.one rfl rfl (htf 4 _ rfl) ?_
  exact ⟨congrArg Value.bool (by have h9 := idxE_any (F := F) (l := l) (k := 0) (by omega); cases h8 : l.any F <;> simp_all), hA.leftAf rfl⟩
theorem sEx11_ok {h : Heap} {S : List Nat} {n : Int} {limit_p : Value} {limit : Int} (hok : HOk h) (hS : ∀ b ∈ S, b < h.next) (hc0 : RepP h S (.int .i64) limit_p limit) : EvF Tryz.prog OA 112 [.int .i64 n, limit_p] h fun r h' => r = .bool (decide (limit < n)) ∧ h' = h := by
  refine XF.enter Tryz.func112 rfl rfl rfl ?_
  have hok : HOk (entry h) := hok
  have hA := After.refl (entry h)
  replace hc0 := hc0.nx (Goes.objs (h' := entry h) fun _ => rfl)
  show XC Tryz.prog OA none _ _ [] [(0, .int .i64 n), (1, limit_p)] (entry h) _
  refine XC.seq ?_
  refine XC.text ?_
  refine XO.c (.assign rfl) rfl rfl ?_
  refine XO.nil (thenC.go ?_)
  refine XC.seq ?_
  refine XC.text ?_
  refine XO.c (.move rfl) rfl rfl ?_
  refine XO.r (.load rfl ((hc0).ldInt vt3)) rfl rfl ?_
  refine XO.c (.gtr rfl rfl) rfl rfl ?_
  refine XO.c (.assign rfl) rfl rfl ?_
  refine XO.nil (thenC.go ?_)
  refine XC.ret fun tf htf => ?_
  refine endF.one rfl rfl (htf 3 _ rfl) ?_
  exact ⟨congrArg Value.bool (by first | rfl | simp), hA.leftAf rfl⟩
def passE (limit : Int) (s : Int × Int) (c : Int × List Int) : Bool := ((c.2.take s.2.toNat).drop s.1.toNat).any fun n => decide (limit < n)
theorem sEx1_ok {h : Heap} {S : List Nat} {v0 : Value} {c : Int × (List Int)} {s_p : Value} {s : Int × Int} {limit_p : Value} {limit : Int} (hok : HOk h) (hS : ∀ b ∈ S, b < h.next) (ha0 : RepV h S (.pair (.int .i64) (.sl (.int .i64))) v0 c) (hc0 : RepP h S (.pair (.int .i64) (.int .i64)) s_p s) (hc1 : RepP h S (.int .i64) limit_p limit) (hs : 0 ≤ s.1 ∧ s.1 ≤ s.2 ∧ s.2 ≤ (c.2.length : Nat)) (hc : c.2.length < 100000) : EvF Tryz.prog OA 110 [v0, s_p, limit_p] h fun r h' => r = .bool (passE limit s c) ∧ h' = h := by
  refine XF.enter Tryz.func110 rfl rfl rfl ?_
  have hok : HOk (entry h) := hok
  have hA := After.refl (entry h)
  replace ha0 := ha0.entry
  replace hc0 := hc0.nx (Goes.objs (h' := entry h) fun _ => rfl)
  replace hc1 := hc1.nx (Goes.objs (h' := entry h) fun _ => rfl)
  show XC Tryz.prog OA none _ _ [] [(0, v0), (1, s_p), (2, limit_p)] (entry h) _
  refine XC.seq ?_
  refine XC.text ?_
  refine XO.boxR rfl ha0 (hA.ok hok) (hA.inS hS) rfl rfl ?_
  intro p104 h104 b104 a104
  have ok105 := hA.ok hok
  have gg105 : Goes (entry h) S h104 S := a104.nx ok105
  replace hA := hA.trans a104
  replace ha0 := ha0.nx gg105
  replace hc0 := hc0.nx gg105
  replace hc1 := hc1.nx gg105
  refine XO.c (.assign rfl) rfl rfl ?_
  refine XO.nil (thenC.go ?_)
  refine XC.seq ?_
  refine XC.text ?_
  refine XO.c (.fieldAddr rfl ((b104).fa (f := 1) (k := 1) (by kernel_rfl))) rfl rfl ?_
  obtain ⟨u106, e106, s106⟩ := (((b104).base.snd' (m := 1) rfl (b104).isP)).ldSl vt22
  refine XO.r (.load rfl (e106)) rfl rfl ?_
  refine XO.c (.fieldAddr rfl ((hc0).fa (f := 0) (k := 0) (by kernel_rfl))) rfl rfl ?_
  refine XO.r (.load rfl (((hc0).base.fst').ldInt vt3)) rfl rfl ?_
  refine XO.c (.fieldAddr rfl ((hc0).fa (f := 1) (k := 1) (by kernel_rfl))) rfl rfl ?_
  refine XO.r (.load rfl ((((hc0).base.snd' (m := 1) rfl (hc0).isP)).ldInt vt3)) rfl rfl ?_
  obtain ⟨u107, e107, s107⟩ := s106.cut el22 (a := s.1) (b := s.2) (by exact hs)
  refine XO.r (.slice rfl rfl rfl e107) rfl rfl ?_
  refine XO.c (.func rfl rfl) rfl rfl ?_
  refine XO.call rfl rfl rfl rfl ?_
  refine EvF.mono (zContainsF_ok (hA.ok hok) (hA.inS hS) s107 (F := fun n => decide (limit < n)) (by simp; omega) (fun a _ g m => sEx11_ok a noS (((hc1).nx (g.nx (hA.ok hok))).nil0))) ?_
  rintro _ _ ⟨rfl, hh⟩
  obtain rfl := hh.symm
  clear hh
  refine XO.c (.assign rfl) rfl rfl ?_
  refine XO.nil (thenC.go ?_)
  refine XC.ret fun tf htf => ?_
  refine endF.one rfl rfl (htf 4 _ rfl) ?_
  exact ⟨congrArg Value.bool (by rfl), hA.leftAf rfl⟩
def exceedE (l : List (Int × List Int)) (limit : Int) (s : Int × Int) : Int × Int := lowE (weightE (passE limit s) l) (weightE (fun _ => true) l)
def exceedB (l : List (Int × List Int)) (limit : Int) (s : Int × Int) : Int := firstE [ensembleE l, rangeE limit (-1048576) 1048576, spanE s (len0 l : Nat)]
theorem exceed_two {l : List (Int × List Int)} {limit : Int} {s : Int × Int} : exceedB l limit s = firstE ([ensembleE l, rangeE limit (-1048576) 1048576] ++ [spanE s (len0 l : Nat)]) := rfl
theorem exceed_ens {l : List (Int × List Int)} {a : Int} (h : firstE [ensembleE l, a] = 0) : OkE l := by
  rw [firstE_zero] at h
  exact ensembleE_ok (h _ (by simp))
theorem okE_w {l : List (Int × List Int)} (h : OkE l) : ∀ c ∈ l, 1 ≤ c.1 ∧ c.1 ≤ 1000 := fun c hc => (h.all c hc).w
theorem total_pos {l : List (Int × List Int)} (h : OkE l) : 0 < weightE (fun _ => true) l := by
  have hp := h.pos
  cases l with
  | nil => simp at hp
  | cons c l =>
    have h1 := (h.all c List.mem_cons_self).w
    have h2 := weight_bound (F := fun _ => true) (l := l) fun x hx => (h.all x (List.mem_cons_of_mem _ hx)).w
    unfold weightE at h2 ⊢
    rw [List.filter_cons, if_pos rfl, List.map_cons, List.sum_cons]
    omega
theorem okE_len {l : List (Int × List Int)} (h : OkE l) : ∀ c ∈ l, c.2.length = len0 l := fun c hc => (h.all c hc).len
theorem sExceed_ok {h : Heap} {S : List Nat} {v0 : Value} {l : List (Int × (List Int))} {limit : Int} {s : Int × Int} (hok : HOk h) (hS : ∀ b ∈ S, b < h.next) (ha0 : SlV h S (.pair (.int .i64) (.sl (.int .i64))) v0 l) (hl : ∀ c ∈ l, c.2.length < 100000) : EvF Tryz.prog OA 36 [v0, .int .i64 limit, .agg #[.int .i64 s.1, .int .i64 s.2]] h fun r h' => r = .tuple #[.agg #[.int .i64 ((if exceedB l limit s = 0 then exceedE l limit s else (0, 0)).1), .int .i64 ((if exceedB l limit s = 0 then exceedE l limit s else (0, 0)).2)], .int .i64 (exceedB l limit s)] ∧ h' = h := by
  refine XF.enter Tryz.func36 rfl rfl rfl ?_
  have hok : HOk (entry h) := hok
  have hA := After.refl (entry h)
  replace ha0 := ha0.entry
  show XC Tryz.prog OA none _ _ [] [(0, v0), (1, .int .i64 limit), (2, .agg #[.int .i64 s.1, .int .i64 s.2])] (entry h) _
  refine XC.seq ?_
  refine XC.text ?_
  refine XO.boxR rfl (RepV.ofInt .i64 _) (hA.ok hok) (hA.inS hS) rfl rfl ?_
  intro p109 h109 b109 a109
  have ok110 := hA.ok hok
  have gg110 : Goes (entry h) S h109 S := a109.nx ok110
  replace hA := hA.trans a109
  replace ha0 := ha0.nx gg110
  refine XO.boxR rfl (RepV.mk2 (a := (.int .i64)) (b := (.int .i64)) (x := s) (RepV.ofInt .i64 _) (RepV.ofInt .i64 _) rfl rfl) (hA.ok hok) (hA.inS hS) rfl rfl ?_
  intro p111 h111 b111 a111
  have ok112 := hA.ok hok
  have gg112 : Goes h109 S h111 S := a111.nx ok112
  replace hA := hA.trans a111
  replace ha0 := ha0.nx gg112
  replace b109 := b109.nx gg112
  refine XO.allocB (z := .agg #[.int .i64 0, .int .i64 0]) (by kernel_rfl) rfl rfl hA hok rfl rfl ?_
  intro p113 h113 b113 a113 gs113
  have ok114 := hA.ok hok
  have gg114 : Goes h111 S h113 (ownP p113 ++ S) := gs113 _
  replace hA := hA.trans a113
  replace ha0 := ha0.nx gg114
  replace b109 := b109.nx gg114
  replace b111 := b111.nx gg114
  refine XO.c (.assign rfl) rfl rfl ?_
  refine XO.nil (thenC.go ?_)
  refine XC.seq ?_
  refine XC.seq ?_
  refine XC.drawn ?_
  have hkr115 := hA.ok hok
  have hSr115 := (b113.inS (hA.ok hok) (hA.inS hS))
  refine XD.c (b := 0) (.move rfl) rfl rfl rfl ?_
  refine XD.callV (bb := 1) (After.refl _) SegsOk.nil rfl rfl rfl rfl rfl rfl ?_
  intro M116 aM116 oM116
  refine EvF.mono (sEnsemble_ok (aM116.ok hkr115) (aM116.inS hSr115) (ha0.nx (aM116.nx hkr115)) (by first | assumption | omega)) ?_
  rintro _ _ ⟨rfl, hh⟩
  refine ⟨hh, ?_⟩
  clear hh
  refine XD.ld (b := 0) (After.refl _) (SegsOk.cons ((After.refl _)).next SegsOk.nil) hkr115 rfl ((b109).ldInt vt3) rfl rfl rfl rfl ?_
  refine XD.callV (bb := 7) (After.refl _) (SegsOk.cons ((After.refl _)).next (SegsOk.cons ((After.refl _)).next SegsOk.nil)) rfl rfl rfl rfl rfl rfl ?_
  intro M117 aM117 oM117
  refine EvF.mono (sHeight_ok (aM117.ok hkr115) (aM117.inS hSr115)  ) ?_
  rintro _ _ ⟨rfl, hh⟩
  refine ⟨hh, ?_⟩
  clear hh
  refine XD.lit (b := 15) (h := h113) (S := (ownP p113 ++ S)) (τ := (.int .i64)) (vsC (RepV.ofInt .i64 _) (vs1 (RepV.ofInt .i64 _))) el179 rfl rfl rfl (by simp) (by simp) (by decide) (hA.ok hok) (b113.inS (hA.ok hok) (hA.inS hS)) rfl rfl rfl rfl ?_
  intro w118 h118 s118 a118
  have ha0o := ha0
  have b109o := b109
  have b111o := b111
  have rg115 : Goes h113 (ownP p113 ++ S) h113 (ownP p113 ++ S) := Goes.refl
  have ra115 := After.refl h113
  have ok119 := hA.ok hok
  have gg119 : Goes h113 (ownP p113 ++ S) h118 (ownP p113 ++ S) := a118.nx ok119
  replace hA := hA.trans a118
  replace ha0 := ha0.nx gg119
  replace b109 := b109.nx gg119
  replace b111 := b111.nx gg119
  replace b113 := b113.keep a118 ok119
  replace rg115 := rg115.trans gg119
  have ra115_118 := ra115.trans a118
  refine XD.callV (bb := 31) ra115_118 (SegsOk.cons (ra115).next (SegsOk.cons ((After.refl _)).next (SegsOk.cons ((After.refl _)).next (SegsOk.cons ((After.refl _)).next SegsOk.nil)))) rfl rfl rfl rfl rfl rfl ?_
  intro M120 aM120 oM120
  obtain rfl := oM120 rfl
  refine EvF.mono (sFirst_ok (hA.ok hok) (b113.inS (hA.ok hok) (hA.inS hS)) (s118).entry (by simp)) ?_
  rintro _ _ ⟨rfl, hh⟩
  refine ⟨hh, ?_⟩
  clear hh
  refine XD.c (b := 63) (.assign rfl) rfl rfl rfl ?_
  refine XD.nil (thenC.go ?_)
  refine XC.seq ?_
  refine XC.text ?_
  refine XO.c (.move rfl) rfl rfl ?_
  refine XO.c (.neq rfl rfl) rfl rfl ?_
  refine XO.nil (thenC.go ?_)
  refine XC.condD rfl (fun c2 => ?_) (fun c2 => ?_)
  · refine XC.seq ?_
    refine XC.text ?_
    refine XO.c (.build (vs := []) (v := .agg #[.int .i64 0, .int .i64 0]) rfl rfl (by kernel_rfl) (by kernel_rfl)) rfl rfl ?_
    refine XO.c (.move rfl) rfl rfl ?_
    obtain ⟨h121, e121, b121, a121, n121, nn121, fr121, lw121⟩ := b113.st0 (S := S) (h0 := entry h) (u := .agg #[.int .i64 0, .int .i64 0]) vt58 rfl rfl (Nat.le_of_ble_eq_true rfl) (One.oneAll ⟨⟨rfl, rfl⟩, ⟨⟨rfl, rfl⟩, trivial⟩⟩) hA (show HOk h118 from hA.ok hok)
    refine XO.st rfl rfl e121 ?_
    have ok122 := hA.ok hok
    have gg122 : Goes h118 (ownP p113 ++ S) h121 (ownP p113 ++ S) := n121
    replace hA := a121
    replace ha0 := ha0.nx gg122
    replace b109 := b109.nx gg122
    replace b111 := b111.nx gg122
    replace s118 := s118.nx gg122
    refine XO.c (.assign rfl) rfl rfl ?_
    refine XO.nil (thenC.go ?_)
    refine XC.ret fun tf htf => ?_
    refine thenC_ret ?_
    refine endF.cellTwo rfl rfl (htf 6 _ rfl) (b121.ldA vt58 rfl rfl) (htf 7 _ rfl) ?_
    refine ⟨?_, hA.leftAf rfl⟩
    refine congrArg Value.tuple ?_
    refine tup2 (by rw [exceed_two, firstE_app, if_neg c2, if_neg c2]; rfl) (congrArg (Value.int .i64) (by rw [exceed_two, firstE_app, if_neg c2]))
  · have hE := exceed_ens (Decidable.not_not.1 c2)
    have hp := hE.pos
    have ht := hE.top
    have e0 := len0_eq hE.pos
    refine XC.skip (thenC.go ?_)
    refine XC.seq ?_
    refine XC.seq ?_
    refine XC.drawn ?_
    have hkr123 := hA.ok hok
    have hSr123 := (b113.inS (hA.ok hok) (hA.inS hS))
    refine XD.c (b := 0) (.fieldAddr rfl ((b111).fa (f := 0) (k := 0) (by kernel_rfl))) rfl rfl rfl ?_
    refine XD.ld (b := 1) (After.refl _) SegsOk.nil hkr123 rfl (((b111).base.fst').ldInt vt3) rfl rfl rfl rfl ?_
    refine XD.c (b := 3) (.lss rfl rfl) rfl rfl rfl ?_
    refine XD.c (b := 7) (.move rfl) rfl rfl rfl ?_
    refine XD.splitD (x := 23) rfl (fun g4_3 => ?_) (fun g4_3 => ?_)
    · refine XD.skip (b := 15) rfl rfl rfl rfl rfl rfl ?_
      refine XD.skip (b := 31) rfl rfl rfl rfl rfl rfl ?_
      refine XD.skip (b := 15) rfl rfl rfl rfl rfl rfl ?_
      refine XD.skip (b := 79) rfl rfl rfl rfl rfl rfl ?_
      refine XD.skip (b := 255) rfl rfl rfl rfl rfl rfl ?_
      refine XD.c (b := 511) (.pickT rfl rfl) rfl rfl rfl ?_
      refine XD.c (b := 1023) (.move rfl) rfl rfl rfl ?_
      refine XD.skip (b := 2047) rfl rfl rfl rfl rfl rfl ?_
      refine XD.skip (b := 4095) rfl rfl rfl rfl rfl rfl ?_
      refine XD.skip (b := 2047) rfl rfl rfl rfl rfl rfl ?_
      refine XD.skip (b := 10239) rfl rfl rfl rfl rfl rfl ?_
      refine XD.skip (b := 26623) rfl rfl rfl rfl rfl rfl ?_
      refine XD.skip (b := 59391) rfl rfl rfl rfl rfl rfl ?_
      refine XD.skip (b := 124927) rfl rfl rfl rfl rfl rfl ?_
      refine XD.skip (b := 262143) rfl rfl rfl rfl rfl rfl ?_
      refine XD.c (b := 524287) (.pickT rfl rfl) rfl rfl rfl ?_
      refine XD.nil (thenC.go ?_)
      refine XC.condT rfl ?_
      refine XC.seq ?_
      refine XC.text ?_
      refine XO.c (.build (vs := []) (v := .agg #[.int .i64 0, .int .i64 0]) rfl rfl (by kernel_rfl) (by kernel_rfl)) rfl rfl ?_
      obtain ⟨h124, e124, b124, a124, n124, nn124, fr124, lw124⟩ := b113.st0 (S := S) (h0 := entry h) (u := .agg #[.int .i64 0, .int .i64 0]) vt58 rfl rfl (Nat.le_of_ble_eq_true rfl) (One.oneAll ⟨⟨rfl, rfl⟩, ⟨⟨rfl, rfl⟩, trivial⟩⟩) hA (show HOk h118 from hA.ok hok)
      refine XO.st rfl rfl e124 ?_
      have ok125 := hA.ok hok
      have gg125 : Goes h118 (ownP p113 ++ S) h124 (ownP p113 ++ S) := n124
      replace hA := a124
      replace ha0 := ha0.nx gg125
      replace b109 := b109.nx gg125
      replace b111 := b111.nx gg125
      replace s118 := s118.nx gg125
      refine XO.c (.assign rfl) rfl rfl ?_
      refine XO.nil (thenC.go ?_)
      refine XC.ret fun tf htf => ?_
      refine thenC_ret ?_
      refine endF.cellTwo rfl rfl (htf 6 _ rfl) (b124.ldA vt58 rfl rfl) (htf 7 _ rfl) ?_
      refine ⟨?_, hA.leftAf rfl⟩
      refine congrArg Value.tuple ?_
      refine tup2 (by first | (rw [if_pos hB]; rfl) | (rw [show exceedB l limit s = 14 by rw [exceed_two, firstE_app, if_pos (Decidable.not_not.1 c2), firstE_one, spanE, if_pos (by omega)]]; rfl)) (congrArg (Value.int .i64) (by first | exact hB.symm | (rw [exceed_two, firstE_app, if_pos (Decidable.not_not.1 c2), firstE_one, spanE, if_pos (by omega)])))
    · refine XD.gc (b := 15) rfl rfl rfl (.fieldAddr rfl ((b111).fa (f := 0) (k := 0) (by kernel_rfl))) rfl rfl rfl ?_
      refine XD.gld (b := 31) rfl rfl rfl (After.refl _) (SegsOk.cons ((After.refl _)).next SegsOk.nil) hkr123 rfl (((b111).base.fst').ldInt vt3) rfl rfl rfl rfl ?_
      refine XD.gc (b := 15) rfl rfl rfl (.fieldAddr rfl ((b111).fa (f := 1) (k := 1) (by kernel_rfl))) rfl rfl rfl ?_
      refine XD.gld (b := 79) rfl rfl rfl (After.refl _) (SegsOk.cons ((After.refl _)).next (SegsOk.cons ((After.refl _)).next SegsOk.nil)) hkr123 rfl ((((b111).base.snd' (m := 1) rfl (b111).isP)).ldInt vt3) rfl rfl rfl rfl ?_
      refine XD.gc (b := 255) rfl rfl rfl (.gtr rfl rfl) rfl rfl rfl ?_
      refine XD.c (b := 511) (.pickF rfl rfl) rfl rfl rfl ?_
      refine XD.c (b := 1023) (.move rfl) rfl rfl rfl ?_
      refine XD.splitD (x := 30) rfl (fun g4_10 => ?_) (fun g4_10 => ?_)
      · refine XD.skip (b := 2047) rfl rfl rfl rfl rfl rfl ?_
        refine XD.skip (b := 4095) rfl rfl rfl rfl rfl rfl ?_
        refine XD.skip (b := 2047) rfl rfl rfl rfl rfl rfl ?_
        refine XD.skip (b := 10239) rfl rfl rfl rfl rfl rfl ?_
        refine XD.skip (b := 26623) rfl rfl rfl rfl rfl rfl ?_
        refine XD.skip (b := 59391) rfl rfl rfl rfl rfl rfl ?_
        refine XD.skip (b := 124927) rfl rfl rfl rfl rfl rfl ?_
        refine XD.skip (b := 262143) rfl rfl rfl rfl rfl rfl ?_
        refine XD.c (b := 524287) (.pickT rfl rfl) rfl rfl rfl ?_
        refine XD.nil (thenC.go ?_)
        refine XC.condT rfl ?_
        refine XC.seq ?_
        refine XC.text ?_
        refine XO.c (.build (vs := []) (v := .agg #[.int .i64 0, .int .i64 0]) rfl rfl (by kernel_rfl) (by kernel_rfl)) rfl rfl ?_
        obtain ⟨h126, e126, b126, a126, n126, nn126, fr126, lw126⟩ := b113.st0 (S := S) (h0 := entry h) (u := .agg #[.int .i64 0, .int .i64 0]) vt58 rfl rfl (Nat.le_of_ble_eq_true rfl) (One.oneAll ⟨⟨rfl, rfl⟩, ⟨⟨rfl, rfl⟩, trivial⟩⟩) hA (show HOk h118 from hA.ok hok)
        refine XO.st rfl rfl e126 ?_
        have ok127 := hA.ok hok
        have gg127 : Goes h118 (ownP p113 ++ S) h126 (ownP p113 ++ S) := n126
        replace hA := a126
        replace ha0 := ha0.nx gg127
        replace b109 := b109.nx gg127
        replace b111 := b111.nx gg127
        replace s118 := s118.nx gg127
        refine XO.c (.assign rfl) rfl rfl ?_
        refine XO.nil (thenC.go ?_)
        refine XC.ret fun tf htf => ?_
        refine thenC_ret ?_
        refine endF.cellTwo rfl rfl (htf 6 _ rfl) (b126.ldA vt58 rfl rfl) (htf 7 _ rfl) ?_
        refine ⟨?_, hA.leftAf rfl⟩
        refine congrArg Value.tuple ?_
        refine tup2 (by first | (rw [if_pos hB]; rfl) | (rw [show exceedB l limit s = 14 by rw [exceed_two, firstE_app, if_pos (Decidable.not_not.1 c2), firstE_one, spanE, if_pos (by omega)]]; rfl)) (congrArg (Value.int .i64) (by first | exact hB.symm | (rw [exceed_two, firstE_app, if_pos (Decidable.not_not.1 c2), firstE_one, spanE, if_pos (by omega)])))
      · refine XD.gc (b := 2047) rfl rfl rfl (.fieldAddr rfl ((b111).fa (f := 1) (k := 1) (by kernel_rfl))) rfl rfl rfl ?_
        refine XD.gld (b := 4095) rfl rfl rfl (After.refl _) (SegsOk.cons ((After.refl _)).next (SegsOk.cons ((After.refl _)).next (SegsOk.cons ((After.refl _)).next SegsOk.nil))) hkr123 rfl ((((b111).base.snd' (m := 1) rfl (b111).isP)).ldInt vt3) rfl rfl rfl rfl ?_
        refine XD.gc (b := 2047) rfl rfl rfl (.move rfl) rfl rfl rfl ?_
        refine XD.gc (b := 10239) rfl rfl rfl (.indexAddr rfl rfl rfl (ha0.ix (j := 0) el64 (by omega))) rfl rfl rfl ?_
        refine XD.gc (b := 26623) rfl rfl rfl (.fieldAddr rfl (((ha0.at (j := 0) (by omega))).fa (f := 1) (k := 1) (by kernel_rfl))) rfl rfl rfl ?_
        obtain ⟨u128, e128, s128⟩ := ((((ha0.at (j := 0) (by omega))).base.snd' (m := 1) rfl ((ha0.at (j := 0) (by omega))).isP)).ldSl vt22
        refine XD.gld (b := 59391) rfl rfl rfl (After.refl _) (SegsOk.cons ((After.refl _)).next (SegsOk.cons ((After.refl _)).next (SegsOk.cons ((After.refl _)).next (SegsOk.cons ((After.refl _)).next SegsOk.nil)))) hkr123 rfl (e128) rfl rfl rfl rfl ?_
        refine XD.ga (b := 124927) rfl rfl rfl rfl (.len rfl (s128.len el22)) rfl rfl rfl rfl ?_
        refine XD.gc (b := 262143) rfl rfl rfl (.gtr rfl rfl) rfl rfl rfl ?_
        refine XD.c (b := 524287) (.pickF rfl rfl) rfl rfl rfl ?_
        refine XD.nil (thenC.go ?_)
        refine XC.condD rfl (fun c4 => ?_) (fun c4 => ?_)
        · refine XC.seq ?_
          refine XC.text ?_
          refine XO.c (.build (vs := []) (v := .agg #[.int .i64 0, .int .i64 0]) rfl rfl (by kernel_rfl) (by kernel_rfl)) rfl rfl ?_
          obtain ⟨h129, e129, b129, a129, n129, nn129, fr129, lw129⟩ := b113.st0 (S := S) (h0 := entry h) (u := .agg #[.int .i64 0, .int .i64 0]) vt58 rfl rfl (Nat.le_of_ble_eq_true rfl) (One.oneAll ⟨⟨rfl, rfl⟩, ⟨⟨rfl, rfl⟩, trivial⟩⟩) hA (show HOk h118 from hA.ok hok)
          refine XO.st rfl rfl e129 ?_
          have ok130 := hA.ok hok
          have gg130 : Goes h118 (ownP p113 ++ S) h129 (ownP p113 ++ S) := n129
          replace hA := a129
          replace ha0 := ha0.nx gg130
          replace b109 := b109.nx gg130
          replace b111 := b111.nx gg130
          replace s118 := s118.nx gg130
          replace s128 := s128.nx gg130
          refine XO.c (.assign rfl) rfl rfl ?_
          refine XO.nil (thenC.go ?_)
          refine XC.ret fun tf htf => ?_
          refine thenC_ret ?_
          refine endF.cellTwo rfl rfl (htf 6 _ rfl) (b129.ldA vt58 rfl rfl) (htf 7 _ rfl) ?_
          refine ⟨?_, hA.leftAf rfl⟩
          refine congrArg Value.tuple ?_
          refine tup2 (by first | (rw [if_pos hB]; rfl) | (rw [show exceedB l limit s = 14 by rw [exceed_two, firstE_app, if_pos (Decidable.not_not.1 c2), firstE_one, spanE, if_pos (by omega)]]; rfl)) (congrArg (Value.int .i64) (by first | exact hB.symm | (rw [exceed_two, firstE_app, if_pos (Decidable.not_not.1 c2), firstE_one, spanE, if_pos (by omega)])))
        · have hsp : 0 ≤ s.1 ∧ s.1 ≤ s.2 ∧ s.2 ≤ (len0 l : Nat) := by omega
          have hB : exceedB l limit s = 0 := by rw [exceed_two, firstE_app, if_pos (Decidable.not_not.1 c2), firstE_one, spanE, if_neg (by omega)]
          have hw0 := okE_w hE
          have w1 := weight_bound (F := passE limit s) hw0
          have w2 := weight_bound (F := fun _ => true) hw0
          have w3 := total_pos hE
          refine XC.skip (thenC.go ?_)
          refine XC.seq ?_
          refine XC.text ?_
          refine XO.c (.func rfl rfl) rfl rfl ?_
          refine XO.c (.assign rfl) rfl rfl ?_
          refine XO.nil (thenC.go ?_)
          refine XC.seq ?_
          refine XC.text ?_
          refine XO.c (.move rfl) rfl rfl ?_
          refine XO.c (.move rfl) rfl rfl ?_
          refine XO.call rfl rfl rfl rfl ?_
          refine EvF.mono (sWeight_ok (hA.ok hok) (b113.inS (hA.ok hok) (hA.inS hS)) ha0 (F := passE limit s) (by omega) hw0 (fun a _ w g m => sEx1_ok a noS w.nil0 (((b111).nx (g.nx (hA.ok hok))).nil0) (((b109).nx (g.nx (hA.ok hok))).nil0) (by rw [okE_len hE _ m]; exact hsp) (hl _ m))) ?_
          rintro _ _ ⟨rfl, hh⟩
          obtain rfl := hh.symm
          clear hh
          refine XO.c (.move rfl) rfl rfl ?_
          refine XO.call rfl rfl rfl rfl ?_
          refine EvF.mono (sWeight_ok (hA.ok hok) (b113.inS (hA.ok hok) (hA.inS hS)) ha0 (F := fun _ => true) (by omega) hw0 (fun a b w _ _ => sAll_ok a b w)) ?_
          rintro _ _ ⟨rfl, hh⟩
          obtain rfl := hh.symm
          clear hh
          refine XO.call rfl rfl rfl rfl ?_
          refine EvF.mono (sRatio_ok (hA.ok hok) (b113.inS (hA.ok hok) (hA.inS hS))  (by omega) (by omega)) ?_
          rintro _ _ ⟨rfl, hh⟩
          obtain rfl := hh.symm
          clear hh
          obtain ⟨h134, e134, b134, a134, n134, nn134, fr134, lw134⟩ := b113.st0 (S := S) (h0 := entry h) (u := .agg #[.int .i64 ((lowE (weightE (passE limit s) l) (weightE (fun _ => true) l)).1), .int .i64 ((lowE (weightE (passE limit s) l) (weightE (fun _ => true) l)).2)]) vt58 rfl rfl (Nat.le_of_ble_eq_true rfl) (One.oneAll ⟨⟨rfl, rfl⟩, ⟨⟨rfl, rfl⟩, trivial⟩⟩) hA (show HOk h118 from hA.ok hok)
          refine XO.st rfl rfl e134 ?_
          have ok135 := hA.ok hok
          have gg135 : Goes h118 (ownP p113 ++ S) h134 (ownP p113 ++ S) := n134
          replace hA := a134
          replace ha0 := ha0.nx gg135
          replace b109 := b109.nx gg135
          replace b111 := b111.nx gg135
          replace s118 := s118.nx gg135
          replace s128 := s128.nx gg135
          refine XO.c (.assign rfl) rfl rfl ?_
          refine XO.nil (thenC.go ?_)
          refine XC.ret fun tf htf => ?_
          refine endF.cellTwo rfl rfl (htf 6 _ rfl) (b134.ldA vt58 rfl rfl) (htf 7 _ rfl) ?_
          refine ⟨?_, hA.leftAf rfl⟩
          refine congrArg Value.tuple ?_
          refine tup2 (by first | (rw [if_pos hB]; rfl) | (rw [show exceedB l limit s = 14 by rw [exceed_two, firstE_app, if_pos (Decidable.not_not.1 c2), firstE_one, spanE, if_pos (by omega)]]; rfl)) (congrArg (Value.int .i64) (by first | exact hB.symm | (rw [exceed_two, firstE_app, if_pos (Decidable.not_not.1 c2), firstE_one, spanE, if_pos (by omega)])))
theorem part_succ {L : List Int} {a t : Nat} (ht : t < L.length) (ha : a ≤ t) : (L.take (t + 1)).drop a = (L.take t).drop a ++ [L[t]] := by
  rw [List.take_succ_eq_append_getElem ht, List.drop_append_of_le_length (by rw [List.length_take]; omega)]
theorem pass_succ {L : List Int} {a t : Nat} {p : Int → Bool} (ht : t < L.length) (ha : a ≤ t) : ((L.take (t + 1)).drop a).any p = (((L.take t).drop a).any p || p L[t]) := by
  rw [part_succ ht ha, List.any_append]; simp
theorem rExceed_ok {h : Heap} {S : List Nat} {v0 : Value} {l : List (Int × (List Int))} {limit : Int} {s : Int × Int} (hok : HOk h) (hS : ∀ b ∈ S, b < h.next) (ha0 : SlV h S (.pair (.int .i64) (.sl (.int .i64))) v0 l) (hE : OkE l) (hsp : 0 ≤ s.1 ∧ s.1 ≤ s.2 ∧ s.2 ≤ (len0 l : Nat)) : EvF Tryz.prog OA 44 [v0, .int .i64 limit, .agg #[.int .i64 s.1, .int .i64 s.2]] h fun r h' => r = .agg #[.int .i64 ((exceedE l limit s).1), .int .i64 ((exceedE l limit s).2)] ∧ h' = h := by
  refine XF.enter Tryz.func44 rfl rfl rfl ?_
  have hok : HOk (entry h) := hok
  have hA := After.refl (entry h)
  replace ha0 := ha0.entry
  show XC Tryz.prog OA none _ _ [] [(0, v0), (1, .int .i64 limit), (2, .agg #[.int .i64 s.1, .int .i64 s.2])] (entry h) _
  refine XC.seq ?_
  refine XC.text ?_
  have hp := hE.pos
  have ht := hE.top
  have hw0 := okE_w hE
  have w2 := weight_bound (F := fun _ => true) hw0
  have w3 := total_pos hE
  have hC0 := hE.all _ (List.getElem_mem hE.pos)
  have h96 := hC0.top
  refine XO.boxR rfl (RepV.mk2 (a := (.int .i64)) (b := (.int .i64)) (x := s) (RepV.ofInt .i64 _) (RepV.ofInt .i64 _) rfl rfl) (hA.ok hok) (hA.inS hS) rfl rfl ?_
  intro p136 h136 b136 a136
  have ok137 := hA.ok hok
  have gg137 : Goes (entry h) S h136 S := a136.nx ok137
  replace hA := hA.trans a136
  replace ha0 := ha0.nx gg137
  refine XO.allocB (z := .agg #[.int .i64 0, .int .i64 0]) (by kernel_rfl) rfl rfl hA hok rfl rfl ?_
  intro p138 h138 b138 a138 gs138
  have ok139 := hA.ok hok
  have gg139 : Goes h136 S h138 (ownP p138 ++ S) := gs138 _
  replace hA := hA.trans a138
  replace ha0 := ha0.nx gg139
  replace b136 := b136.nx gg139
  refine XO.nil (thenC.go ?_)
  refine XC.seq ?_
  refine XC.text ?_
  refine XO.c (.assign rfl) rfl rfl ?_
  refine XO.nil (thenC.go ?_)
  refine XC.seq ?_
  refine XC.seq ?_
  refine XC.text ?_
  refine XO.c (.assign rfl) rfl rfl ?_
  refine XO.nil (thenC.go ?_)
  refine XC.block ?_
  have hAL140 := hA
  have hkL140 := hA.ok hok
  have hSL140 := (b138.inS (hA.ok hok) (hA.inS hS))
  have b138L140 := b138
  refine XC.keep [(0, v0), (1, .int .i64 limit), (5, p136), (6, p138), (7, .int .i64 (weightE (passE limit s) (l.take 0))), (8, .int .i64 ((0 : Nat) : Int))] ⟨rfl, rfl, rfl, rfl, (congrArg (fun z => some z) (by rfl)), rfl, trivial⟩ ?_
  refine XC.loopI (I := fun (kk : Nat) (ff : FL) (hh : Heap) => ∃ (i : Nat), kk = l.length - i ∧ ff = [(0, v0), (1, .int .i64 limit), (5, p136), (6, p138), (7, .int .i64 (weightE (passE limit s) (l.take i))), (8, .int .i64 ((i : Nat) : Int))] ∧ After (entry h) hh ∧ After h138 hh ∧ Goes h138 (ownP p138 ++ S) hh (ownP p138 ++ S) ∧ (i ≤ l.length)) ?_ _ _ _ ⟨0, rfl, rfl, hA, After.refl _, Goes.refl, (by omega)⟩
  clear hA
  rintro kk ff hh140 ⟨i, hk140, rfl, hA, aL140, nL140, hi⟩
  replace ha0 := ha0.nx nL140
  replace b136 := b136.nx nL140
  replace b138 := b138.keep aL140 hkL140
  refine XC.seq ?_
  refine XC.seq ?_
  refine XC.text ?_
  refine XO.c (.move rfl) rfl rfl ?_
  refine XO.c (.move rfl) rfl rfl ?_
  refine XO.a (.len rfl (ha0.len el54)) rfl rfl ?_
  refine XO.c (.lss rfl rfl) rfl rfl ?_
  refine XO.nil (thenC.go ?_)
  refine XC.condD rfl (fun c3 => ?_) (fun c3 => ?_)
  · refine XC.skip (thenC.go ?_)
    refine XC.seq ?_
    refine XC.block ?_
    refine XC.seq ?_
    refine XC.text ?_
    have hC := hE.all _ (List.getElem_mem (show i < l.length by omega))
    have hC1 := hC.len
    refine XO.c (.assign rfl) rfl rfl ?_
    refine XO.nil (thenC.go ?_)
    refine XC.seq ?_
    refine XC.seq ?_
    refine XC.text ?_
    refine XO.c (.fieldAddr rfl ((b136).fa (f := 0) (k := 0) (by kernel_rfl))) rfl rfl ?_
    refine XO.r (.load rfl (((b136).base.fst').ldInt vt3)) rfl rfl ?_
    refine XO.c (.assign rfl) rfl rfl ?_
    refine XO.nil (thenC.go ?_)
    refine XC.block ?_
    have hAL141 := hA
    have hkL141 := hA.ok hok
    have hSL141 := (b138.inS (hA.ok hok) (hA.inS hS))
    have b138L141 := b138
    have aL140o141 := aL140
    refine XC.keep [(0, v0), (1, .int .i64 limit), (5, p136), (6, p138), (7, .int .i64 (weightE (passE limit s) (l.take i))), (8, .int .i64 ((i : Nat) : Int)), (9, .bool (((l[i].2.take s.1.toNat).drop s.1.toNat).any fun n => decide (limit < n))), (10, .int .i64 ((s.1.toNat : Nat) : Int))] ⟨rfl, rfl, rfl, rfl, rfl, rfl, (congrArg (fun z => some z) (by rw [show (l[i].2.take s.1.toNat).drop s.1.toNat = [] from List.drop_eq_nil_of_le (by rw [List.length_take]; omega)]; rfl)), (congrArg (fun z => some z) (by exact congrArg _ (Int.toNat_of_nonneg hsp.1).symm)), trivial⟩ ?_
    refine XC.loopI (I := fun (kk : Nat) (ff : FL) (hh : Heap) => ∃ (t : Nat), kk = s.2.toNat - t ∧ ff = [(0, v0), (1, .int .i64 limit), (5, p136), (6, p138), (7, .int .i64 (weightE (passE limit s) (l.take i))), (8, .int .i64 ((i : Nat) : Int)), (9, .bool (((l[i].2.take t).drop s.1.toNat).any fun n => decide (limit < n))), (10, .int .i64 ((t : Nat) : Int))] ∧ After (entry h) hh ∧ After hh140 hh ∧ Goes hh140 (ownP p138 ++ S) hh (ownP p138 ++ S) ∧ (s.1.toNat ≤ t ∧ t ≤ s.2.toNat)) ?_ _ _ _ ⟨s.1.toNat, rfl, rfl, hA, After.refl _, Goes.refl, (by omega)⟩
    clear hA
    rintro kk ff hh141 ⟨t, hk141, rfl, hA, aL141, nL141, ht2⟩
    replace aL140 := aL140.trans aL141
    replace nL140 := nL140.trans nL141
    replace ha0 := ha0.nx nL141
    replace b136 := b136.nx nL141
    replace b138 := b138.keep aL141 hkL141
    refine XC.seq ?_
    refine XC.seq ?_
    refine XC.text ?_
    refine XO.c (.move rfl) rfl rfl ?_
    refine XO.c (.fieldAddr rfl ((b136).fa (f := 1) (k := 1) (by kernel_rfl))) rfl rfl ?_
    refine XO.r (.load rfl ((((b136).base.snd' (m := 1) rfl (b136).isP)).ldInt vt3)) rfl rfl ?_
    refine XO.c (.lss rfl rfl) rfl rfl ?_
    refine XO.nil (thenC.go ?_)
    refine XC.condD rfl (fun c7 => ?_) (fun c7 => ?_)
    · refine XC.skip (thenC.go ?_)
      refine XC.seq ?_
      refine XC.block ?_
      refine XC.text ?_
      refine XO.c (.move rfl) rfl rfl ?_
      refine XO.c (.move rfl) rfl rfl ?_
      refine XO.splitB (x := 26) rfl (fun g9_1 => ?_) (fun g9_1 => ?_)
      · refine XO.skip rfl rfl rfl rfl rfl ?_
        refine XO.skip rfl rfl rfl rfl rfl ?_
        refine XO.skip rfl rfl rfl rfl rfl ?_
        refine XO.skip rfl rfl rfl rfl rfl ?_
        refine XO.skip rfl rfl rfl rfl rfl ?_
        refine XO.skip rfl rfl rfl rfl rfl ?_
        refine XO.skip rfl rfl rfl rfl rfl ?_
        refine XO.skip rfl rfl rfl rfl rfl ?_
        refine XO.skip rfl rfl rfl rfl rfl ?_
        refine XO.skip rfl rfl rfl rfl rfl ?_
        refine XO.c (.pickT rfl rfl) rfl rfl ?_
        refine XO.c (.assign rfl) rfl rfl ?_
        refine XO.nil ?_
        intro tf htf
        refine inBlock_nrm ?_
        refine thenC.go ?_ tf htf
        refine XC.text ?_
        refine XO.c (.move rfl) rfl rfl ?_
        refine XO.c (.add rfl rfl (by omega)) rfl rfl ?_
        refine XO.c (.assign rfl) rfl rfl ?_
        refine XO.nil ?_
        intro tf htf
        refine ⟨rfl, rfl, _, [(0, v0), (1, .int .i64 limit), (5, p136), (6, p138), (7, .int .i64 (weightE (passE limit s) (l.take i))), (8, .int .i64 ((i : Nat) : Int)), (9, .bool (((l[i].2.take (t + 1)).drop s.1.toNat).any fun n => decide (limit < n))), (10, .int .i64 (((t + 1) : Nat) : Int))], ?_, htf.keep _ ⟨rfl, rfl, rfl, rfl, rfl, rfl, (congrArg (fun z => some z) (by rw [pass_succ (by omega) (by omega)]; first | (rw [g9_1]; rfl) | (rw [g9_1]; simp))), rfl, trivial⟩, (t + 1), rfl, rfl, hA, aL141, nL141, (by omega)⟩
        omega
      · refine XO.gc rfl rfl rfl (.move rfl) rfl rfl ?_
        refine XO.gc rfl rfl rfl (.move rfl) rfl rfl ?_
        refine XO.gc rfl rfl rfl (.indexAddr rfl rfl rfl (ha0.ix (j := i) el54 (by omega))) rfl rfl ?_
        refine XO.gc rfl rfl rfl (.fieldAddr rfl (((ha0.at (j := i) (by omega))).fa (f := 1) (k := 1) (by kernel_rfl))) rfl rfl ?_
        obtain ⟨u142, e142, s142⟩ := ((((ha0.at (j := i) (by omega))).base.snd' (m := 1) rfl ((ha0.at (j := i) (by omega))).isP)).ldSl vt22
        refine XO.gr rfl rfl rfl (.load rfl (e142)) rfl rfl ?_
        refine XO.gc rfl rfl rfl (.move rfl) rfl rfl ?_
        refine XO.gc rfl rfl rfl (.indexAddr rfl rfl rfl (s142.ix (j := t) el22 (by omega))) rfl rfl ?_
        refine XO.gr rfl rfl rfl (.load rfl (((s142.at (j := t) (by omega))).ldInt vt3)) rfl rfl ?_
        refine XO.gc rfl rfl rfl (.move rfl) rfl rfl ?_
        refine XO.gc rfl rfl rfl (.gtr rfl rfl) rfl rfl ?_
        refine XO.c (.pickF rfl rfl) rfl rfl ?_
        refine XO.c (.assign rfl) rfl rfl ?_
        refine XO.nil ?_
        intro tf htf
        refine inBlock_nrm ?_
        refine thenC.go ?_ tf htf
        refine XC.text ?_
        refine XO.c (.move rfl) rfl rfl ?_
        refine XO.c (.add rfl rfl (by omega)) rfl rfl ?_
        refine XO.c (.assign rfl) rfl rfl ?_
        refine XO.nil ?_
        intro tf htf
        refine ⟨rfl, rfl, _, [(0, v0), (1, .int .i64 limit), (5, p136), (6, p138), (7, .int .i64 (weightE (passE limit s) (l.take i))), (8, .int .i64 ((i : Nat) : Int)), (9, .bool (((l[i].2.take (t + 1)).drop s.1.toNat).any fun n => decide (limit < n))), (10, .int .i64 (((t + 1) : Nat) : Int))], ?_, htf.keep _ ⟨rfl, rfl, rfl, rfl, rfl, rfl, (congrArg (fun z => some z) (by rw [pass_succ (by omega) (by omega)]; first | (rw [g9_1]; rfl) | (rw [g9_1]; simp))), rfl, trivial⟩, (t + 1), rfl, rfl, hA, aL141, nL141, (by omega)⟩
        omega
    · refine XC.exit ?_
      intro tf htf
      refine thenC_exit ?_
      refine loopQ_exit ?_
      refine inBlock_eq ?_
      refine thenC.go ?_ tf htf
      refine XC.seq ?_
      refine XC.text ?_
      have e9 : t = s.2.toNat := by omega
      subst e9
      have hb := weight_bound' (F := passE limit s) hw0 i
      have hcw := hw0 _ (List.getElem_mem (show i < l.length by omega))
      refine XO.c (.move rfl) rfl rfl ?_
      refine XO.nil (thenC.go ?_)
      refine XC.condB rfl (fun c10 => ?_) (fun c10 => ?_)
      · refine XC.text ?_
        refine XO.c (.move rfl) rfl rfl ?_
        refine XO.c (.move rfl) rfl rfl ?_
        refine XO.c (.move rfl) rfl rfl ?_
        refine XO.c (.indexAddr rfl rfl rfl (ha0.ix (j := i) el54 (by omega))) rfl rfl ?_
        refine XO.c (.fieldAddr rfl (((ha0.at (j := i) (by omega))).fa (f := 0) (k := 0) (by kernel_rfl))) rfl rfl ?_
        refine XO.r (.load rfl ((((ha0.at (j := i) (by omega))).base.fst').ldInt vt3)) rfl rfl ?_
        refine XO.c (.add rfl rfl (by omega)) rfl rfl ?_
        refine XO.c (.assign rfl) rfl rfl ?_
        refine XO.nil ?_
        intro tf htf
        refine inBlock_nrm ?_
        refine thenC.go ?_ tf htf
        refine XC.text ?_
        refine XO.c (.move rfl) rfl rfl ?_
        refine XO.c (.add rfl rfl (by omega)) rfl rfl ?_
        refine XO.c (.assign rfl) rfl rfl ?_
        refine XO.nil ?_
        intro tf htf
        refine ⟨rfl, rfl, _, [(0, v0), (1, .int .i64 limit), (5, p136), (6, p138), (7, .int .i64 (weightE (passE limit s) (l.take (i + 1)))), (8, .int .i64 (((i + 1) : Nat) : Int))], ?_, htf.keep _ ⟨rfl, rfl, rfl, rfl, (congrArg (fun z => some z) (by rw [weight_succ (by omega)]; first | (rw [if_pos (show passE limit s l[i] = true by rw [passE]; exact c10)]) | (rw [if_neg (show ¬ passE limit s l[i] = true by rw [passE, c10]; decide)]; simp))), rfl, trivial⟩, (i + 1), rfl, rfl, hA, aL140, nL140, (by omega)⟩
        omega
      · refine XC.skip ?_
        intro tf htf
        refine inBlock_nrm ?_
        refine thenC.go ?_ tf htf
        refine XC.text ?_
        refine XO.c (.move rfl) rfl rfl ?_
        refine XO.c (.add rfl rfl (by omega)) rfl rfl ?_
        refine XO.c (.assign rfl) rfl rfl ?_
        refine XO.nil ?_
        intro tf htf
        refine ⟨rfl, rfl, _, [(0, v0), (1, .int .i64 limit), (5, p136), (6, p138), (7, .int .i64 (weightE (passE limit s) (l.take (i + 1)))), (8, .int .i64 (((i + 1) : Nat) : Int))], ?_, htf.keep _ ⟨rfl, rfl, rfl, rfl, (congrArg (fun z => some z) (by rw [weight_succ (by omega)]; first | (rw [if_pos (show passE limit s l[i] = true by rw [passE]; exact c10)]) | (rw [if_neg (show ¬ passE limit s l[i] = true by rw [passE, c10]; decide)]; simp))), rfl, trivial⟩, (i + 1), rfl, rfl, hA, aL140, nL140, (by omega)⟩
        omega
  · refine XC.exit ?_
    intro tf htf
    refine thenC_exit ?_
    refine loopQ_exit ?_
    refine inBlock_eq ?_
    refine thenC.go ?_ tf htf
    refine XC.seq ?_
    refine XC.text ?_
    have e12 : l.take i = l := List.take_of_length_le (by omega)
    have w1 := weight_bound (F := passE limit s) hw0
    refine XO.c (.move rfl) rfl rfl ?_
    refine XO.c (.move rfl) rfl rfl ?_
    refine XO.call rfl rfl rfl rfl ?_
    refine EvF.mono (rTotal_ok (hA.ok hok) (b138.inS (hA.ok hok) (hA.inS hS)) ha0 (by omega) hw0) ?_
    rintro _ _ ⟨rfl, hh⟩
    obtain rfl := hh.symm
    clear hh
    refine XO.call rfl rfl rfl rfl ?_
    refine EvF.mono (rLowest_ok (hA.ok hok) (b138.inS (hA.ok hok) (hA.inS hS))  (by rw [e12]; omega) (by omega)) ?_
    rintro _ _ ⟨rfl, hh⟩
    obtain rfl := hh.symm
    clear hh
    obtain ⟨h145, e145, b145, a145, n145, nn145, fr145, lw145⟩ := b138.st0 (S := S) (h0 := entry h) (u := .agg #[.int .i64 ((lowE (weightE (passE limit s) (l.take i)) (weightE (fun _ => true) l)).1), .int .i64 ((lowE (weightE (passE limit s) (l.take i)) (weightE (fun _ => true) l)).2)]) vt58 rfl rfl (Nat.le_of_ble_eq_true rfl) (One.oneAll ⟨⟨rfl, rfl⟩, ⟨⟨rfl, rfl⟩, trivial⟩⟩) hA (show HOk hh140 from hA.ok hok)
    refine XO.st rfl rfl e145 ?_
    have ok146 := hA.ok hok
    have gg146 : Goes hh140 (ownP p138 ++ S) h145 (ownP p138 ++ S) := n145
    replace hA := a145
    replace ha0 := ha0.nx gg146
    replace b136 := b136.nx gg146
    refine XO.nil (thenC.go ?_)
    refine XC.ret fun tf htf => ?_
    refine endF.cell rfl rfl (htf 6 _ rfl) (b145.ldA vt58 rfl rfl) ?_
    refine ⟨?_, hA.leftAf rfl⟩
    rw [e12]; rfl
end Go.Proofs
namespace Go.Proofs
open Go.Fs
set_option linter.unusedVariables false

theorem cNaN_ok {h : Heap} {S : List Nat} {x : Int} (hok : HOk h) (hS : ∀ b ∈ S, b < h.next) : EvF Tryz.prog OA 208 [.int .i64 x] h fun r h' => r = .bool false ∧ h' = h := by
  refine XF.enter Tryz.func208 rfl rfl rfl ?_
  have hok : HOk (entry h) := hok
  have hA := After.refl (entry h)
  show XC Tryz.prog OA none _ _ [] [(0, .int .i64 x)] (entry h) _
  refine XC.seq ?_
  refine XC.text ?_
  refine XO.c (.assign rfl) rfl rfl ?_
  refine XO.nil (thenC.go ?_)
  refine XC.seq ?_
  refine XC.text ?_
  refine XO.c (.move rfl) rfl rfl ?_
  refine XO.c (.move rfl) rfl rfl ?_
  refine XO.c (.neq rfl rfl) rfl rfl ?_
  refine XO.c (.assign rfl) rfl rfl ?_
  refine XO.nil (thenC.go ?_)
  refine XC.ret fun tf htf => ?_
  refine endF.one rfl rfl (htf 2 _ rfl) ?_
  exact ⟨congrArg Value.bool (by simp), hA.leftAf rfl⟩
theorem cLess_ok {h : Heap} {S : List Nat} {x : Int} {y : Int} (hok : HOk h) (hS : ∀ b ∈ S, b < h.next) : EvF Tryz.prog OA 196 [.int .i64 x, .int .i64 y] h fun r h' => r = .bool (decide (x < y)) ∧ h' = h := by
  refine XF.enter Tryz.func196 rfl rfl rfl ?_
  have hok : HOk (entry h) := hok
  have hA := After.refl (entry h)
  show XC Tryz.prog OA none _ _ [] [(0, .int .i64 x), (1, .int .i64 y)] (entry h) _
  refine XC.seq ?_
  refine XC.text ?_
  refine XO.c (.assign rfl) rfl rfl ?_
  refine XO.nil (thenC.go ?_)
  refine XC.seq ?_
  refine XC.text ?_
  refine XO.c (.move rfl) rfl rfl ?_
  refine XO.call rfl rfl rfl rfl ?_
  refine EvF.mono (cNaN_ok (hA.ok hok) (hA.inS hS)  ) ?_
  rintro _ _ ⟨rfl, hh⟩
  obtain rfl := hh.symm
  clear hh
  refine XO.c (.move rfl) rfl rfl ?_
  refine XO.skip rfl rfl rfl rfl rfl ?_
  refine XO.skip rfl rfl rfl rfl rfl ?_
  refine XO.skip rfl rfl rfl rfl rfl ?_
  refine XO.c (.pickF rfl rfl) rfl rfl ?_
  refine XO.c (.move rfl) rfl rfl ?_
  refine XO.gc rfl rfl rfl (.move rfl) rfl rfl ?_
  refine XO.gc rfl rfl rfl (.move rfl) rfl rfl ?_
  refine XO.gc rfl rfl rfl (.lss rfl rfl) rfl rfl ?_
  refine XO.c (.pickF rfl rfl) rfl rfl ?_
  refine XO.c (.assign rfl) rfl rfl ?_
  refine XO.nil (thenC.go ?_)
  refine XC.ret fun tf htf => ?_
  refine endF.one rfl rfl (htf 4 _ rfl) ?_
  exact ⟨congrArg Value.bool (by simp_all), hA.leftAf rfl⟩
def sortE (l : List Int) : List Int := l.mergeSort fun a b => decide (a ≤ b)
theorem sortE_perm (l : List Int) : (sortE l).Perm l := List.mergeSort_perm _ _
theorem sortE_sorted (l : List Int) : (sortE l).Pairwise (· ≤ ·) := by
  have := List.pairwise_mergeSort (le := fun a b : Int => decide (a ≤ b)) (fun a b c h1 h2 => by simp at *; omega) (fun a b => by simp; omega) l
  exact this.imp fun h => of_decide_eq_true h
theorem sortE_eq {l ys : List Int} (hp : ys.Perm l) (hs : ys.Pairwise (· ≤ ·)) : ys = sortE l :=
  List.Perm.eq_of_pairwise (le := (· ≤ ·)) (fun a b _ _ h1 h2 => by omega) hs (sortE_sorted l) (hp.trans (sortE_perm l).symm)
theorem getD_get {l : List Int} {k : Nat} (h : k < l.length) : l.getD k 0 = l[k] := by simp [List.getD, h]
def swapE (ws : List Int) (j : Nat) : List Int := (ws.set j (ws.getD (j - 1) 0)).set (j - 1) (ws.getD j 0)
theorem swap_perm {ws : List Int} {j : Nat} (h0 : 0 < j) (hl : j < ws.length) : (swapE ws j).Perm ws := by
  have h1 : j - 1 < ws.length := by omega
  have := List.set_set_perm hl h1
  unfold swapE
  rw [getD_get h1, getD_get hl]
  exact this
theorem swap_get {ws : List Int} {j k : Nat} (h0 : 0 < j) (hl : j < ws.length) : (swapE ws j).getD k 0 = if k = j - 1 then ws.getD j 0 else if k = j then ws.getD (j - 1) 0 else ws.getD k 0 := by
  unfold swapE
  simp only [List.getD_eq_getElem?_getD, List.getElem?_set, List.length_set]
  by_cases h1 : k = j - 1
  · subst h1
    rw [if_pos rfl, if_pos rfl, if_pos (by omega)]; rfl
  · rw [if_neg (fun e => h1 e.symm), if_neg h1]
    by_cases h2 : k = j
    · subst h2
      rw [if_pos rfl, if_pos rfl, if_pos hl]; rfl
    · rw [if_neg (fun e => h2 e.symm), if_neg h2]
def SortedTo (zs : List Int) (n : Nat) : Prop := ∀ p q, p < q → q < n → zs.getD p 0 ≤ zs.getD q 0
def InsInv (ws : List Int) (i j : Nat) : Prop := (∀ p q, p < q → q ≤ i → p ≠ j → q ≠ j → ws.getD p 0 ≤ ws.getD q 0) ∧ (∀ q, j < q → q ≤ i → ws.getD j 0 ≤ ws.getD q 0)
theorem ins_init {zs : List Int} {i : Nat} (h : SortedTo zs i) : InsInv zs i i := ⟨fun p q h1 h2 _ h4 => h p q h1 (by omega), fun q h1 h2 => by omega⟩
theorem ins_step {ws : List Int} {i j : Nat} (h : InsInv ws i j) (h0 : 0 < j) (hj : j ≤ i) (hl : i < ws.length) (hlt : ws.getD j 0 < ws.getD (j - 1) 0) : InsInv (swapE ws j) i (j - 1) := by
  constructor
  · intro p q h1 h2 h3 h4
    rw [swap_get h0 (by omega), swap_get h0 (by omega), if_neg h3, if_neg h4]
    by_cases hp : p = j
    · rw [if_pos hp, if_neg (by omega)]
      exact h.1 (j - 1) q (by omega) h2 (by omega) (by omega)
    · rw [if_neg hp]
      by_cases hq : q = j
      · rw [if_pos hq]
        exact h.1 p (j - 1) (by omega) (by omega) hp (by omega)
      · rw [if_neg hq]
        exact h.1 p q h1 h2 hp hq
  · intro q h1 h2
    rw [swap_get h0 (by omega), swap_get h0 (by omega), if_pos rfl, if_neg (by omega)]
    by_cases hq : q = j
    · rw [if_pos hq]; omega
    · rw [if_neg hq]
      exact h.2 q (by omega) h2
theorem ins_end {ws : List Int} {i j : Nat} (h : InsInv ws i j) (hj : j ≤ i) (he : j = 0 ∨ ws.getD (j - 1) 0 ≤ ws.getD j 0) : SortedTo ws (i + 1) := by
  intro p q h1 h2
  by_cases hp : p = j
  · rw [hp]; exact h.2 q (by omega) (by omega)
  · by_cases hq : q = j
    · subst hq
      rcases he with he | he
      · omega
      · by_cases h3 : p = q - 1
        · rw [h3]; exact he
        · have := h.1 p (q - 1) (by omega) (by omega) hp (by omega)
          omega
    · exact h.1 p q h1 (by omega) hp hq
theorem sorted_end {zs : List Int} (h : SortedTo zs zs.length) : zs.Pairwise (· ≤ ·) := by
  rw [List.pairwise_iff_getElem]
  intro i j hi hj hij
  have := h i j hij hj
  rwa [getD_get hi, getD_get hj] at this
theorem swap_mem {ws : List Int} {j : Nat} {z : Int} (hz : z = (j : Int) - 1) (h0 : 0 < j) (hl : j < ws.length) : (ws.set j (ws[z.toNat]'(by omega))).set z.toNat ws[j] = swapE ws j := by
  have e : z.toNat = j - 1 := by omega
  unfold swapE
  rw [getD_get (show j - 1 < ws.length by omega), getD_get hl]
  simp only [e]
theorem ins_lt {ws : List Int} {j : Nat} {z : Int} (hz : z = (j : Int) - 1) (h0 : 0 < j) (hl : j < ws.length) : (ws[j] < ws[z.toNat]'(by omega)) ↔ ws.getD j 0 < ws.getD (j - 1) 0 := by
  have e : z.toNat = j - 1 := by omega
  rw [getD_get (show j - 1 < ws.length by omega), getD_get hl]
  simp only [e]
theorem zIns_ok {h : Heap} {S : List Nat} {h0 : Heap} {m : Bool} {v0 : Value} {l : List Int} {a : Int} {b : Int} (hok : HOk h0) (hS : ∀ b ∈ S, b < h0.next) (hA : After h0 h) (hg0 : GrowR h (ownB v0 ++ S) h0.next 3 m (.int .i64) v0 l) (ha : a = 0) (hb : b = (l.length : Nat)) (hl : l.length < 100000) : EvF Tryz.prog OA 190 [v0, .int .i64 a, .int .i64 b] h fun r h' => r = .tuple #[] ∧ Wrote h h' S h0 3 m (.int .i64) v0 l (sortE l) := by
  refine XF.enter Tryz.func190 rfl rfl rfl ?_
  have hA0 := hA
  replace hA := hA.toEntry
  have hge := hg0.chg (h' := entry h) (fun _ _ => rfl) (Goes.objs fun _ => rfl) (fun b hb => List.mem_append_left _ hb)
  have nT : Goes (entry h) (ownB v0 ++ S) (entry h) (ownB v0 ++ S) := Goes.refl
  show XC Tryz.prog OA none _ _ [] [(0, v0), (1, .int .i64 a), (2, .int .i64 b)] (entry h) _
  refine XC.seq ?_
  refine XC.text ?_
  refine XO.c (.move rfl) rfl rfl ?_
  refine XO.c (.add rfl rfl (by omega)) rfl rfl ?_
  refine XO.c (.assign rfl) rfl rfl ?_
  refine XO.nil (thenC.go ?_)
  refine XC.block ?_
  have hAL102 := hA
  have hkL102 := hA.ok hok
  have hSL102 := (hge.inS (hA.ok hok) (hA.inS hS))
  have hgeL102 := hge
  refine XC.keep [(0, v0), (1, .int .i64 a), (2, .int .i64 b), (6, .int .i64 ((1 : Nat) : Int))] ⟨rfl, rfl, rfl, (congrArg (fun z => some z) (by rw [ha]; rfl)), trivial⟩ ?_
  refine XC.loopI (I := fun (kk : Nat) (ff : FL) (hh : Heap) => ∃ (i : Nat) (zs : List Int), kk = l.length - i ∧ ff = [(0, v0), (1, .int .i64 a), (2, .int .i64 b), (6, .int .i64 ((i : Nat) : Int))] ∧ After h0 hh ∧ True ∧ Goes (entry h) (ownB v0 ++ S) hh (ownB v0 ++ S) ∧ GrowR hh (ownB v0 ++ S) h0.next 3 m (.int .i64) v0 zs ∧ (1 ≤ i ∧ (i ≤ l.length ∨ i = 1)) ∧ (zs.Perm l) ∧ (SortedTo zs i) ∧ ((hh = entry h ∧ zs = l) ∨ hh.low < h.next)) ?_ _ _ _ ⟨1, l, rfl, rfl, hA, trivial, Goes.refl, (by exact hge), (by omega), (by exact .refl _), (by (intro p q h1 h2; omega)), (by exact .inl ⟨rfl, rfl⟩)⟩
  clear hA
  rintro kk ff hh102 ⟨i, zs, hk102, rfl, hA, _, nL102, gm_0_102, hi, hp, hz, kp⟩
  replace nT := nT.trans nL102
  have hzl := hp.length_eq
  refine XC.seq ?_
  refine XC.seq ?_
  refine XC.text ?_
  refine XO.c (.move rfl) rfl rfl ?_
  refine XO.c (.move rfl) rfl rfl ?_
  refine XO.c (.lss rfl rfl) rfl rfl ?_
  refine XO.nil (thenC.go ?_)
  refine XC.condD rfl (fun c1 => ?_) (fun c1 => ?_)
  · refine XC.skip (thenC.go ?_)
    refine XC.seq ?_
    refine XC.block ?_
    refine XC.seq ?_
    refine XC.text ?_
    refine XO.c (.move rfl) rfl rfl ?_
    refine XO.c (.assign rfl) rfl rfl ?_
    refine XO.nil (thenC.go ?_)
    refine XC.block ?_
    have hAL103 := hA
    have hkL103 := hA.ok hok
    have hSL103 := (gm_0_102.inS (hA.ok hok) (hA.inS hS))
    have gm_0_102L103 := gm_0_102
    refine XC.keep [(0, v0), (1, .int .i64 a), (2, .int .i64 b), (6, .int .i64 ((i : Nat) : Int)), (7, .int .i64 ((i : Nat) : Int))] ⟨rfl, rfl, rfl, rfl, rfl, trivial⟩ ?_
    refine XC.loopI (I := fun (kk : Nat) (ff : FL) (hh : Heap) => ∃ (j : Nat) (ws : List Int), kk = j ∧ ff = [(0, v0), (1, .int .i64 a), (2, .int .i64 b), (6, .int .i64 ((i : Nat) : Int)), (7, .int .i64 ((j : Nat) : Int))] ∧ After h0 hh ∧ True ∧ Goes hh102 (ownB v0 ++ S) hh (ownB v0 ++ S) ∧ GrowR hh (ownB v0 ++ S) h0.next 3 m (.int .i64) v0 ws ∧ (j ≤ i) ∧ (ws.Perm l) ∧ (InsInv ws i j) ∧ ((hh = entry h ∧ ws = l) ∨ hh.low < h.next)) ?_ _ _ _ ⟨i, zs, rfl, rfl, hA, trivial, Goes.refl, (by exact gm_0_102), (by omega), (by exact hp), (by exact ins_init hz), (by exact kp)⟩
    clear hA
    rintro kk ff hh103 ⟨j, ws, hk103, rfl, hA, _, nL103, gm_0_103, hj, hp2, hz2, kp2⟩
    replace nT := nT.trans nL103
    replace nL102 := nL102.trans nL103
    have hwl := hp2.length_eq
    refine XC.seq ?_
    refine XC.seq ?_
    refine XC.drawn ?_
    have hkr104 := hA.ok hok
    have hSr104 := (gm_0_103.inS (hA.ok hok) (hA.inS hS))
    refine XD.c (b := 0) (.move rfl) rfl rfl rfl ?_
    refine XD.c (b := 0) (.move rfl) rfl rfl rfl ?_
    refine XD.c (b := 3) (.gtr rfl rfl) rfl rfl rfl ?_
    refine XD.c (b := 7) (.move rfl) rfl rfl rfl ?_
    refine XD.splitD (x := 19) rfl (fun g4_3 => ?_) (fun g4_3 => ?_)
    · refine XD.gc (b := 15) rfl rfl rfl (.move rfl) rfl rfl rfl ?_
      refine XD.gc (b := 15) rfl rfl rfl (.move rfl) rfl rfl rfl ?_
      refine XD.gc (b := 63) rfl rfl rfl (.indexAddr rfl rfl rfl (gm_0_103.ix (j := j) el22 (by omega))) rfl rfl rfl ?_
      refine XD.gld (b := 127) rfl rfl rfl (After.refl _) SegsOk.nil hkr104 rfl (gm_0_103.ldInt (j := j) vt3 (by omega)) rfl rfl rfl rfl ?_
      refine XD.gc (b := 15) rfl rfl rfl (.move rfl) rfl rfl rfl ?_
      refine XD.gc (b := 15) rfl rfl rfl (.move rfl) rfl rfl rfl ?_
      refine XD.gc (b := 527) rfl rfl rfl (.sub rfl rfl (by omega)) rfl rfl rfl ?_
      refine XD.gc (b := 1807) rfl rfl rfl (.indexAddr rfl rfl rfl (gm_0_103.ixZ (z := (((j : Nat) : Int) - (1 : Int))) el22 (by omega) (by omega))) rfl rfl rfl ?_
      refine XD.gld (b := 3855) rfl rfl rfl (After.refl _) (SegsOk.cons ((After.refl _)).next SegsOk.nil) hkr104 rfl (gm_0_103.ldInt (j := (Int.toNat (((j : Nat) : Int) - (1 : Int)))) vt3 (by omega)) rfl rfl rfl rfl ?_
      refine XD.gcallV (bb := 8191) rfl rfl rfl (After.refl _) (SegsOk.cons ((After.refl _)).next (SegsOk.cons ((After.refl _)).next SegsOk.nil)) rfl rfl rfl rfl rfl rfl ?_
      intro M105 aM105 oM105
      refine EvF.mono (cLess_ok (aM105.ok hkr104) (aM105.inS hSr104)  ) ?_
      rintro _ _ ⟨rfl, hh⟩
      refine ⟨hh, ?_⟩
      clear hh
      refine XD.c (b := 16383) (.pickT rfl rfl) rfl rfl rfl ?_
      refine XD.nil (thenC.go ?_)
      refine XC.condB rfl (fun c4 => ?_) (fun c4 => ?_)
      · refine XC.skip (thenC.go ?_)
        refine XC.seq ?_
        refine XC.block ?_
        refine XC.drawn ?_
        have hkr106 := hA.ok hok
        have hSr106 := (gm_0_103.inS (hA.ok hok) (hA.inS hS))
        refine XD.c (b := 0) (.move rfl) rfl rfl rfl ?_
        refine XD.c (b := 0) (.move rfl) rfl rfl rfl ?_
        refine XD.c (b := 0) (.move rfl) rfl rfl rfl ?_
        refine XD.c (b := 0) (.move rfl) rfl rfl rfl ?_
        refine XD.c (b := 8) (.sub rfl rfl (by omega)) rfl rfl rfl ?_
        refine XD.c (b := 0) (.move rfl) rfl rfl rfl ?_
        refine XD.c (b := 0) (.move rfl) rfl rfl rfl ?_
        refine XD.c (b := 64) (.sub rfl rfl (by omega)) rfl rfl rfl ?_
        refine XD.c (b := 224) (.indexAddr rfl rfl rfl (gm_0_103.ixZ (z := (((j : Nat) : Int) - (1 : Int))) el22 (by omega) (by omega))) rfl rfl rfl ?_
        refine XD.ld (b := 480) (After.refl _) SegsOk.nil hkr106 rfl (gm_0_103.ldInt (j := (Int.toNat (((j : Nat) : Int) - (1 : Int)))) vt3 (by omega)) rfl rfl rfl rfl ?_
        refine XD.c (b := 0) (.move rfl) rfl rfl rfl ?_
        refine XD.c (b := 0) (.move rfl) rfl rfl rfl ?_
        refine XD.c (b := 3072) (.indexAddr rfl rfl rfl (gm_0_103.ix (j := j) el22 (by omega))) rfl rfl rfl ?_
        refine XD.ld (b := 7168) (After.refl _) (SegsOk.cons ((After.refl _)).next SegsOk.nil) hkr106 rfl (gm_0_103.ldInt (j := j) vt3 (by omega)) rfl rfl rfl rfl ?_
        refine XD.c (b := 16355) (.indexAddr rfl rfl rfl (gm_0_103.ix (j := j) el22 (by omega))) rfl rfl rfl ?_
        obtain ⟨h107, e107, g107, a107, n107, nn107, fr107, lw107, lo107⟩ := GrowR.setL (gm_0_103.chg (h' := (entry hh103)) (fun _ _ => rfl) (Goes.objs fun _ => rfl) (fun b hb => by simp [hb])) vt3 (j := j) (by omega) (RepV.ofInt .i64 _) hA.toEntry (show HOk (entry hh103) from hA.ok hok)
        refine XD.stL (b := 32739) rfl rfl e107 rfl rfl nn107 lw107 ?_
        intro hh107 o107 nx107 ll107 la107
        have ah107 := la107 _ hA a107
        replace g107 := g107.chg (fun b _ => o107 b) (Goes.objs o107) (fun b hb => by simp [hb])
        have gh107 : Goes hh103 (ownB v0 ++ S) hh107 (ownB v0 ++ S) := (show Goes hh103 (ownB v0 ++ S) (entry hh103) (ownB v0 ++ S) from Goes.objs fun _ => rfl).trans (n107.trans (Goes.objs o107))
        have lz107 : ∀ c ∈ ownB v0, hh107.low ≤ c := fun c hc => Nat.le_trans ll107 (lo107 c hc)
        have ok108 := hA.ok hok
        have gg108 : Goes hh103 (ownB v0 ++ S) hh107 (ownB v0 ++ S) := gh107
        replace hA := ah107
        replace nT := nT.trans gg108
        replace nL102 := nL102.trans gg108
        replace nL103 := nL103.trans gg108
        have hlow : hh107.low < h.next := by obtain ⟨c9, hc9, hl9⟩ := own_in hg0 (hA0.ok hok) (by omega); have := lz107 c9 hc9; omega
        refine XD.c (b := 65535) (.indexAddr rfl rfl rfl (g107.ixZ (z := (((j : Nat) : Int) - (1 : Int))) el22 (by omega) (by simp; omega))) rfl rfl rfl ?_
        obtain ⟨h109, e109, g109, a109, n109, nn109, fr109, lw109, lo109⟩ := GrowR.setL (g107.chg (h' := (entry hh107)) (fun _ _ => rfl) (Goes.objs fun _ => rfl) (fun b hb => by simp [hb])) vt3 (j := (Int.toNat (((j : Nat) : Int) - (1 : Int)))) (by simp; omega) (RepV.ofInt .i64 _) hA.toEntry (show HOk (entry hh107) from hA.ok hok)
        refine XD.stL (b := 131071) rfl rfl e109 rfl rfl nn109 lw109 ?_
        intro hh109 o109 nx109 ll109 la109
        have ah109 := la109 _ hA a109
        replace g109 := g109.chg (fun b _ => o109 b) (Goes.objs o109) (fun b hb => by simp [hb])
        have gh109 : Goes hh107 (ownB v0 ++ S) hh109 (ownB v0 ++ S) := (show Goes hh107 (ownB v0 ++ S) (entry hh107) (ownB v0 ++ S) from Goes.objs fun _ => rfl).trans (n109.trans (Goes.objs o109))
        have lz109 : ∀ c ∈ ownB v0, hh109.low ≤ c := fun c hc => Nat.le_trans ll109 (lo109 c hc)
        have ok110 := hA.ok hok
        have gg110 : Goes hh107 (ownB v0 ++ S) hh109 (ownB v0 ++ S) := gh109
        replace hA := ah109
        replace nT := nT.trans gg110
        replace nL102 := nL102.trans gg110
        replace nL103 := nL103.trans gg110
        have hlow : hh109.low < h.next := by obtain ⟨c9, hc9, hl9⟩ := own_in hg0 (hA0.ok hok) (by omega); have := lz109 c9 hc9; omega
        refine XD.nil ?_
        intro tf htf
        refine inBlock_nrm ?_
        refine thenC.go ?_ tf htf
        refine XC.text ?_
        refine XO.c (.move rfl) rfl rfl ?_
        refine XO.c (.sub rfl rfl (by omega)) rfl rfl ?_
        refine XO.c (.assign rfl) rfl rfl ?_
        refine XO.nil ?_
        intro tf htf
        refine ⟨rfl, rfl, _, [(0, v0), (1, .int .i64 a), (2, .int .i64 b), (6, .int .i64 ((i : Nat) : Int)), (7, .int .i64 (((j - 1) : Nat) : Int))], ?_, htf.keep _ ⟨rfl, rfl, rfl, rfl, (congrArg (fun z => some z) (by exact congrArg _ (by omega))), trivial⟩, (j - 1), (swapE ws j), rfl, rfl, hA, trivial, nL103, (by rw [← swap_mem (z := (j : Int) - 1) rfl (by omega) (by omega)]; exact g109), (by omega), (by exact (swap_perm (by omega) (by omega)).trans hp2), (by exact ins_step hz2 (by omega) hj (by omega) ((ins_lt rfl (by omega) (by omega)).1 (of_decide_eq_true c4))), (by exact .inr hlow)⟩
        omega
      · refine XC.exit ?_
        intro tf htf
        refine thenC_exit ?_
        refine loopQ_exit ?_
        refine inBlock_eq ?_
        refine inBlock_nrm ?_
        refine thenC.go ?_ tf htf
        refine XC.text ?_
        refine XO.c (.move rfl) rfl rfl ?_
        refine XO.c (.add rfl rfl (by omega)) rfl rfl ?_
        refine XO.c (.assign rfl) rfl rfl ?_
        refine XO.nil ?_
        intro tf htf
        refine ⟨rfl, rfl, _, [(0, v0), (1, .int .i64 a), (2, .int .i64 b), (6, .int .i64 (((i + 1) : Nat) : Int))], ?_, htf.keep _ ⟨rfl, rfl, rfl, rfl, trivial⟩, (i + 1), ws, rfl, rfl, hA, trivial, nL102, (by exact gm_0_103), (by omega), (by exact hp2), (by exact ins_end hz2 hj (by first | (left; omega) | (right; have h9 := of_decide_eq_false c4; rw [ins_lt rfl (by omega) (by omega)] at h9; omega))), (by exact kp2)⟩
        omega
    · refine XD.skip (b := 15) rfl rfl rfl rfl rfl rfl ?_
      refine XD.skip (b := 15) rfl rfl rfl rfl rfl rfl ?_
      refine XD.skip (b := 63) rfl rfl rfl rfl rfl rfl ?_
      refine XD.skip (b := 127) rfl rfl rfl rfl rfl rfl ?_
      refine XD.skip (b := 15) rfl rfl rfl rfl rfl rfl ?_
      refine XD.skip (b := 15) rfl rfl rfl rfl rfl rfl ?_
      refine XD.skip (b := 527) rfl rfl rfl rfl rfl rfl ?_
      refine XD.skip (b := 1807) rfl rfl rfl rfl rfl rfl ?_
      refine XD.skip (b := 3855) rfl rfl rfl rfl rfl rfl ?_
      refine XD.skip (b := 8191) rfl rfl rfl rfl rfl rfl ?_
      refine XD.c (b := 16383) (.pickF rfl rfl) rfl rfl rfl ?_
      refine XD.nil (thenC.go ?_)
      refine XC.condF rfl ?_
      refine XC.exit ?_
      intro tf htf
      refine thenC_exit ?_
      refine loopQ_exit ?_
      refine inBlock_eq ?_
      refine inBlock_nrm ?_
      refine thenC.go ?_ tf htf
      refine XC.text ?_
      refine XO.c (.move rfl) rfl rfl ?_
      refine XO.c (.add rfl rfl (by omega)) rfl rfl ?_
      refine XO.c (.assign rfl) rfl rfl ?_
      refine XO.nil ?_
      intro tf htf
      refine ⟨rfl, rfl, _, [(0, v0), (1, .int .i64 a), (2, .int .i64 b), (6, .int .i64 (((i + 1) : Nat) : Int))], ?_, htf.keep _ ⟨rfl, rfl, rfl, rfl, trivial⟩, (i + 1), ws, rfl, rfl, hA, trivial, nL102, (by exact gm_0_103), (by omega), (by exact hp2), (by exact ins_end hz2 hj (by first | (left; omega) | (right; have h9 := of_decide_eq_false c4; rw [ins_lt rfl (by omega) (by omega)] at h9; omega))), (by exact kp2)⟩
      omega
  · refine XC.exit ?_
    intro tf htf
    refine thenC_exit ?_
    refine loopQ_exit ?_
    refine inBlock_eq ?_
    refine endF.none rfl rfl ?_
    have hw := own_ret hA0 hg0 hA gm_0_102 nT (by exact kp)
    refine ⟨rfl, ?_⟩
    rw [show zs = sortE l from sortE_eq hp (sorted_end fun p q h1 h2 => hz p q h1 (by have := hp.length_eq; omega))] at hw; exact hw
theorem zPdq_ok {h : Heap} {S : List Nat} {h0 : Heap} {m : Bool} {v0 : Value} {l : List Int} {a : Int} {b : Int} {k : Int} (hok : HOk h0) (hS : ∀ b ∈ S, b < h0.next) (hA : After h0 h) (hg0 : GrowR h (ownB v0 ++ S) h0.next 3 m (.int .i64) v0 l) (ha : a = 0) (hb : b = (l.length : Nat)) (hl : l.length ≤ 12) : EvF Tryz.prog OA 164 [v0, .int .i64 a, .int .i64 b, .int .i64 k] h fun r h' => r = .tuple #[] ∧ Wrote h h' S h0 3 m (.int .i64) v0 l (sortE l) := by
  refine XF.enter Tryz.func164 rfl rfl rfl ?_
  have hA0 := hA
  replace hA := hA.toEntry
  have hge := hg0.chg (h' := entry h) (fun _ _ => rfl) (Goes.objs fun _ => rfl) (fun b hb => List.mem_append_left _ hb)
  have nT : Goes (entry h) (ownB v0 ++ S) (entry h) (ownB v0 ++ S) := Goes.refl
  show XC Tryz.prog OA none _ _ [] [(0, v0), (1, .int .i64 a), (2, .int .i64 b), (3, .int .i64 k)] (entry h) _
  refine XC.seq ?_
  refine XC.text ?_
  refine XO.c (.assign rfl) rfl rfl ?_
  refine XO.nil (thenC.go ?_)
  refine XC.seq ?_
  refine XC.text ?_
  refine XO.c (.assign rfl) rfl rfl ?_
  refine XO.nil (thenC.go ?_)
  refine XC.block ?_
  have hAL111 := hA
  have hkL111 := hA.ok hok
  have hSL111 := (hge.inS (hA.ok hok) (hA.inS hS))
  have hgeL111 := hge
  refine XC.keep [(0, v0), (1, .int .i64 a), (2, .int .i64 b), (3, .int .i64 k), (8, .bool true), (9, .bool true)] ⟨rfl, rfl, rfl, rfl, rfl, rfl, trivial⟩ ?_
  refine XC.loopI (I := fun (kk : Nat) (ff : FL) (hh : Heap) => kk = 0 ∧ ff = [(0, v0), (1, .int .i64 a), (2, .int .i64 b), (3, .int .i64 k), (8, .bool true), (9, .bool true)] ∧ After h0 hh ∧ True ∧ Goes (entry h) (ownB v0 ++ S) hh (ownB v0 ++ S) ∧ GrowR hh (ownB v0 ++ S) h0.next 3 m (.int .i64) v0 l ∧ (hh = entry h)) ?_ _ _ _ ⟨rfl, rfl, hA, trivial, Goes.refl, (by simpa using hge), (by rfl)⟩
  clear hA
  rintro kk ff hh111 ⟨hk111, rfl, hA, _, nL111, gm_0_111, he⟩
  replace nT := nT.trans nL111
  refine XC.block ?_
  refine XC.seq ?_
  refine XC.text ?_
  refine XO.c (.move rfl) rfl rfl ?_
  refine XO.c (.move rfl) rfl rfl ?_
  refine XO.c (.sub rfl rfl (by omega)) rfl rfl ?_
  refine XO.c (.assign rfl) rfl rfl ?_
  refine XO.nil (thenC.go ?_)
  refine XC.seq ?_
  refine XC.seq ?_
  refine XC.text ?_
  refine XO.c (.move rfl) rfl rfl ?_
  refine XO.c (.leq rfl rfl) rfl rfl ?_
  refine XO.nil (thenC.go ?_)
  refine XC.condD rfl (fun c3 => ?_) (fun c3 => ?_)
  · refine XC.seq ?_
    refine XC.text ?_
    refine XO.c (.move rfl) rfl rfl ?_
    refine XO.c (.move rfl) rfl rfl ?_
    refine XO.c (.move rfl) rfl rfl ?_
    refine XO.call rfl rfl rfl rfl ?_
    refine EvF.mono (zIns_ok (h0 := h0) hok hS hA gm_0_111 ha hb (by omega)) ?_
    rintro _ h112 ⟨rfl, g112, a112, n112, k112⟩
    have ok113 := hA.ok hok
    have gg113 : Goes hh111 (ownB v0 ++ S) h112 (ownB v0 ++ S) := n112
    replace hA := a112
    replace nT := nT.trans gg113
    replace nL111 := nL111.trans gg113
    have kp := k112
    refine XO.nil (thenC.go ?_)
    refine XC.ret fun tf htf => ?_
    refine thenC_ret ?_
    refine inBlock_ret ?_
    refine loopQ_ret ?_
    refine inBlock_ret ?_
    refine endF.none rfl rfl ?_
    have hw := own_ret hA0 hg0 hA g112 nT (by rw [he] at kp; exact kp)
    refine ⟨rfl, ?_⟩
    exact hw
  · exact absurd (by omega) c3
def lenE (n : Int) : Int := ([0, 1, 2, 2, 3, 3, 3, 3, 4, 4, 4, 4, 4] : List Int).getD n.toNat 0
theorem bLenA0_ok {h : Heap} {S : List Nat} (hok : HOk h) (hS : ∀ b ∈ S, b < h.next) : EvF Tryz.prog OA 200 [.int .u64 0] h fun r h' => r = .int .i64 (lenE 0) ∧ h' = h := by
  refine XF.enter Tryz.func200 rfl rfl rfl ?_
  have hok : HOk (entry h) := hok
  have hA := After.refl (entry h)
  show XC Tryz.prog OA none _ _ [] [(0, .int .u64 0)] (entry h) _
  refine XC.seq ?_
  refine XC.text ?_
  refine XO.c (.assign rfl) rfl rfl ?_
  refine XO.nil (thenC.go ?_)
  refine XC.seq ?_
  refine XC.seq ?_
  refine XC.text ?_
  refine XO.c (.move rfl) rfl rfl ?_
  refine XO.c (.bin (v := .bool false) rfl rfl rfl (by kernel_rfl)) rfl rfl ?_
  refine XO.nil (thenC.go ?_)
  refine XC.condF rfl ?_
  refine XC.skip (thenC.go ?_)
  refine XC.seq ?_
  refine XC.seq ?_
  refine XC.text ?_
  refine XO.c (.move rfl) rfl rfl ?_
  refine XO.c (.bin (v := .bool false) rfl rfl rfl (by kernel_rfl)) rfl rfl ?_
  refine XO.nil (thenC.go ?_)
  refine XC.condF rfl ?_
  refine XC.skip (thenC.go ?_)
  refine XC.seq ?_
  refine XC.seq ?_
  refine XC.text ?_
  refine XO.c (.move rfl) rfl rfl ?_
  refine XO.c (.bin (v := .bool false) rfl rfl rfl (by kernel_rfl)) rfl rfl ?_
  refine XO.nil (thenC.go ?_)
  refine XC.condF rfl ?_
  refine XC.skip (thenC.go ?_)
  refine XC.seq ?_
  refine XC.text ?_
  refine XO.c (.move rfl) rfl rfl ?_
  refine XO.c (.move rfl) rfl rfl ?_
  refine XO.c (.convI (k2 := .u8) (t := .int .u64) (by kernel_rfl) (by kernel_rfl) rfl (by decide)) rfl rfl ?_
  refine XO.c (.index (v := .int .u8 0) rfl rfl rfl (by kernel_rfl)) rfl rfl ?_
  refine XO.c (.convI (k2 := .i64) (t := .int .u8) (by kernel_rfl) (by kernel_rfl) rfl (by decide)) rfl rfl ?_
  refine XO.c (.add rfl rfl (by omega)) rfl rfl ?_
  refine XO.c (.assign rfl) rfl rfl ?_
  refine XO.nil (thenC.go ?_)
  refine XC.ret fun tf htf => ?_
  refine endF.one rfl rfl (htf 2 _ rfl) ?_
  exact ⟨congrArg (Value.int .i64) (by rfl), hA.leftAf rfl⟩
theorem bLen0_ok {h : Heap} {S : List Nat} (hok : HOk h) (hS : ∀ b ∈ S, b < h.next) : EvF Tryz.prog OA 165 [.int .u64 0] h fun r h' => r = .int .i64 (lenE 0) ∧ h' = h := by
  refine XF.enter Tryz.func165 rfl rfl rfl ?_
  have hok : HOk (entry h) := hok
  have hA := After.refl (entry h)
  show XC Tryz.prog OA none _ _ [] [(0, .int .u64 0)] (entry h) _
  refine XC.seq ?_
  refine XC.text ?_
  refine XO.c (.assign rfl) rfl rfl ?_
  refine XO.nil (thenC.go ?_)
  refine XC.seq ?_
  refine XC.condF rfl ?_
  refine XC.skip (thenC.go ?_)
  refine XC.seq ?_
  refine XC.text ?_
  refine XO.c (.move rfl) rfl rfl ?_
  refine XO.call rfl rfl rfl rfl ?_
  refine EvF.mono (bLenA0_ok (hA.ok hok) (hA.inS hS)  ) ?_
  rintro _ _ ⟨rfl, hh⟩
  obtain rfl := hh.symm
  clear hh
  refine XO.c (.assign rfl) rfl rfl ?_
  refine XO.nil (thenC.go ?_)
  refine XC.ret fun tf htf => ?_
  refine endF.one rfl rfl (htf 2 _ rfl) ?_
  exact ⟨congrArg (Value.int .i64) (by rfl), hA.leftAf rfl⟩
theorem bLenA1_ok {h : Heap} {S : List Nat} (hok : HOk h) (hS : ∀ b ∈ S, b < h.next) : EvF Tryz.prog OA 200 [.int .u64 1] h fun r h' => r = .int .i64 (lenE 1) ∧ h' = h := by
  refine XF.enter Tryz.func200 rfl rfl rfl ?_
  have hok : HOk (entry h) := hok
  have hA := After.refl (entry h)
  show XC Tryz.prog OA none _ _ [] [(0, .int .u64 1)] (entry h) _
  refine XC.seq ?_
  refine XC.text ?_
  refine XO.c (.assign rfl) rfl rfl ?_
  refine XO.nil (thenC.go ?_)
  refine XC.seq ?_
  refine XC.seq ?_
  refine XC.text ?_
  refine XO.c (.move rfl) rfl rfl ?_
  refine XO.c (.bin (v := .bool false) rfl rfl rfl (by kernel_rfl)) rfl rfl ?_
  refine XO.nil (thenC.go ?_)
  refine XC.condF rfl ?_
  refine XC.skip (thenC.go ?_)
  refine XC.seq ?_
  refine XC.seq ?_
  refine XC.text ?_
  refine XO.c (.move rfl) rfl rfl ?_
  refine XO.c (.bin (v := .bool false) rfl rfl rfl (by kernel_rfl)) rfl rfl ?_
  refine XO.nil (thenC.go ?_)
  refine XC.condF rfl ?_
  refine XC.skip (thenC.go ?_)
  refine XC.seq ?_
  refine XC.seq ?_
  refine XC.text ?_
  refine XO.c (.move rfl) rfl rfl ?_
  refine XO.c (.bin (v := .bool false) rfl rfl rfl (by kernel_rfl)) rfl rfl ?_
  refine XO.nil (thenC.go ?_)
  refine XC.condF rfl ?_
  refine XC.skip (thenC.go ?_)
  refine XC.seq ?_
  refine XC.text ?_
  refine XO.c (.move rfl) rfl rfl ?_
  refine XO.c (.move rfl) rfl rfl ?_
  refine XO.c (.convI (k2 := .u8) (t := .int .u64) (by kernel_rfl) (by kernel_rfl) rfl (by decide)) rfl rfl ?_
  refine XO.c (.index (v := .int .u8 1) rfl rfl rfl (by kernel_rfl)) rfl rfl ?_
  refine XO.c (.convI (k2 := .i64) (t := .int .u8) (by kernel_rfl) (by kernel_rfl) rfl (by decide)) rfl rfl ?_
  refine XO.c (.add rfl rfl (by omega)) rfl rfl ?_
  refine XO.c (.assign rfl) rfl rfl ?_
  refine XO.nil (thenC.go ?_)
  refine XC.ret fun tf htf => ?_
  refine endF.one rfl rfl (htf 2 _ rfl) ?_
  exact ⟨congrArg (Value.int .i64) (by rfl), hA.leftAf rfl⟩
theorem bLen1_ok {h : Heap} {S : List Nat} (hok : HOk h) (hS : ∀ b ∈ S, b < h.next) : EvF Tryz.prog OA 165 [.int .u64 1] h fun r h' => r = .int .i64 (lenE 1) ∧ h' = h := by
  refine XF.enter Tryz.func165 rfl rfl rfl ?_
  have hok : HOk (entry h) := hok
  have hA := After.refl (entry h)
  show XC Tryz.prog OA none _ _ [] [(0, .int .u64 1)] (entry h) _
  refine XC.seq ?_
  refine XC.text ?_
  refine XO.c (.assign rfl) rfl rfl ?_
  refine XO.nil (thenC.go ?_)
  refine XC.seq ?_
  refine XC.condF rfl ?_
  refine XC.skip (thenC.go ?_)
  refine XC.seq ?_
  refine XC.text ?_
  refine XO.c (.move rfl) rfl rfl ?_
  refine XO.call rfl rfl rfl rfl ?_
  refine EvF.mono (bLenA1_ok (hA.ok hok) (hA.inS hS)  ) ?_
  rintro _ _ ⟨rfl, hh⟩
  obtain rfl := hh.symm
  clear hh
  refine XO.c (.assign rfl) rfl rfl ?_
  refine XO.nil (thenC.go ?_)
  refine XC.ret fun tf htf => ?_
  refine endF.one rfl rfl (htf 2 _ rfl) ?_
  exact ⟨congrArg (Value.int .i64) (by rfl), hA.leftAf rfl⟩
theorem bLenA2_ok {h : Heap} {S : List Nat} (hok : HOk h) (hS : ∀ b ∈ S, b < h.next) : EvF Tryz.prog OA 200 [.int .u64 2] h fun r h' => r = .int .i64 (lenE 2) ∧ h' = h := by
  refine XF.enter Tryz.func200 rfl rfl rfl ?_
  have hok : HOk (entry h) := hok
  have hA := After.refl (entry h)
  show XC Tryz.prog OA none _ _ [] [(0, .int .u64 2)] (entry h) _
  refine XC.seq ?_
  refine XC.text ?_
  refine XO.c (.assign rfl) rfl rfl ?_
  refine XO.nil (thenC.go ?_)
  refine XC.seq ?_
  refine XC.seq ?_
  refine XC.text ?_
  refine XO.c (.move rfl) rfl rfl ?_
  refine XO.c (.bin (v := .bool false) rfl rfl rfl (by kernel_rfl)) rfl rfl ?_
  refine XO.nil (thenC.go ?_)
  refine XC.condF rfl ?_
  refine XC.skip (thenC.go ?_)
  refine XC.seq ?_
  refine XC.seq ?_
  refine XC.text ?_
  refine XO.c (.move rfl) rfl rfl ?_
  refine XO.c (.bin (v := .bool false) rfl rfl rfl (by kernel_rfl)) rfl rfl ?_
  refine XO.nil (thenC.go ?_)
  refine XC.condF rfl ?_
  refine XC.skip (thenC.go ?_)
  refine XC.seq ?_
  refine XC.seq ?_
  refine XC.text ?_
  refine XO.c (.move rfl) rfl rfl ?_
  refine XO.c (.bin (v := .bool false) rfl rfl rfl (by kernel_rfl)) rfl rfl ?_
  refine XO.nil (thenC.go ?_)
  refine XC.condF rfl ?_
  refine XC.skip (thenC.go ?_)
  refine XC.seq ?_
  refine XC.text ?_
  refine XO.c (.move rfl) rfl rfl ?_
  refine XO.c (.move rfl) rfl rfl ?_
  refine XO.c (.convI (k2 := .u8) (t := .int .u64) (by kernel_rfl) (by kernel_rfl) rfl (by decide)) rfl rfl ?_
  refine XO.c (.index (v := .int .u8 2) rfl rfl rfl (by kernel_rfl)) rfl rfl ?_
  refine XO.c (.convI (k2 := .i64) (t := .int .u8) (by kernel_rfl) (by kernel_rfl) rfl (by decide)) rfl rfl ?_
  refine XO.c (.add rfl rfl (by omega)) rfl rfl ?_
  refine XO.c (.assign rfl) rfl rfl ?_
  refine XO.nil (thenC.go ?_)
  refine XC.ret fun tf htf => ?_
  refine endF.one rfl rfl (htf 2 _ rfl) ?_
  exact ⟨congrArg (Value.int .i64) (by rfl), hA.leftAf rfl⟩
theorem bLen2_ok {h : Heap} {S : List Nat} (hok : HOk h) (hS : ∀ b ∈ S, b < h.next) : EvF Tryz.prog OA 165 [.int .u64 2] h fun r h' => r = .int .i64 (lenE 2) ∧ h' = h := by
  refine XF.enter Tryz.func165 rfl rfl rfl ?_
  have hok : HOk (entry h) := hok
  have hA := After.refl (entry h)
  show XC Tryz.prog OA none _ _ [] [(0, .int .u64 2)] (entry h) _
  refine XC.seq ?_
  refine XC.text ?_
  refine XO.c (.assign rfl) rfl rfl ?_
  refine XO.nil (thenC.go ?_)
  refine XC.seq ?_
  refine XC.condF rfl ?_
  refine XC.skip (thenC.go ?_)
  refine XC.seq ?_
  refine XC.text ?_
  refine XO.c (.move rfl) rfl rfl ?_
  refine XO.call rfl rfl rfl rfl ?_
  refine EvF.mono (bLenA2_ok (hA.ok hok) (hA.inS hS)  ) ?_
  rintro _ _ ⟨rfl, hh⟩
  obtain rfl := hh.symm
  clear hh
  refine XO.c (.assign rfl) rfl rfl ?_
  refine XO.nil (thenC.go ?_)
  refine XC.ret fun tf htf => ?_
  refine endF.one rfl rfl (htf 2 _ rfl) ?_
  exact ⟨congrArg (Value.int .i64) (by rfl), hA.leftAf rfl⟩
theorem bLenA3_ok {h : Heap} {S : List Nat} (hok : HOk h) (hS : ∀ b ∈ S, b < h.next) : EvF Tryz.prog OA 200 [.int .u64 3] h fun r h' => r = .int .i64 (lenE 3) ∧ h' = h := by
  refine XF.enter Tryz.func200 rfl rfl rfl ?_
  have hok : HOk (entry h) := hok
  have hA := After.refl (entry h)
  show XC Tryz.prog OA none _ _ [] [(0, .int .u64 3)] (entry h) _
  refine XC.seq ?_
  refine XC.text ?_
  refine XO.c (.assign rfl) rfl rfl ?_
  refine XO.nil (thenC.go ?_)
  refine XC.seq ?_
  refine XC.seq ?_
  refine XC.text ?_
  refine XO.c (.move rfl) rfl rfl ?_
  refine XO.c (.bin (v := .bool false) rfl rfl rfl (by kernel_rfl)) rfl rfl ?_
  refine XO.nil (thenC.go ?_)
  refine XC.condF rfl ?_
  refine XC.skip (thenC.go ?_)
  refine XC.seq ?_
  refine XC.seq ?_
  refine XC.text ?_
  refine XO.c (.move rfl) rfl rfl ?_
  refine XO.c (.bin (v := .bool false) rfl rfl rfl (by kernel_rfl)) rfl rfl ?_
  refine XO.nil (thenC.go ?_)
  refine XC.condF rfl ?_
  refine XC.skip (thenC.go ?_)
  refine XC.seq ?_
  refine XC.seq ?_
  refine XC.text ?_
  refine XO.c (.move rfl) rfl rfl ?_
  refine XO.c (.bin (v := .bool false) rfl rfl rfl (by kernel_rfl)) rfl rfl ?_
  refine XO.nil (thenC.go ?_)
  refine XC.condF rfl ?_
  refine XC.skip (thenC.go ?_)
  refine XC.seq ?_
  refine XC.text ?_
  refine XO.c (.move rfl) rfl rfl ?_
  refine XO.c (.move rfl) rfl rfl ?_
  refine XO.c (.convI (k2 := .u8) (t := .int .u64) (by kernel_rfl) (by kernel_rfl) rfl (by decide)) rfl rfl ?_
  refine XO.c (.index (v := .int .u8 2) rfl rfl rfl (by kernel_rfl)) rfl rfl ?_
  refine XO.c (.convI (k2 := .i64) (t := .int .u8) (by kernel_rfl) (by kernel_rfl) rfl (by decide)) rfl rfl ?_
  refine XO.c (.add rfl rfl (by omega)) rfl rfl ?_
  refine XO.c (.assign rfl) rfl rfl ?_
  refine XO.nil (thenC.go ?_)
  refine XC.ret fun tf htf => ?_
  refine endF.one rfl rfl (htf 2 _ rfl) ?_
  exact ⟨congrArg (Value.int .i64) (by rfl), hA.leftAf rfl⟩
theorem bLen3_ok {h : Heap} {S : List Nat} (hok : HOk h) (hS : ∀ b ∈ S, b < h.next) : EvF Tryz.prog OA 165 [.int .u64 3] h fun r h' => r = .int .i64 (lenE 3) ∧ h' = h := by
  refine XF.enter Tryz.func165 rfl rfl rfl ?_
  have hok : HOk (entry h) := hok
  have hA := After.refl (entry h)
  show XC Tryz.prog OA none _ _ [] [(0, .int .u64 3)] (entry h) _
  refine XC.seq ?_
  refine XC.text ?_
  refine XO.c (.assign rfl) rfl rfl ?_
  refine XO.nil (thenC.go ?_)
  refine XC.seq ?_
  refine XC.condF rfl ?_
  refine XC.skip (thenC.go ?_)
  refine XC.seq ?_
  refine XC.text ?_
  refine XO.c (.move rfl) rfl rfl ?_
  refine XO.call rfl rfl rfl rfl ?_
  refine EvF.mono (bLenA3_ok (hA.ok hok) (hA.inS hS)  ) ?_
  rintro _ _ ⟨rfl, hh⟩
  obtain rfl := hh.symm
  clear hh
  refine XO.c (.assign rfl) rfl rfl ?_
  refine XO.nil (thenC.go ?_)
  refine XC.ret fun tf htf => ?_
  refine endF.one rfl rfl (htf 2 _ rfl) ?_
  exact ⟨congrArg (Value.int .i64) (by rfl), hA.leftAf rfl⟩
theorem bLenA4_ok {h : Heap} {S : List Nat} (hok : HOk h) (hS : ∀ b ∈ S, b < h.next) : EvF Tryz.prog OA 200 [.int .u64 4] h fun r h' => r = .int .i64 (lenE 4) ∧ h' = h := by
  refine XF.enter Tryz.func200 rfl rfl rfl ?_
  have hok : HOk (entry h) := hok
  have hA := After.refl (entry h)
  show XC Tryz.prog OA none _ _ [] [(0, .int .u64 4)] (entry h) _
  refine XC.seq ?_
  refine XC.text ?_
  refine XO.c (.assign rfl) rfl rfl ?_
  refine XO.nil (thenC.go ?_)
  refine XC.seq ?_
  refine XC.seq ?_
  refine XC.text ?_
  refine XO.c (.move rfl) rfl rfl ?_
  refine XO.c (.bin (v := .bool false) rfl rfl rfl (by kernel_rfl)) rfl rfl ?_
  refine XO.nil (thenC.go ?_)
  refine XC.condF rfl ?_
  refine XC.skip (thenC.go ?_)
  refine XC.seq ?_
  refine XC.seq ?_
  refine XC.text ?_
  refine XO.c (.move rfl) rfl rfl ?_
  refine XO.c (.bin (v := .bool false) rfl rfl rfl (by kernel_rfl)) rfl rfl ?_
  refine XO.nil (thenC.go ?_)
  refine XC.condF rfl ?_
  refine XC.skip (thenC.go ?_)
  refine XC.seq ?_
  refine XC.seq ?_
  refine XC.text ?_
  refine XO.c (.move rfl) rfl rfl ?_
  refine XO.c (.bin (v := .bool false) rfl rfl rfl (by kernel_rfl)) rfl rfl ?_
  refine XO.nil (thenC.go ?_)
  refine XC.condF rfl ?_
  refine XC.skip (thenC.go ?_)
  refine XC.seq ?_
  refine XC.text ?_
  refine XO.c (.move rfl) rfl rfl ?_
  refine XO.c (.move rfl) rfl rfl ?_
  refine XO.c (.convI (k2 := .u8) (t := .int .u64) (by kernel_rfl) (by kernel_rfl) rfl (by decide)) rfl rfl ?_
  refine XO.c (.index (v := .int .u8 3) rfl rfl rfl (by kernel_rfl)) rfl rfl ?_
  refine XO.c (.convI (k2 := .i64) (t := .int .u8) (by kernel_rfl) (by kernel_rfl) rfl (by decide)) rfl rfl ?_
  refine XO.c (.add rfl rfl (by omega)) rfl rfl ?_
  refine XO.c (.assign rfl) rfl rfl ?_
  refine XO.nil (thenC.go ?_)
  refine XC.ret fun tf htf => ?_
  refine endF.one rfl rfl (htf 2 _ rfl) ?_
  exact ⟨congrArg (Value.int .i64) (by rfl), hA.leftAf rfl⟩
theorem bLen4_ok {h : Heap} {S : List Nat} (hok : HOk h) (hS : ∀ b ∈ S, b < h.next) : EvF Tryz.prog OA 165 [.int .u64 4] h fun r h' => r = .int .i64 (lenE 4) ∧ h' = h := by
  refine XF.enter Tryz.func165 rfl rfl rfl ?_
  have hok : HOk (entry h) := hok
  have hA := After.refl (entry h)
  show XC Tryz.prog OA none _ _ [] [(0, .int .u64 4)] (entry h) _
  refine XC.seq ?_
  refine XC.text ?_
  refine XO.c (.assign rfl) rfl rfl ?_
  refine XO.nil (thenC.go ?_)
  refine XC.seq ?_
  refine XC.condF rfl ?_
  refine XC.skip (thenC.go ?_)
  refine XC.seq ?_
  refine XC.text ?_
  refine XO.c (.move rfl) rfl rfl ?_
  refine XO.call rfl rfl rfl rfl ?_
  refine EvF.mono (bLenA4_ok (hA.ok hok) (hA.inS hS)  ) ?_
  rintro _ _ ⟨rfl, hh⟩
  obtain rfl := hh.symm
  clear hh
  refine XO.c (.assign rfl) rfl rfl ?_
  refine XO.nil (thenC.go ?_)
  refine XC.ret fun tf htf => ?_
  refine endF.one rfl rfl (htf 2 _ rfl) ?_
  exact ⟨congrArg (Value.int .i64) (by rfl), hA.leftAf rfl⟩
theorem bLenA5_ok {h : Heap} {S : List Nat} (hok : HOk h) (hS : ∀ b ∈ S, b < h.next) : EvF Tryz.prog OA 200 [.int .u64 5] h fun r h' => r = .int .i64 (lenE 5) ∧ h' = h := by
  refine XF.enter Tryz.func200 rfl rfl rfl ?_
  have hok : HOk (entry h) := hok
  have hA := After.refl (entry h)
  show XC Tryz.prog OA none _ _ [] [(0, .int .u64 5)] (entry h) _
  refine XC.seq ?_
  refine XC.text ?_
  refine XO.c (.assign rfl) rfl rfl ?_
  refine XO.nil (thenC.go ?_)
  refine XC.seq ?_
  refine XC.seq ?_
  refine XC.text ?_
  refine XO.c (.move rfl) rfl rfl ?_
  refine XO.c (.bin (v := .bool false) rfl rfl rfl (by kernel_rfl)) rfl rfl ?_
  refine XO.nil (thenC.go ?_)
  refine XC.condF rfl ?_
  refine XC.skip (thenC.go ?_)
  refine XC.seq ?_
  refine XC.seq ?_
  refine XC.text ?_
  refine XO.c (.move rfl) rfl rfl ?_
  refine XO.c (.bin (v := .bool false) rfl rfl rfl (by kernel_rfl)) rfl rfl ?_
  refine XO.nil (thenC.go ?_)
  refine XC.condF rfl ?_
  refine XC.skip (thenC.go ?_)
  refine XC.seq ?_
  refine XC.seq ?_
  refine XC.text ?_
  refine XO.c (.move rfl) rfl rfl ?_
  refine XO.c (.bin (v := .bool false) rfl rfl rfl (by kernel_rfl)) rfl rfl ?_
  refine XO.nil (thenC.go ?_)
  refine XC.condF rfl ?_
  refine XC.skip (thenC.go ?_)
  refine XC.seq ?_
  refine XC.text ?_
  refine XO.c (.move rfl) rfl rfl ?_
  refine XO.c (.move rfl) rfl rfl ?_
  refine XO.c (.convI (k2 := .u8) (t := .int .u64) (by kernel_rfl) (by kernel_rfl) rfl (by decide)) rfl rfl ?_
  refine XO.c (.index (v := .int .u8 3) rfl rfl rfl (by kernel_rfl)) rfl rfl ?_
  refine XO.c (.convI (k2 := .i64) (t := .int .u8) (by kernel_rfl) (by kernel_rfl) rfl (by decide)) rfl rfl ?_
  refine XO.c (.add rfl rfl (by omega)) rfl rfl ?_
  refine XO.c (.assign rfl) rfl rfl ?_
  refine XO.nil (thenC.go ?_)
  refine XC.ret fun tf htf => ?_
  refine endF.one rfl rfl (htf 2 _ rfl) ?_
  exact ⟨congrArg (Value.int .i64) (by rfl), hA.leftAf rfl⟩
theorem bLen5_ok {h : Heap} {S : List Nat} (hok : HOk h) (hS : ∀ b ∈ S, b < h.next) : EvF Tryz.prog OA 165 [.int .u64 5] h fun r h' => r = .int .i64 (lenE 5) ∧ h' = h := by
  refine XF.enter Tryz.func165 rfl rfl rfl ?_
  have hok : HOk (entry h) := hok
  have hA := After.refl (entry h)
  show XC Tryz.prog OA none _ _ [] [(0, .int .u64 5)] (entry h) _
  refine XC.seq ?_
  refine XC.text ?_
  refine XO.c (.assign rfl) rfl rfl ?_
  refine XO.nil (thenC.go ?_)
  refine XC.seq ?_
  refine XC.condF rfl ?_
  refine XC.skip (thenC.go ?_)
  refine XC.seq ?_
  refine XC.text ?_
  refine XO.c (.move rfl) rfl rfl ?_
  refine XO.call rfl rfl rfl rfl ?_
  refine EvF.mono (bLenA5_ok (hA.ok hok) (hA.inS hS)  ) ?_
  rintro _ _ ⟨rfl, hh⟩
  obtain rfl := hh.symm
  clear hh
  refine XO.c (.assign rfl) rfl rfl ?_
  refine XO.nil (thenC.go ?_)
  refine XC.ret fun tf htf => ?_
  refine endF.one rfl rfl (htf 2 _ rfl) ?_
  exact ⟨congrArg (Value.int .i64) (by rfl), hA.leftAf rfl⟩
theorem bLenA6_ok {h : Heap} {S : List Nat} (hok : HOk h) (hS : ∀ b ∈ S, b < h.next) : EvF Tryz.prog OA 200 [.int .u64 6] h fun r h' => r = .int .i64 (lenE 6) ∧ h' = h := by
  refine XF.enter Tryz.func200 rfl rfl rfl ?_
  have hok : HOk (entry h) := hok
  have hA := After.refl (entry h)
  show XC Tryz.prog OA none _ _ [] [(0, .int .u64 6)] (entry h) _
  refine XC.seq ?_
  refine XC.text ?_
  refine XO.c (.assign rfl) rfl rfl ?_
  refine XO.nil (thenC.go ?_)
  refine XC.seq ?_
  refine XC.seq ?_
  refine XC.text ?_
  refine XO.c (.move rfl) rfl rfl ?_
  refine XO.c (.bin (v := .bool false) rfl rfl rfl (by kernel_rfl)) rfl rfl ?_
  refine XO.nil (thenC.go ?_)
  refine XC.condF rfl ?_
  refine XC.skip (thenC.go ?_)
  refine XC.seq ?_
  refine XC.seq ?_
  refine XC.text ?_
  refine XO.c (.move rfl) rfl rfl ?_
  refine XO.c (.bin (v := .bool false) rfl rfl rfl (by kernel_rfl)) rfl rfl ?_
  refine XO.nil (thenC.go ?_)
  refine XC.condF rfl ?_
  refine XC.skip (thenC.go ?_)
  refine XC.seq ?_
  refine XC.seq ?_
  refine XC.text ?_
  refine XO.c (.move rfl) rfl rfl ?_
  refine XO.c (.bin (v := .bool false) rfl rfl rfl (by kernel_rfl)) rfl rfl ?_
  refine XO.nil (thenC.go ?_)
  refine XC.condF rfl ?_
  refine XC.skip (thenC.go ?_)
  refine XC.seq ?_
  refine XC.text ?_
  refine XO.c (.move rfl) rfl rfl ?_
  refine XO.c (.move rfl) rfl rfl ?_
  refine XO.c (.convI (k2 := .u8) (t := .int .u64) (by kernel_rfl) (by kernel_rfl) rfl (by decide)) rfl rfl ?_
  refine XO.c (.index (v := .int .u8 3) rfl rfl rfl (by kernel_rfl)) rfl rfl ?_
  refine XO.c (.convI (k2 := .i64) (t := .int .u8) (by kernel_rfl) (by kernel_rfl) rfl (by decide)) rfl rfl ?_
  refine XO.c (.add rfl rfl (by omega)) rfl rfl ?_
  refine XO.c (.assign rfl) rfl rfl ?_
  refine XO.nil (thenC.go ?_)
  refine XC.ret fun tf htf => ?_
  refine endF.one rfl rfl (htf 2 _ rfl) ?_
  exact ⟨congrArg (Value.int .i64) (by rfl), hA.leftAf rfl⟩
theorem bLen6_ok {h : Heap} {S : List Nat} (hok : HOk h) (hS : ∀ b ∈ S, b < h.next) : EvF Tryz.prog OA 165 [.int .u64 6] h fun r h' => r = .int .i64 (lenE 6) ∧ h' = h := by
  refine XF.enter Tryz.func165 rfl rfl rfl ?_
  have hok : HOk (entry h) := hok
  have hA := After.refl (entry h)
  show XC Tryz.prog OA none _ _ [] [(0, .int .u64 6)] (entry h) _
  refine XC.seq ?_
  refine XC.text ?_
  refine XO.c (.assign rfl) rfl rfl ?_
  refine XO.nil (thenC.go ?_)
  refine XC.seq ?_
  refine XC.condF rfl ?_
  refine XC.skip (thenC.go ?_)
  refine XC.seq ?_
  refine XC.text ?_
  refine XO.c (.move rfl) rfl rfl ?_
  refine XO.call rfl rfl rfl rfl ?_
  refine EvF.mono (bLenA6_ok (hA.ok hok) (hA.inS hS)  ) ?_
  rintro _ _ ⟨rfl, hh⟩
  obtain rfl := hh.symm
  clear hh
  refine XO.c (.assign rfl) rfl rfl ?_
  refine XO.nil (thenC.go ?_)
  refine XC.ret fun tf htf => ?_
  refine endF.one rfl rfl (htf 2 _ rfl) ?_
  exact ⟨congrArg (Value.int .i64) (by rfl), hA.leftAf rfl⟩
theorem bLenA7_ok {h : Heap} {S : List Nat} (hok : HOk h) (hS : ∀ b ∈ S, b < h.next) : EvF Tryz.prog OA 200 [.int .u64 7] h fun r h' => r = .int .i64 (lenE 7) ∧ h' = h := by
  refine XF.enter Tryz.func200 rfl rfl rfl ?_
  have hok : HOk (entry h) := hok
  have hA := After.refl (entry h)
  show XC Tryz.prog OA none _ _ [] [(0, .int .u64 7)] (entry h) _
  refine XC.seq ?_
  refine XC.text ?_
  refine XO.c (.assign rfl) rfl rfl ?_
  refine XO.nil (thenC.go ?_)
  refine XC.seq ?_
  refine XC.seq ?_
  refine XC.text ?_
  refine XO.c (.move rfl) rfl rfl ?_
  refine XO.c (.bin (v := .bool false) rfl rfl rfl (by kernel_rfl)) rfl rfl ?_
  refine XO.nil (thenC.go ?_)
  refine XC.condF rfl ?_
  refine XC.skip (thenC.go ?_)
  refine XC.seq ?_
  refine XC.seq ?_
  refine XC.text ?_
  refine XO.c (.move rfl) rfl rfl ?_
  refine XO.c (.bin (v := .bool false) rfl rfl rfl (by kernel_rfl)) rfl rfl ?_
  refine XO.nil (thenC.go ?_)
  refine XC.condF rfl ?_
  refine XC.skip (thenC.go ?_)
  refine XC.seq ?_
  refine XC.seq ?_
  refine XC.text ?_
  refine XO.c (.move rfl) rfl rfl ?_
  refine XO.c (.bin (v := .bool false) rfl rfl rfl (by kernel_rfl)) rfl rfl ?_
  refine XO.nil (thenC.go ?_)
  refine XC.condF rfl ?_
  refine XC.skip (thenC.go ?_)
  refine XC.seq ?_
  refine XC.text ?_
  refine XO.c (.move rfl) rfl rfl ?_
  refine XO.c (.move rfl) rfl rfl ?_
  refine XO.c (.convI (k2 := .u8) (t := .int .u64) (by kernel_rfl) (by kernel_rfl) rfl (by decide)) rfl rfl ?_
  refine XO.c (.index (v := .int .u8 3) rfl rfl rfl (by kernel_rfl)) rfl rfl ?_
  refine XO.c (.convI (k2 := .i64) (t := .int .u8) (by kernel_rfl) (by kernel_rfl) rfl (by decide)) rfl rfl ?_
  refine XO.c (.add rfl rfl (by omega)) rfl rfl ?_
  refine XO.c (.assign rfl) rfl rfl ?_
  refine XO.nil (thenC.go ?_)
  refine XC.ret fun tf htf => ?_
  refine endF.one rfl rfl (htf 2 _ rfl) ?_
  exact ⟨congrArg (Value.int .i64) (by rfl), hA.leftAf rfl⟩
theorem bLen7_ok {h : Heap} {S : List Nat} (hok : HOk h) (hS : ∀ b ∈ S, b < h.next) : EvF Tryz.prog OA 165 [.int .u64 7] h fun r h' => r = .int .i64 (lenE 7) ∧ h' = h := by
  refine XF.enter Tryz.func165 rfl rfl rfl ?_
  have hok : HOk (entry h) := hok
  have hA := After.refl (entry h)
  show XC Tryz.prog OA none _ _ [] [(0, .int .u64 7)] (entry h) _
  refine XC.seq ?_
  refine XC.text ?_
  refine XO.c (.assign rfl) rfl rfl ?_
  refine XO.nil (thenC.go ?_)
  refine XC.seq ?_
  refine XC.condF rfl ?_
  refine XC.skip (thenC.go ?_)
  refine XC.seq ?_
  refine XC.text ?_
  refine XO.c (.move rfl) rfl rfl ?_
  refine XO.call rfl rfl rfl rfl ?_
  refine EvF.mono (bLenA7_ok (hA.ok hok) (hA.inS hS)  ) ?_
  rintro _ _ ⟨rfl, hh⟩
  obtain rfl := hh.symm
  clear hh
  refine XO.c (.assign rfl) rfl rfl ?_
  refine XO.nil (thenC.go ?_)
  refine XC.ret fun tf htf => ?_
  refine endF.one rfl rfl (htf 2 _ rfl) ?_
  exact ⟨congrArg (Value.int .i64) (by rfl), hA.leftAf rfl⟩
theorem bLenA8_ok {h : Heap} {S : List Nat} (hok : HOk h) (hS : ∀ b ∈ S, b < h.next) : EvF Tryz.prog OA 200 [.int .u64 8] h fun r h' => r = .int .i64 (lenE 8) ∧ h' = h := by
  refine XF.enter Tryz.func200 rfl rfl rfl ?_
  have hok : HOk (entry h) := hok
  have hA := After.refl (entry h)
  show XC Tryz.prog OA none _ _ [] [(0, .int .u64 8)] (entry h) _
  refine XC.seq ?_
  refine XC.text ?_
  refine XO.c (.assign rfl) rfl rfl ?_
  refine XO.nil (thenC.go ?_)
  refine XC.seq ?_
  refine XC.seq ?_
  refine XC.text ?_
  refine XO.c (.move rfl) rfl rfl ?_
  refine XO.c (.bin (v := .bool false) rfl rfl rfl (by kernel_rfl)) rfl rfl ?_
  refine XO.nil (thenC.go ?_)
  refine XC.condF rfl ?_
  refine XC.skip (thenC.go ?_)
  refine XC.seq ?_
  refine XC.seq ?_
  refine XC.text ?_
  refine XO.c (.move rfl) rfl rfl ?_
  refine XO.c (.bin (v := .bool false) rfl rfl rfl (by kernel_rfl)) rfl rfl ?_
  refine XO.nil (thenC.go ?_)
  refine XC.condF rfl ?_
  refine XC.skip (thenC.go ?_)
  refine XC.seq ?_
  refine XC.seq ?_
  refine XC.text ?_
  refine XO.c (.move rfl) rfl rfl ?_
  refine XO.c (.bin (v := .bool false) rfl rfl rfl (by kernel_rfl)) rfl rfl ?_
  refine XO.nil (thenC.go ?_)
  refine XC.condF rfl ?_
  refine XC.skip (thenC.go ?_)
  refine XC.seq ?_
  refine XC.text ?_
  refine XO.c (.move rfl) rfl rfl ?_
  refine XO.c (.move rfl) rfl rfl ?_
  refine XO.c (.convI (k2 := .u8) (t := .int .u64) (by kernel_rfl) (by kernel_rfl) rfl (by decide)) rfl rfl ?_
  refine XO.c (.index (v := .int .u8 4) rfl rfl rfl (by kernel_rfl)) rfl rfl ?_
  refine XO.c (.convI (k2 := .i64) (t := .int .u8) (by kernel_rfl) (by kernel_rfl) rfl (by decide)) rfl rfl ?_
  refine XO.c (.add rfl rfl (by omega)) rfl rfl ?_
  refine XO.c (.assign rfl) rfl rfl ?_
  refine XO.nil (thenC.go ?_)
  refine XC.ret fun tf htf => ?_
  refine endF.one rfl rfl (htf 2 _ rfl) ?_
  exact ⟨congrArg (Value.int .i64) (by rfl), hA.leftAf rfl⟩
theorem bLen8_ok {h : Heap} {S : List Nat} (hok : HOk h) (hS : ∀ b ∈ S, b < h.next) : EvF Tryz.prog OA 165 [.int .u64 8] h fun r h' => r = .int .i64 (lenE 8) ∧ h' = h := by
  refine XF.enter Tryz.func165 rfl rfl rfl ?_
  have hok : HOk (entry h) := hok
  have hA := After.refl (entry h)
  show XC Tryz.prog OA none _ _ [] [(0, .int .u64 8)] (entry h) _
  refine XC.seq ?_
  refine XC.text ?_
  refine XO.c (.assign rfl) rfl rfl ?_
  refine XO.nil (thenC.go ?_)
  refine XC.seq ?_
  refine XC.condF rfl ?_
  refine XC.skip (thenC.go ?_)
  refine XC.seq ?_
  refine XC.text ?_
  refine XO.c (.move rfl) rfl rfl ?_
  refine XO.call rfl rfl rfl rfl ?_
  refine EvF.mono (bLenA8_ok (hA.ok hok) (hA.inS hS)  ) ?_
  rintro _ _ ⟨rfl, hh⟩
  obtain rfl := hh.symm
  clear hh
  refine XO.c (.assign rfl) rfl rfl ?_
  refine XO.nil (thenC.go ?_)
  refine XC.ret fun tf htf => ?_
  refine endF.one rfl rfl (htf 2 _ rfl) ?_
  exact ⟨congrArg (Value.int .i64) (by rfl), hA.leftAf rfl⟩
theorem bLenA9_ok {h : Heap} {S : List Nat} (hok : HOk h) (hS : ∀ b ∈ S, b < h.next) : EvF Tryz.prog OA 200 [.int .u64 9] h fun r h' => r = .int .i64 (lenE 9) ∧ h' = h := by
  refine XF.enter Tryz.func200 rfl rfl rfl ?_
  have hok : HOk (entry h) := hok
  have hA := After.refl (entry h)
  show XC Tryz.prog OA none _ _ [] [(0, .int .u64 9)] (entry h) _
  refine XC.seq ?_
  refine XC.text ?_
  refine XO.c (.assign rfl) rfl rfl ?_
  refine XO.nil (thenC.go ?_)
  refine XC.seq ?_
  refine XC.seq ?_
  refine XC.text ?_
  refine XO.c (.move rfl) rfl rfl ?_
  refine XO.c (.bin (v := .bool false) rfl rfl rfl (by kernel_rfl)) rfl rfl ?_
  refine XO.nil (thenC.go ?_)
  refine XC.condF rfl ?_
  refine XC.skip (thenC.go ?_)
  refine XC.seq ?_
  refine XC.seq ?_
  refine XC.text ?_
  refine XO.c (.move rfl) rfl rfl ?_
  refine XO.c (.bin (v := .bool false) rfl rfl rfl (by kernel_rfl)) rfl rfl ?_
  refine XO.nil (thenC.go ?_)
  refine XC.condF rfl ?_
  refine XC.skip (thenC.go ?_)
  refine XC.seq ?_
  refine XC.seq ?_
  refine XC.text ?_
  refine XO.c (.move rfl) rfl rfl ?_
  refine XO.c (.bin (v := .bool false) rfl rfl rfl (by kernel_rfl)) rfl rfl ?_
  refine XO.nil (thenC.go ?_)
  refine XC.condF rfl ?_
  refine XC.skip (thenC.go ?_)
  refine XC.seq ?_
  refine XC.text ?_
  refine XO.c (.move rfl) rfl rfl ?_
  refine XO.c (.move rfl) rfl rfl ?_
  refine XO.c (.convI (k2 := .u8) (t := .int .u64) (by kernel_rfl) (by kernel_rfl) rfl (by decide)) rfl rfl ?_
  refine XO.c (.index (v := .int .u8 4) rfl rfl rfl (by kernel_rfl)) rfl rfl ?_
  refine XO.c (.convI (k2 := .i64) (t := .int .u8) (by kernel_rfl) (by kernel_rfl) rfl (by decide)) rfl rfl ?_
  refine XO.c (.add rfl rfl (by omega)) rfl rfl ?_
  refine XO.c (.assign rfl) rfl rfl ?_
  refine XO.nil (thenC.go ?_)
  refine XC.ret fun tf htf => ?_
  refine endF.one rfl rfl (htf 2 _ rfl) ?_
  exact ⟨congrArg (Value.int .i64) (by rfl), hA.leftAf rfl⟩
theorem bLen9_ok {h : Heap} {S : List Nat} (hok : HOk h) (hS : ∀ b ∈ S, b < h.next) : EvF Tryz.prog OA 165 [.int .u64 9] h fun r h' => r = .int .i64 (lenE 9) ∧ h' = h := by
  refine XF.enter Tryz.func165 rfl rfl rfl ?_
  have hok : HOk (entry h) := hok
  have hA := After.refl (entry h)
  show XC Tryz.prog OA none _ _ [] [(0, .int .u64 9)] (entry h) _
  refine XC.seq ?_
  refine XC.text ?_
  refine XO.c (.assign rfl) rfl rfl ?_
  refine XO.nil (thenC.go ?_)
  refine XC.seq ?_
  refine XC.condF rfl ?_
  refine XC.skip (thenC.go ?_)
  refine XC.seq ?_
  refine XC.text ?_
  refine XO.c (.move rfl) rfl rfl ?_
  refine XO.call rfl rfl rfl rfl ?_
  refine EvF.mono (bLenA9_ok (hA.ok hok) (hA.inS hS)  ) ?_
  rintro _ _ ⟨rfl, hh⟩
  obtain rfl := hh.symm
  clear hh
  refine XO.c (.assign rfl) rfl rfl ?_
  refine XO.nil (thenC.go ?_)
  refine XC.ret fun tf htf => ?_
  refine endF.one rfl rfl (htf 2 _ rfl) ?_
  exact ⟨congrArg (Value.int .i64) (by rfl), hA.leftAf rfl⟩
theorem bLenA10_ok {h : Heap} {S : List Nat} (hok : HOk h) (hS : ∀ b ∈ S, b < h.next) : EvF Tryz.prog OA 200 [.int .u64 10] h fun r h' => r = .int .i64 (lenE 10) ∧ h' = h := by
  refine XF.enter Tryz.func200 rfl rfl rfl ?_
  have hok : HOk (entry h) := hok
  have hA := After.refl (entry h)
  show XC Tryz.prog OA none _ _ [] [(0, .int .u64 10)] (entry h) _
  refine XC.seq ?_
  refine XC.text ?_
  refine XO.c (.assign rfl) rfl rfl ?_
  refine XO.nil (thenC.go ?_)
  refine XC.seq ?_
  refine XC.seq ?_
  refine XC.text ?_
  refine XO.c (.move rfl) rfl rfl ?_
  refine XO.c (.bin (v := .bool false) rfl rfl rfl (by kernel_rfl)) rfl rfl ?_
  refine XO.nil (thenC.go ?_)
  refine XC.condF rfl ?_
  refine XC.skip (thenC.go ?_)
  refine XC.seq ?_
  refine XC.seq ?_
  refine XC.text ?_
  refine XO.c (.move rfl) rfl rfl ?_
  refine XO.c (.bin (v := .bool false) rfl rfl rfl (by kernel_rfl)) rfl rfl ?_
  refine XO.nil (thenC.go ?_)
  refine XC.condF rfl ?_
  refine XC.skip (thenC.go ?_)
  refine XC.seq ?_
  refine XC.seq ?_
  refine XC.text ?_
  refine XO.c (.move rfl) rfl rfl ?_
  refine XO.c (.bin (v := .bool false) rfl rfl rfl (by kernel_rfl)) rfl rfl ?_
  refine XO.nil (thenC.go ?_)
  refine XC.condF rfl ?_
  refine XC.skip (thenC.go ?_)
  refine XC.seq ?_
  refine XC.text ?_
  refine XO.c (.move rfl) rfl rfl ?_
  refine XO.c (.move rfl) rfl rfl ?_
  refine XO.c (.convI (k2 := .u8) (t := .int .u64) (by kernel_rfl) (by kernel_rfl) rfl (by decide)) rfl rfl ?_
  refine XO.c (.index (v := .int .u8 4) rfl rfl rfl (by kernel_rfl)) rfl rfl ?_
  refine XO.c (.convI (k2 := .i64) (t := .int .u8) (by kernel_rfl) (by kernel_rfl) rfl (by decide)) rfl rfl ?_
  refine XO.c (.add rfl rfl (by omega)) rfl rfl ?_
  refine XO.c (.assign rfl) rfl rfl ?_
  refine XO.nil (thenC.go ?_)
  refine XC.ret fun tf htf => ?_
  refine endF.one rfl rfl (htf 2 _ rfl) ?_
  exact ⟨congrArg (Value.int .i64) (by rfl), hA.leftAf rfl⟩
theorem bLen10_ok {h : Heap} {S : List Nat} (hok : HOk h) (hS : ∀ b ∈ S, b < h.next) : EvF Tryz.prog OA 165 [.int .u64 10] h fun r h' => r = .int .i64 (lenE 10) ∧ h' = h := by
  refine XF.enter Tryz.func165 rfl rfl rfl ?_
  have hok : HOk (entry h) := hok
  have hA := After.refl (entry h)
  show XC Tryz.prog OA none _ _ [] [(0, .int .u64 10)] (entry h) _
  refine XC.seq ?_
  refine XC.text ?_
  refine XO.c (.assign rfl) rfl rfl ?_
  refine XO.nil (thenC.go ?_)
  refine XC.seq ?_
  refine XC.condF rfl ?_
  refine XC.skip (thenC.go ?_)
  refine XC.seq ?_
  refine XC.text ?_
  refine XO.c (.move rfl) rfl rfl ?_
  refine XO.call rfl rfl rfl rfl ?_
  refine EvF.mono (bLenA10_ok (hA.ok hok) (hA.inS hS)  ) ?_
  rintro _ _ ⟨rfl, hh⟩
  obtain rfl := hh.symm
  clear hh
  refine XO.c (.assign rfl) rfl rfl ?_
  refine XO.nil (thenC.go ?_)
  refine XC.ret fun tf htf => ?_
  refine endF.one rfl rfl (htf 2 _ rfl) ?_
  exact ⟨congrArg (Value.int .i64) (by rfl), hA.leftAf rfl⟩
theorem bLenA11_ok {h : Heap} {S : List Nat} (hok : HOk h) (hS : ∀ b ∈ S, b < h.next) : EvF Tryz.prog OA 200 [.int .u64 11] h fun r h' => r = .int .i64 (lenE 11) ∧ h' = h := by
  refine XF.enter Tryz.func200 rfl rfl rfl ?_
  have hok : HOk (entry h) := hok
  have hA := After.refl (entry h)
  show XC Tryz.prog OA none _ _ [] [(0, .int .u64 11)] (entry h) _
  refine XC.seq ?_
  refine XC.text ?_
  refine XO.c (.assign rfl) rfl rfl ?_
  refine XO.nil (thenC.go ?_)
  refine XC.seq ?_
  refine XC.seq ?_
  refine XC.text ?_
  refine XO.c (.move rfl) rfl rfl ?_
  refine XO.c (.bin (v := .bool false) rfl rfl rfl (by kernel_rfl)) rfl rfl ?_
  refine XO.nil (thenC.go ?_)
  refine XC.condF rfl ?_
  refine XC.skip (thenC.go ?_)
  refine XC.seq ?_
  refine XC.seq ?_
  refine XC.text ?_
  refine XO.c (.move rfl) rfl rfl ?_
  refine XO.c (.bin (v := .bool false) rfl rfl rfl (by kernel_rfl)) rfl rfl ?_
  refine XO.nil (thenC.go ?_)
  refine XC.condF rfl ?_
  refine XC.skip (thenC.go ?_)
  refine XC.seq ?_
  refine XC.seq ?_
  refine XC.text ?_
  refine XO.c (.move rfl) rfl rfl ?_
  refine XO.c (.bin (v := .bool false) rfl rfl rfl (by kernel_rfl)) rfl rfl ?_
  refine XO.nil (thenC.go ?_)
  refine XC.condF rfl ?_
  refine XC.skip (thenC.go ?_)
  refine XC.seq ?_
  refine XC.text ?_
  refine XO.c (.move rfl) rfl rfl ?_
  refine XO.c (.move rfl) rfl rfl ?_
  refine XO.c (.convI (k2 := .u8) (t := .int .u64) (by kernel_rfl) (by kernel_rfl) rfl (by decide)) rfl rfl ?_
  refine XO.c (.index (v := .int .u8 4) rfl rfl rfl (by kernel_rfl)) rfl rfl ?_
  refine XO.c (.convI (k2 := .i64) (t := .int .u8) (by kernel_rfl) (by kernel_rfl) rfl (by decide)) rfl rfl ?_
  refine XO.c (.add rfl rfl (by omega)) rfl rfl ?_
  refine XO.c (.assign rfl) rfl rfl ?_
  refine XO.nil (thenC.go ?_)
  refine XC.ret fun tf htf => ?_
  refine endF.one rfl rfl (htf 2 _ rfl) ?_
  exact ⟨congrArg (Value.int .i64) (by rfl), hA.leftAf rfl⟩
theorem bLen11_ok {h : Heap} {S : List Nat} (hok : HOk h) (hS : ∀ b ∈ S, b < h.next) : EvF Tryz.prog OA 165 [.int .u64 11] h fun r h' => r = .int .i64 (lenE 11) ∧ h' = h := by
  refine XF.enter Tryz.func165 rfl rfl rfl ?_
  have hok : HOk (entry h) := hok
  have hA := After.refl (entry h)
  show XC Tryz.prog OA none _ _ [] [(0, .int .u64 11)] (entry h) _
  refine XC.seq ?_
  refine XC.text ?_
  refine XO.c (.assign rfl) rfl rfl ?_
  refine XO.nil (thenC.go ?_)
  refine XC.seq ?_
  refine XC.condF rfl ?_
  refine XC.skip (thenC.go ?_)
  refine XC.seq ?_
  refine XC.text ?_
  refine XO.c (.move rfl) rfl rfl ?_
  refine XO.call rfl rfl rfl rfl ?_
  refine EvF.mono (bLenA11_ok (hA.ok hok) (hA.inS hS)  ) ?_
  rintro _ _ ⟨rfl, hh⟩
  obtain rfl := hh.symm
  clear hh
  refine XO.c (.assign rfl) rfl rfl ?_
  refine XO.nil (thenC.go ?_)
  refine XC.ret fun tf htf => ?_
  refine endF.one rfl rfl (htf 2 _ rfl) ?_
  exact ⟨congrArg (Value.int .i64) (by rfl), hA.leftAf rfl⟩
theorem bLenA12_ok {h : Heap} {S : List Nat} (hok : HOk h) (hS : ∀ b ∈ S, b < h.next) : EvF Tryz.prog OA 200 [.int .u64 12] h fun r h' => r = .int .i64 (lenE 12) ∧ h' = h := by
  refine XF.enter Tryz.func200 rfl rfl rfl ?_
  have hok : HOk (entry h) := hok
  have hA := After.refl (entry h)
  show XC Tryz.prog OA none _ _ [] [(0, .int .u64 12)] (entry h) _
  refine XC.seq ?_
  refine XC.text ?_
  refine XO.c (.assign rfl) rfl rfl ?_
  refine XO.nil (thenC.go ?_)
  refine XC.seq ?_
  refine XC.seq ?_
  refine XC.text ?_
  refine XO.c (.move rfl) rfl rfl ?_
  refine XO.c (.bin (v := .bool false) rfl rfl rfl (by kernel_rfl)) rfl rfl ?_
  refine XO.nil (thenC.go ?_)
  refine XC.condF rfl ?_
  refine XC.skip (thenC.go ?_)
  refine XC.seq ?_
  refine XC.seq ?_
  refine XC.text ?_
  refine XO.c (.move rfl) rfl rfl ?_
  refine XO.c (.bin (v := .bool false) rfl rfl rfl (by kernel_rfl)) rfl rfl ?_
  refine XO.nil (thenC.go ?_)
  refine XC.condF rfl ?_
  refine XC.skip (thenC.go ?_)
  refine XC.seq ?_
  refine XC.seq ?_
  refine XC.text ?_
  refine XO.c (.move rfl) rfl rfl ?_
  refine XO.c (.bin (v := .bool false) rfl rfl rfl (by kernel_rfl)) rfl rfl ?_
  refine XO.nil (thenC.go ?_)
  refine XC.condF rfl ?_
  refine XC.skip (thenC.go ?_)
  refine XC.seq ?_
  refine XC.text ?_
  refine XO.c (.move rfl) rfl rfl ?_
  refine XO.c (.move rfl) rfl rfl ?_
  refine XO.c (.convI (k2 := .u8) (t := .int .u64) (by kernel_rfl) (by kernel_rfl) rfl (by decide)) rfl rfl ?_
  refine XO.c (.index (v := .int .u8 4) rfl rfl rfl (by kernel_rfl)) rfl rfl ?_
  refine XO.c (.convI (k2 := .i64) (t := .int .u8) (by kernel_rfl) (by kernel_rfl) rfl (by decide)) rfl rfl ?_
  refine XO.c (.add rfl rfl (by omega)) rfl rfl ?_
  refine XO.c (.assign rfl) rfl rfl ?_
  refine XO.nil (thenC.go ?_)
  refine XC.ret fun tf htf => ?_
  refine endF.one rfl rfl (htf 2 _ rfl) ?_
  exact ⟨congrArg (Value.int .i64) (by rfl), hA.leftAf rfl⟩
theorem bLen12_ok {h : Heap} {S : List Nat} (hok : HOk h) (hS : ∀ b ∈ S, b < h.next) : EvF Tryz.prog OA 165 [.int .u64 12] h fun r h' => r = .int .i64 (lenE 12) ∧ h' = h := by
  refine XF.enter Tryz.func165 rfl rfl rfl ?_
  have hok : HOk (entry h) := hok
  have hA := After.refl (entry h)
  show XC Tryz.prog OA none _ _ [] [(0, .int .u64 12)] (entry h) _
  refine XC.seq ?_
  refine XC.text ?_
  refine XO.c (.assign rfl) rfl rfl ?_
  refine XO.nil (thenC.go ?_)
  refine XC.seq ?_
  refine XC.condF rfl ?_
  refine XC.skip (thenC.go ?_)
  refine XC.seq ?_
  refine XC.text ?_
  refine XO.c (.move rfl) rfl rfl ?_
  refine XO.call rfl rfl rfl rfl ?_
  refine EvF.mono (bLenA12_ok (hA.ok hok) (hA.inS hS)  ) ?_
  rintro _ _ ⟨rfl, hh⟩
  obtain rfl := hh.symm
  clear hh
  refine XO.c (.assign rfl) rfl rfl ?_
  refine XO.nil (thenC.go ?_)
  refine XC.ret fun tf htf => ?_
  refine endF.one rfl rfl (htf 2 _ rfl) ?_
  exact ⟨congrArg (Value.int .i64) (by rfl), hA.leftAf rfl⟩
theorem bLen_ok {h : Heap} {S : List Nat} {x : Int} (hok : HOk h) (hS : ∀ b ∈ S, b < h.next) (hx : 0 ≤ x ∧ x ≤ 12) : EvF Tryz.prog OA 165 [.int .u64 x] h fun r h' => r = .int .i64 (lenE x) ∧ h' = h := by
  have : x = 0 ∨ x = 1 ∨ x = 2 ∨ x = 3 ∨ x = 4 ∨ x = 5 ∨ x = 6 ∨ x = 7 ∨ x = 8 ∨ x = 9 ∨ x = 10 ∨ x = 11 ∨ x = 12 := by omega
  rcases this with rfl | rfl | rfl | rfl | rfl | rfl | rfl | rfl | rfl | rfl | rfl | rfl | rfl
  · exact bLen0_ok hok hS
  · exact bLen1_ok hok hS
  · exact bLen2_ok hok hS
  · exact bLen3_ok hok hS
  · exact bLen4_ok hok hS
  · exact bLen5_ok hok hS
  · exact bLen6_ok hok hS
  · exact bLen7_ok hok hS
  · exact bLen8_ok hok hS
  · exact bLen9_ok hok hS
  · exact bLen10_ok hok hS
  · exact bLen11_ok hok hS
  · exact bLen12_ok hok hS
theorem zSort_ok {h : Heap} {S : List Nat} {h0 : Heap} {m : Bool} {v0 : Value} {l : List Int} (hok : HOk h0) (hS : ∀ b ∈ S, b < h0.next) (hA : After h0 h) (hg0 : GrowR h (ownB v0 ++ S) h0.next 3 m (.int .i64) v0 l) (hl : l.length ≤ 12) : EvF Tryz.prog OA 119 [v0] h fun r h' => r = .tuple #[] ∧ Wrote h h' S h0 3 m (.int .i64) v0 l (sortE l) := by
  refine XF.enter Tryz.func119 rfl rfl rfl ?_
  have hA0 := hA
  replace hA := hA.toEntry
  have hge := hg0.chg (h' := entry h) (fun _ _ => rfl) (Goes.objs fun _ => rfl) (fun b hb => List.mem_append_left _ hb)
  have nT : Goes (entry h) (ownB v0 ++ S) (entry h) (ownB v0 ++ S) := Goes.refl
  show XC Tryz.prog OA none _ _ [] [(0, v0)] (entry h) _
  refine XC.seq ?_
  refine XC.text ?_
  refine XO.c (.move rfl) rfl rfl ?_
  refine XO.a (.len rfl (hge.len el22)) rfl rfl ?_
  refine XO.c (.assign rfl) rfl rfl ?_
  refine XO.nil (thenC.go ?_)
  refine XC.text ?_
  refine XO.c (.move rfl) rfl rfl ?_
  refine XO.c (.move rfl) rfl rfl ?_
  refine XO.c (.move rfl) rfl rfl ?_
  refine XO.c (.convI (k2 := .u64) (t := .int .i64) (by kernel_rfl) (by kernel_rfl) rfl (by exact wrapU64 (by omega))) rfl rfl ?_
  refine XO.call rfl rfl rfl rfl ?_
  refine EvF.mono (bLen_ok (hA.ok hok) (hge.inS (hA.ok hok) (hA.inS hS))  (by first | assumption | omega)) ?_
  rintro _ _ ⟨rfl, hh⟩
  obtain rfl := hh.symm
  clear hh
  refine XO.call rfl rfl rfl rfl ?_
  refine EvF.mono (zPdq_ok (h0 := h0) hok hS hA hge rfl rfl hl) ?_
  rintro _ h128 ⟨rfl, g128, a128, n128, k128⟩
  have ok129 := hA.ok hok
  have gg129 : Goes (entry h) (ownB v0 ++ S) h128 (ownB v0 ++ S) := n128
  replace hA := a128
  replace nT := nT.trans gg129
  have kp := k128
  refine XO.nil ?_
  intro tf htf
  refine endF.none rfl rfl ?_
  have hw := own_ret hA0 hg0 hA g128 nT (by exact kp)
  refine ⟨rfl, ?_⟩
  exact hw
end Go.Proofs
