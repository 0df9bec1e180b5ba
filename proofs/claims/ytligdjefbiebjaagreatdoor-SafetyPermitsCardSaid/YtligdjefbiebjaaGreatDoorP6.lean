/- strings.Builder's copyCheck by its contract, beside Itoa and Join: an oracle for the evaluator. No condition. The evaluator that lets loads of what stays as it is come in any order; awake by it. No condition. A long closed call, evaluated piece by piece. No condition. -/
import Derived.Test.YtligdjefbiebjaaGreatDoorP5
set_option linter.all false
namespace Go.Proofs
open Go.Fs
set_option linter.unusedVariables false
set_option maxHeartbeats 1000000

theorem shortPs_ok {l : List Permit} (h : shortPs l = true) : l.length ≤ 65 ∧ ∀ p ∈ l, p.2.2.2.1.length ≤ 9 := by
  unfold shortPs at h
  rw [Bool.and_eq_true] at h
  obtain ⟨h1, h2⟩ := h
  have h1 := of_decide_eq_true h1
  refine ⟨by omega, fun p hp => ?_⟩
  have h3 := List.all_eq_true.1 h2 p hp
  unfold shortP at h3
  simp only [Bool.and_eq_true, Bool.not_eq_true', Bool.or_eq_false_iff, decide_eq_false_iff_not] at h3
  omega
theorem awake_ok : VF Tryz.prog OA 16 [] (B true) := VF.oracle (fun _ => rfl) fun _ _ => ⟨rfl, rfl⟩
theorem firstE_all {l : List Int} : firstE l = 0 ↔ ∀ x ∈ l, x = 0 := by
  induction l with
  | nil => simp [firstE]
  | cons x l ih => by_cases h : x = 0 <;> simp [firstE, h, ih]
theorem perm_span {p : Permit} (h : permE p = 0) : spanE p.2.2.2.2 = 0 := by
  unfold permE at h
  rw [firstE_all] at h
  exact h _ (by simp)
theorem two_zero {a b : Int} (h : firstE [a, b] = 0) : a = 0 ∧ b = 0 := by
  rw [firstE_all] at h
  exact ⟨h _ (by simp), h _ (by simp)⟩
theorem law1_ok {l : List (ByteArray × ByteArray × ByteArray × (List ByteArray) × (Int × Int))} {s : List ((Int × Int) × Int)} : VF Tryz.prog OA 3 [.v y22 l, .v y23 s] (B true) := by
  refine VF.enter Tryz.func3 rfl (fun _ _ => rfl) rfl ?_
  show VC _ _ _ _ _ [(0, .v y22 l), (1, .v y23 s)] [] _
  refine VC.seq ?_
  refine VC.text ?_
  refine VO.c (.assign rfl) ?_
  refine VO.go ?_
  refine VC.seq ?_
  refine VC.seq ?_
  refine VC.text ?_
  refine VO.c (.move rfl) ?_
  refine VO.call rfl rfl (VF.call (rShortP_ok )) ?_
  refine VO.c (.not) ?_
  refine VO.c (.move rfl) ?_
  refine VO.cg (r := (!(shortPs l))) (w := false) [] trivial (fun hgd => have g1_3 : (!(shortPs l)) = false := (by simpa using hgd); (.move rfl)) ?_
  refine VO.callg (r0 := (!(shortPs l))) (w := false) [(15, .v y23 s)] ⟨rfl, trivial⟩ rfl rfl .same .refl rfl (fun hgd => have g1_3 : (!(shortPs l)) = false := (by simpa using hgd); VF.call (rShortS_ok )) ?_
  refine VO.cg (r := (!(shortPs l))) (w := false) [(16, B (decide ((s.length : Int) ≤ 9)))] ⟨rfl, trivial⟩ (fun hgd => have g1_3 : (!(shortPs l)) = false := (by simpa using hgd); (.not)) ?_
  refine VO.c (.or) ?_
  refine VO.go ?_
  refine VC.condB rfl (fun c1 => ?_) (fun c1 => ?_)
  · try simp only [Bool.and_eq_true, Bool.or_eq_true, Bool.and_eq_false_iff, Bool.or_eq_false_iff, Bool.not_eq_true', Bool.not_eq_false', decide_eq_true_eq, decide_eq_false_iff_not] at c1
    refine VC.seq ?_
    refine VC.text ?_
    refine VO.call rfl rfl (VF.call (awake_ok )) ?_
    refine VO.c (.assign rfl) ?_
    refine VO.go ?_
    refine VC.ret ?_
    exact VEnd.one rfl evT (pvE (by rfl))
  · try simp only [Bool.and_eq_true, Bool.or_eq_true, Bool.and_eq_false_iff, Bool.or_eq_false_iff, Bool.not_eq_true', Bool.not_eq_false', decide_eq_true_eq, decide_eq_false_iff_not] at c1
    have hs0 := c1
    have hl := (shortPs_ok hs0.1).1
    have hk : PermOk l := fun p hp => by have := (shortPs_ok hs0.1).2 p hp; omega
    refine VC.skip ?_
    show VC _ _ _ _ _ _ _ _
    refine VC.seq ?_
    refine VC.text ?_
    refine VO.cell (.alloc zt31) ?_
    intro ww1
    refine VO.cell (.alloc zt31) ?_
    intro ww2
    refine VO.go ?_
    refine VC.seq ?_
    refine VC.seq ?_
    refine VC.text ?_
    refine VO.c (.move rfl) ?_
    refine VO.r (.len el22) ?_
    refine VO.c (.gtr) ?_
    refine VO.go ?_
    refine VC.condD rfl (fun c4 => ?_) (fun c4 => ?_)
    · have h1 : (l[0]).2.2.2.1.length < 1000000 := hk _ (List.getElem_mem _)
      have h2 : (l[Int.toNat (((l.length : Nat) : Int) - (1 : Int))]).2.2.2.1.length < 1000000 := hk _ (List.getElem_mem _)
      refine VC.perm swap1 ?_
      refine VC.late [] ⟨[(ww1, .var [St ByteArray.empty, St ByteArray.empty, St ByteArray.empty, .v (.sl .str) [], I (0 : Int), I (0 : Int)]), (ww2, .var [St ByteArray.empty, St ByteArray.empty, St ByteArray.empty, .v (.sl .str) [], I (0 : Int), I (0 : Int)])], rfl⟩ ?_
      refine VLt.c (.move rfl) ?_
      refine VLt.c (.ix (j := 0) rfl rfl el22 (by omega)) ?_
      refine VLt.q rfl (.ld vt31) ?_
      refine VLt.c (.move rfl) ?_
      refine VLt.c (.move rfl) ?_
      refine VLt.lenS el22 ?_
      refine VLt.nws [] ?_
      refine VLt.c (.sub rfl rfl (by omega)) ?_
      refine VLt.c (.ixZ (k := (((l.length : Nat) : Int) - (1 : Int))) rfl rfl el22 (by omega) (by omega)) ?_
      refine VLt.q rfl (.ld vt31) ?_
      refine VLt.mk0 (MakeV.setF (k := 0) vt31 .v (by decide) (.inr ⟨rfl, rfl⟩) rfl rfl) (TurnV.store rfl (.inl rfl)) ⟨[(ww2, .var [St ByteArray.empty, St ByteArray.empty, St ByteArray.empty, .v (.sl .str) [], I (0 : Int), I (0 : Int)])], rfl⟩ ?_
      rintro _ _ ⟨rfl, rfl⟩
      refine ⟨⟨[(ww1, .var [St ((l[0]).1), St ((l[0]).2.1), St ((l[0]).2.2.1), .v (.sl .str) ((l[0]).2.2.2.1), I (((l[0]).2.2.2.2).1), I (((l[0]).2.2.2.2).2)]), (ww2, .var [St ByteArray.empty, St ByteArray.empty, St ByteArray.empty, .v (.sl .str) [], I (0 : Int), I (0 : Int)])], rfl⟩, ?_⟩
      refine VLt.perm swap1 ⟨[(ww2, .var [St ByteArray.empty, St ByteArray.empty, St ByteArray.empty, .v (.sl .str) [], I (0 : Int), I (0 : Int)]), (ww1, .var [St ((l[0]).1), St ((l[0]).2.1), St ((l[0]).2.2.1), .v (.sl .str) ((l[0]).2.2.2.1), I (((l[0]).2.2.2.2).1), I (((l[0]).2.2.2.2).2)])], rfl⟩ ?_
      refine VLt.mk0 (MakeV.setF (k := 0) vt31 .v (by decide) (.inr ⟨rfl, rfl⟩) rfl rfl) (TurnV.store rfl (.inl rfl)) ⟨[(ww1, .var [St ((l[0]).1), St ((l[0]).2.1), St ((l[0]).2.2.1), .v (.sl .str) ((l[0]).2.2.2.1), I (((l[0]).2.2.2.2).1), I (((l[0]).2.2.2.2).2)])], rfl⟩ ?_
      rintro _ _ ⟨rfl, rfl⟩
      refine ⟨⟨[(ww2, .var [St ((l[Int.toNat (((l.length : Nat) : Int) - (1 : Int))]).1), St ((l[Int.toNat (((l.length : Nat) : Int) - (1 : Int))]).2.1), St ((l[Int.toNat (((l.length : Nat) : Int) - (1 : Int))]).2.2.1), .v (.sl .str) ((l[Int.toNat (((l.length : Nat) : Int) - (1 : Int))]).2.2.2.1), I (((l[Int.toNat (((l.length : Nat) : Int) - (1 : Int))]).2.2.2.2).1), I (((l[Int.toNat (((l.length : Nat) : Int) - (1 : Int))]).2.2.2.2).2)]), (ww1, .var [St ((l[0]).1), St ((l[0]).2.1), St ((l[0]).2.2.1), .v (.sl .str) ((l[0]).2.2.2.1), I (((l[0]).2.2.2.2).1), I (((l[0]).2.2.2.2).2)])], rfl⟩, ?_⟩
      refine VLt.go ?_
      refine VC.seq ?_
      refine VC.drawn ?_
      refine VD.r [(ww2, .var [St ((l[Int.toNat (((l.length : Nat) : Int) - (1 : Int))]).1), St ((l[Int.toNat (((l.length : Nat) : Int) - (1 : Int))]).2.1), St ((l[Int.toNat (((l.length : Nat) : Int) - (1 : Int))]).2.2.1), .v (.sl .str) ((l[Int.toNat (((l.length : Nat) : Int) - (1 : Int))]).2.2.2.1), I (((l[Int.toNat (((l.length : Nat) : Int) - (1 : Int))]).2.2.2.2).1), I (((l[Int.toNat (((l.length : Nat) : Int) - (1 : Int))]).2.2.2.2).2)]), (ww1, .var [St ((l[0]).1), St ((l[0]).2.1), St ((l[0]).2.2.1), .v (.sl .str) ((l[0]).2.2.2.1), I (((l[0]).2.2.2.2).1), I (((l[0]).2.2.2.2).2)])] (.ldA (dx := l[0]) m1 vt31) (.inr ⟨rfl, rfl⟩) ?_
      refine VD.call rfl rfl (VF.call (lPermit_ok (by first | assumption | omega | simp))) ?_
      refine VD.r [(ww2, .var [St ((l[Int.toNat (((l.length : Nat) : Int) - (1 : Int))]).1), St ((l[Int.toNat (((l.length : Nat) : Int) - (1 : Int))]).2.1), St ((l[Int.toNat (((l.length : Nat) : Int) - (1 : Int))]).2.2.1), .v (.sl .str) ((l[Int.toNat (((l.length : Nat) : Int) - (1 : Int))]).2.2.2.1), I (((l[Int.toNat (((l.length : Nat) : Int) - (1 : Int))]).2.2.2.2).1), I (((l[Int.toNat (((l.length : Nat) : Int) - (1 : Int))]).2.2.2.2).2)]), (ww1, .var [St ((l[0]).1), St ((l[0]).2.1), St ((l[0]).2.2.1), .v (.sl .str) ((l[0]).2.2.2.1), I (((l[0]).2.2.2.2).1), I (((l[0]).2.2.2.2).2)])] (.ldA (dx := l[Int.toNat (((l.length : Nat) : Int) - (1 : Int))]) m0 vt31) (.inr ⟨rfl, rfl⟩) ?_
      refine VD.call rfl rfl (VF.call (lPermit_ok (by first | assumption | omega | simp))) ?_
      refine VD.callO rfl rfl (VF.call (sExclude_ok (by first | assumption | omega | simp) (by first | assumption | omega | simp))) ?_
      refine VD.c (.move rfl) ?_
      refine VD.nw [36, 34] ?_
      refine VD.c (.extract) ?_
      refine VD.c (.extract) ?_
      refine VD.c (.assign rfl) ?_
      refine VD.c (.assign rfl) ?_
      refine VD.go ?_
      refine VC.seq ?_
      refine VC.drawn ?_
      refine VD.r [(ww2, .var [St ((l[Int.toNat (((l.length : Nat) : Int) - (1 : Int))]).1), St ((l[Int.toNat (((l.length : Nat) : Int) - (1 : Int))]).2.1), St ((l[Int.toNat (((l.length : Nat) : Int) - (1 : Int))]).2.2.1), .v (.sl .str) ((l[Int.toNat (((l.length : Nat) : Int) - (1 : Int))]).2.2.2.1), I (((l[Int.toNat (((l.length : Nat) : Int) - (1 : Int))]).2.2.2.2).1), I (((l[Int.toNat (((l.length : Nat) : Int) - (1 : Int))]).2.2.2.2).2)]), (ww1, .var [St ((l[0]).1), St ((l[0]).2.1), St ((l[0]).2.2.1), .v (.sl .str) ((l[0]).2.2.2.1), I (((l[0]).2.2.2.2).1), I (((l[0]).2.2.2.2).2)])] (.ldA (dx := l[0]) m1 vt31) (.inr ⟨rfl, rfl⟩) ?_
      refine VD.call rfl rfl (VF.call (rPermit_ok (by first | assumption | omega | simp))) ?_
      refine VD.r [(ww2, .var [St ((l[Int.toNat (((l.length : Nat) : Int) - (1 : Int))]).1), St ((l[Int.toNat (((l.length : Nat) : Int) - (1 : Int))]).2.1), St ((l[Int.toNat (((l.length : Nat) : Int) - (1 : Int))]).2.2.1), .v (.sl .str) ((l[Int.toNat (((l.length : Nat) : Int) - (1 : Int))]).2.2.2.1), I (((l[Int.toNat (((l.length : Nat) : Int) - (1 : Int))]).2.2.2.2).1), I (((l[Int.toNat (((l.length : Nat) : Int) - (1 : Int))]).2.2.2.2).2)]), (ww1, .var [St ((l[0]).1), St ((l[0]).2.1), St ((l[0]).2.2.1), .v (.sl .str) ((l[0]).2.2.2.1), I (((l[0]).2.2.2.2).1), I (((l[0]).2.2.2.2).2)])] (.ldA (dx := l[Int.toNat (((l.length : Nat) : Int) - (1 : Int))]) m0 vt31) (.inr ⟨rfl, rfl⟩) ?_
      refine VD.call rfl rfl (VF.call (rPermit_ok (by first | assumption | omega | simp))) ?_
      refine VD.new (.lit [permE (l[0]), permE (l[Int.toNat (((l.length : Nat) : Int) - (1 : Int))])] el39) ?_
      refine VD.callO rfl rfl (VF.call (rFirst_ok (by first | assumption | omega | simp))) ?_
      refine VD.nw [44] ?_
      refine VD.c (.assign rfl) ?_
      refine VD.c (.assign rfl) ?_
      refine VD.go ?_
      refine VC.seq ?_
      refine VC.seq ?_
      refine VC.keep [(0, .v y22 l), (1, .v y23 s), (5, .raw ww1), (6, .raw ww2), (7, St (if firstE [permE (l[0]), permE (l[Int.toNat (((l.length : Nat) : Int) - (1 : Int))])] = 0 then nameR (reasonIx (l[0]) (l[Int.toNat (((l.length : Nat) : Int) - (1 : Int))])) else ByteArray.empty)), (8, I (firstE [permE (l[0]), permE (l[Int.toNat (((l.length : Nat) : Int) - (1 : Int))])])), (9, I (firstE [permE (l[0]), permE (l[Int.toNat (((l.length : Nat) : Int) - (1 : Int))])])), (10, St ByteArray.empty)] ⟨rfl, rfl, rfl, rfl, rfl, rfl, rfl, rfl, trivial⟩ ?_
      refine VC.text ?_
      refine VO.c (.move rfl) ?_
      refine VO.c (.eql) ?_
      refine VO.go ?_
      refine VC.condD rfl (fun c8 => ?_) (fun c8 => ?_)
      · have hz := two_zero c8
        have h3 := perm_span hz.1
        have h4 := perm_span hz.2
        refine VC.text ?_
        refine VO.r (.ldA (dx := l[0]) m1 vt31) ?_
        refine VO.r (.ldA (dx := l[Int.toNat (((l.length : Nat) : Int) - (1 : Int))]) m0 vt31) ?_
        refine VO.call rfl rfl (VF.call (rExclude_ok (by first | assumption | omega | simp) (by first | assumption | omega | simp) (by first | assumption | omega | simp) (by first | assumption | omega | simp))) ?_
        refine VO.c (.assign rfl) ?_
        refine VO.go ?_
        refine VC.seq ?_
        refine VC.drawn ?_
        refine VD.r [(ww2, .var [St ((l[Int.toNat (((l.length : Nat) : Int) - (1 : Int))]).1), St ((l[Int.toNat (((l.length : Nat) : Int) - (1 : Int))]).2.1), St ((l[Int.toNat (((l.length : Nat) : Int) - (1 : Int))]).2.2.1), .v (.sl .str) ((l[Int.toNat (((l.length : Nat) : Int) - (1 : Int))]).2.2.2.1), I (((l[Int.toNat (((l.length : Nat) : Int) - (1 : Int))]).2.2.2.2).1), I (((l[Int.toNat (((l.length : Nat) : Int) - (1 : Int))]).2.2.2.2).2)]), (ww1, .var [St ((l[0]).1), St ((l[0]).2.1), St ((l[0]).2.2.1), .v (.sl .str) ((l[0]).2.2.2.1), I (((l[0]).2.2.2.2).1), I (((l[0]).2.2.2.2).2)])] (.ldA (dx := l[0]) m1 vt31) (.inr ⟨rfl, rfl⟩) ?_
        refine VD.call rfl rfl (VF.call (lPermit_ok (by first | assumption | omega | simp))) ?_
        refine VD.callO rfl rfl (VF.call (sPermit_ok (by first | assumption | omega | simp))) ?_
        refine VD.r [(ww2, .var [St ((l[Int.toNat (((l.length : Nat) : Int) - (1 : Int))]).1), St ((l[Int.toNat (((l.length : Nat) : Int) - (1 : Int))]).2.1), St ((l[Int.toNat (((l.length : Nat) : Int) - (1 : Int))]).2.2.1), .v (.sl .str) ((l[Int.toNat (((l.length : Nat) : Int) - (1 : Int))]).2.2.2.1), I (((l[Int.toNat (((l.length : Nat) : Int) - (1 : Int))]).2.2.2.2).1), I (((l[Int.toNat (((l.length : Nat) : Int) - (1 : Int))]).2.2.2.2).2)]), (ww1, .var [St ((l[0]).1), St ((l[0]).2.1), St ((l[0]).2.2.1), .v (.sl .str) ((l[0]).2.2.2.1), I (((l[0]).2.2.2.2).1), I (((l[0]).2.2.2.2).2)])] (.ldA (dx := l[0]) m1 vt31) (.inr ⟨rfl, rfl⟩) ?_
        refine VD.call rfl rfl (VF.call (rPermit_ok (by first | assumption | omega | simp))) ?_
        refine VD.c (.eql) ?_
        refine VD.nw [52] ?_
        refine VD.c (.move rfl) ?_
        refine VD.splitD (x := 57) rfl (fun g10_6 => ?_) (fun g10_6 => ?_)
        · refine VD.c (.move rfl) ?_
          refine VD.call rfl rfl (VF.call (lPermits_ok (by first | assumption | omega | simp) (by first | assumption | omega | simp))) ?_
          refine VD.callO rfl rfl (VF.call (sPermits_ok (by first | assumption | omega | simp) (by first | assumption | omega | simp))) ?_
          refine VD.c (.move rfl) ?_
          refine VD.call rfl rfl (VF.call (rPermits_ok (by first | assumption | omega | simp) (by first | assumption | omega | simp))) ?_
          refine VD.nw [59, 52] ?_
          refine VD.c (.eql) ?_
          refine VD.c (.pickT rfl rfl) ?_
          refine VD.c (.move rfl) ?_
          refine VD.splitD (x := 65) rfl (fun g10_14 => ?_) (fun g10_14 => ?_)
          · refine VD.c (.move rfl) ?_
            refine VD.call rfl rfl (VF.call (lSeasons_ok (by first | assumption | omega | simp))) ?_
            refine VD.callO rfl rfl (VF.call (sSeas_ok (by first | assumption | omega | simp))) ?_
            refine VD.nw [67, 59, 52] ?_
            refine VD.c (.move rfl) ?_
            refine VD.call rfl rfl (VF.call (rSeas_ok (by first | assumption | omega | simp))) ?_
            refine VD.c (.eql) ?_
            refine VD.c (.pickT rfl rfl) ?_
            refine VD.c (.move rfl) ?_
            refine VD.splitD (x := 73) rfl (fun g10_22 => ?_) (fun g10_22 => ?_)
            · refine VD.c (.move rfl) ?_
              refine VD.nw [67, 59, 52] ?_
              refine VD.c (.move rfl) ?_
              refine VD.c (.seql) ?_
              refine VD.c (.pickT rfl rfl) ?_
              refine VD.c (.move rfl) ?_
              refine VD.splitD (x := 78) rfl (fun g10_27 => ?_) (fun g10_27 => ?_)
              · refine VD.c (.move rfl) ?_
                refine VD.c (.move rfl) ?_
                refine VD.nw [67, 59, 52] ?_
                refine VD.c (.eql) ?_
                refine VD.c (.pickT rfl rfl) ?_
                refine VD.c (.move rfl) ?_
                refine VD.splitD (x := 83) rfl (fun g10_32 => ?_) (fun g10_32 => ?_)
                · refine VD.call rfl rfl (VF.call (awake_ok )) ?_
                  refine VD.c (.pickT rfl rfl) ?_
                  refine VD.c (.assign rfl) ?_
                  refine VD.go ?_
                  refine VC.ret ?_
                  exact VEnd.one rfl evT (pvE (by rfl))
                · exact absurd rfl g10_32
              · exact absurd (by first | rw [if_pos c8] | rw [if_neg c8]) g10_27
            · exact absurd rfl g10_22
          · exact absurd rfl g10_14
        · exact absurd rfl g10_6
      · refine VC.skip ?_
        show VC _ _ _ _ _ _ _ _
        refine VC.seq ?_
        refine VC.drawn ?_
        refine VD.r [(ww2, .var [St ((l[Int.toNat (((l.length : Nat) : Int) - (1 : Int))]).1), St ((l[Int.toNat (((l.length : Nat) : Int) - (1 : Int))]).2.1), St ((l[Int.toNat (((l.length : Nat) : Int) - (1 : Int))]).2.2.1), .v (.sl .str) ((l[Int.toNat (((l.length : Nat) : Int) - (1 : Int))]).2.2.2.1), I (((l[Int.toNat (((l.length : Nat) : Int) - (1 : Int))]).2.2.2.2).1), I (((l[Int.toNat (((l.length : Nat) : Int) - (1 : Int))]).2.2.2.2).2)]), (ww1, .var [St ((l[0]).1), St ((l[0]).2.1), St ((l[0]).2.2.1), .v (.sl .str) ((l[0]).2.2.2.1), I (((l[0]).2.2.2.2).1), I (((l[0]).2.2.2.2).2)])] (.ldA (dx := l[0]) m1 vt31) (.inr ⟨rfl, rfl⟩) ?_
        refine VD.call rfl rfl (VF.call (lPermit_ok (by first | assumption | omega | simp))) ?_
        refine VD.callO rfl rfl (VF.call (sPermit_ok (by first | assumption | omega | simp))) ?_
        refine VD.r [(ww2, .var [St ((l[Int.toNat (((l.length : Nat) : Int) - (1 : Int))]).1), St ((l[Int.toNat (((l.length : Nat) : Int) - (1 : Int))]).2.1), St ((l[Int.toNat (((l.length : Nat) : Int) - (1 : Int))]).2.2.1), .v (.sl .str) ((l[Int.toNat (((l.length : Nat) : Int) - (1 : Int))]).2.2.2.1), I (((l[Int.toNat (((l.length : Nat) : Int) - (1 : Int))]).2.2.2.2).1), I (((l[Int.toNat (((l.length : Nat) : Int) - (1 : Int))]).2.2.2.2).2)]), (ww1, .var [St ((l[0]).1), St ((l[0]).2.1), St ((l[0]).2.2.1), .v (.sl .str) ((l[0]).2.2.2.1), I (((l[0]).2.2.2.2).1), I (((l[0]).2.2.2.2).2)])] (.ldA (dx := l[0]) m1 vt31) (.inr ⟨rfl, rfl⟩) ?_
        refine VD.call rfl rfl (VF.call (rPermit_ok (by first | assumption | omega | simp))) ?_
        refine VD.c (.eql) ?_
        refine VD.nw [52] ?_
        refine VD.c (.move rfl) ?_
        refine VD.splitD (x := 57) rfl (fun g10_6 => ?_) (fun g10_6 => ?_)
        · refine VD.c (.move rfl) ?_
          refine VD.call rfl rfl (VF.call (lPermits_ok (by first | assumption | omega | simp) (by first | assumption | omega | simp))) ?_
          refine VD.callO rfl rfl (VF.call (sPermits_ok (by first | assumption | omega | simp) (by first | assumption | omega | simp))) ?_
          refine VD.c (.move rfl) ?_
          refine VD.call rfl rfl (VF.call (rPermits_ok (by first | assumption | omega | simp) (by first | assumption | omega | simp))) ?_
          refine VD.nw [59, 52] ?_
          refine VD.c (.eql) ?_
          refine VD.c (.pickT rfl rfl) ?_
          refine VD.c (.move rfl) ?_
          refine VD.splitD (x := 65) rfl (fun g10_14 => ?_) (fun g10_14 => ?_)
          · refine VD.c (.move rfl) ?_
            refine VD.call rfl rfl (VF.call (lSeasons_ok (by first | assumption | omega | simp))) ?_
            refine VD.callO rfl rfl (VF.call (sSeas_ok (by first | assumption | omega | simp))) ?_
            refine VD.nw [67, 59, 52] ?_
            refine VD.c (.move rfl) ?_
            refine VD.call rfl rfl (VF.call (rSeas_ok (by first | assumption | omega | simp))) ?_
            refine VD.c (.eql) ?_
            refine VD.c (.pickT rfl rfl) ?_
            refine VD.c (.move rfl) ?_
            refine VD.splitD (x := 73) rfl (fun g10_22 => ?_) (fun g10_22 => ?_)
            · refine VD.c (.move rfl) ?_
              refine VD.nw [67, 59, 52] ?_
              refine VD.c (.move rfl) ?_
              refine VD.c (.seql) ?_
              refine VD.c (.pickT rfl rfl) ?_
              refine VD.c (.move rfl) ?_
              refine VD.splitD (x := 78) rfl (fun g10_27 => ?_) (fun g10_27 => ?_)
              · refine VD.c (.move rfl) ?_
                refine VD.c (.move rfl) ?_
                refine VD.nw [67, 59, 52] ?_
                refine VD.c (.eql) ?_
                refine VD.c (.pickT rfl rfl) ?_
                refine VD.c (.move rfl) ?_
                refine VD.splitD (x := 83) rfl (fun g10_32 => ?_) (fun g10_32 => ?_)
                · refine VD.call rfl rfl (VF.call (awake_ok )) ?_
                  refine VD.c (.pickT rfl rfl) ?_
                  refine VD.c (.assign rfl) ?_
                  refine VD.go ?_
                  refine VC.ret ?_
                  exact VEnd.one rfl evT (pvE (by rfl))
                · exact absurd rfl g10_32
              · exact absurd (by first | rw [if_pos c8] | rw [if_neg c8]) g10_27
            · exact absurd rfl g10_22
          · exact absurd rfl g10_14
        · exact absurd rfl g10_6
    · refine VC.skip ?_
      show VC _ _ _ _ _ _ _ _
      refine VC.seq ?_
      refine VC.drawn ?_
      refine VD.r [(ww2, .var [St ByteArray.empty, St ByteArray.empty, St ByteArray.empty, .v (.sl .str) [], I (0 : Int), I (0 : Int)]), (ww1, .var [St ByteArray.empty, St ByteArray.empty, St ByteArray.empty, .v (.sl .str) [], I (0 : Int), I (0 : Int)])] (.ldA (dx := (ByteArray.empty, ByteArray.empty, ByteArray.empty, [], ((0 : Int), (0 : Int)))) m1 vt31) (.inr ⟨rfl, rfl⟩) ?_
      refine VD.call rfl rfl (VF.call (lPermit_ok (by first | assumption | omega | simp))) ?_
      refine VD.r [(ww2, .var [St ByteArray.empty, St ByteArray.empty, St ByteArray.empty, .v (.sl .str) [], I (0 : Int), I (0 : Int)]), (ww1, .var [St ByteArray.empty, St ByteArray.empty, St ByteArray.empty, .v (.sl .str) [], I (0 : Int), I (0 : Int)])] (.ldA (dx := (ByteArray.empty, ByteArray.empty, ByteArray.empty, [], ((0 : Int), (0 : Int)))) m0 vt31) (.inr ⟨rfl, rfl⟩) ?_
      refine VD.call rfl rfl (VF.call (lPermit_ok (by first | assumption | omega | simp))) ?_
      refine VD.callO rfl rfl (VF.call (sExclude_ok (by first | assumption | omega | simp) (by first | assumption | omega | simp))) ?_
      refine VD.c (.move rfl) ?_
      refine VD.nw [36, 34] ?_
      refine VD.c (.extract) ?_
      refine VD.c (.extract) ?_
      refine VD.c (.assign rfl) ?_
      refine VD.c (.assign rfl) ?_
      refine VD.go ?_
      refine VC.seq ?_
      refine VC.drawn ?_
      refine VD.r [(ww2, .var [St ByteArray.empty, St ByteArray.empty, St ByteArray.empty, .v (.sl .str) [], I (0 : Int), I (0 : Int)]), (ww1, .var [St ByteArray.empty, St ByteArray.empty, St ByteArray.empty, .v (.sl .str) [], I (0 : Int), I (0 : Int)])] (.ldA (dx := (ByteArray.empty, ByteArray.empty, ByteArray.empty, [], ((0 : Int), (0 : Int)))) m1 vt31) (.inr ⟨rfl, rfl⟩) ?_
      refine VD.call rfl rfl (VF.call (rPermit_ok (by first | assumption | omega | simp))) ?_
      refine VD.r [(ww2, .var [St ByteArray.empty, St ByteArray.empty, St ByteArray.empty, .v (.sl .str) [], I (0 : Int), I (0 : Int)]), (ww1, .var [St ByteArray.empty, St ByteArray.empty, St ByteArray.empty, .v (.sl .str) [], I (0 : Int), I (0 : Int)])] (.ldA (dx := (ByteArray.empty, ByteArray.empty, ByteArray.empty, [], ((0 : Int), (0 : Int)))) m0 vt31) (.inr ⟨rfl, rfl⟩) ?_
      refine VD.call rfl rfl (VF.call (rPermit_ok (by first | assumption | omega | simp))) ?_
      refine VD.new (.lit [permE (ByteArray.empty, ByteArray.empty, ByteArray.empty, [], ((0 : Int), (0 : Int))), permE (ByteArray.empty, ByteArray.empty, ByteArray.empty, [], ((0 : Int), (0 : Int)))] el39) ?_
      refine VD.callO rfl rfl (VF.call (rFirst_ok (by first | assumption | omega | simp))) ?_
      refine VD.nw [44] ?_
      refine VD.c (.assign rfl) ?_
      refine VD.c (.assign rfl) ?_
      refine VD.go ?_
      refine VC.seq ?_
      refine VC.seq ?_
      refine VC.text ?_
      refine VO.c (.move rfl) ?_
      refine VO.c (.eql) ?_
      refine VO.go ?_
      refine VC.condD rfl (fun c8 => ?_) (fun c8 => ?_)
      · have hz := two_zero c8
        have h3 := perm_span hz.1
        have h4 := perm_span hz.2
        refine VC.keep [(0, .v y22 l), (1, .v y23 s), (5, .raw ww1), (6, .raw ww2), (7, St (if firstE [permE (ByteArray.empty, ByteArray.empty, ByteArray.empty, [], ((0 : Int), (0 : Int))), permE (ByteArray.empty, ByteArray.empty, ByteArray.empty, [], ((0 : Int), (0 : Int)))] = 0 then nameR (reasonIx (ByteArray.empty, ByteArray.empty, ByteArray.empty, [], ((0 : Int), (0 : Int))) (ByteArray.empty, ByteArray.empty, ByteArray.empty, [], ((0 : Int), (0 : Int)))) else ByteArray.empty)), (8, I (firstE [permE (ByteArray.empty, ByteArray.empty, ByteArray.empty, [], ((0 : Int), (0 : Int))), permE (ByteArray.empty, ByteArray.empty, ByteArray.empty, [], ((0 : Int), (0 : Int)))])), (9, I (firstE [permE (ByteArray.empty, ByteArray.empty, ByteArray.empty, [], ((0 : Int), (0 : Int))), permE (ByteArray.empty, ByteArray.empty, ByteArray.empty, [], ((0 : Int), (0 : Int)))]))] ⟨rfl, rfl, rfl, rfl, rfl, rfl, rfl, trivial⟩ ?_
        refine VC.text ?_
        refine VO.r (.ldA (dx := (ByteArray.empty, ByteArray.empty, ByteArray.empty, [], ((0 : Int), (0 : Int)))) m1 vt31) ?_
        refine VO.r (.ldA (dx := (ByteArray.empty, ByteArray.empty, ByteArray.empty, [], ((0 : Int), (0 : Int)))) m0 vt31) ?_
        refine VO.call rfl rfl (VF.call (rExclude_ok (by first | assumption | omega | simp) (by first | assumption | omega | simp) (by first | assumption | omega | simp) (by first | assumption | omega | simp))) ?_
        refine VO.c (.assign rfl) ?_
        refine VO.go ?_
        refine VC.seq ?_
        refine VC.drawn ?_
        refine VD.r [(ww2, .var [St ByteArray.empty, St ByteArray.empty, St ByteArray.empty, .v (.sl .str) [], I (0 : Int), I (0 : Int)]), (ww1, .var [St ByteArray.empty, St ByteArray.empty, St ByteArray.empty, .v (.sl .str) [], I (0 : Int), I (0 : Int)])] (.ldA (dx := (ByteArray.empty, ByteArray.empty, ByteArray.empty, [], ((0 : Int), (0 : Int)))) m1 vt31) (.inr ⟨rfl, rfl⟩) ?_
        refine VD.call rfl rfl (VF.call (lPermit_ok (by first | assumption | omega | simp))) ?_
        refine VD.callO rfl rfl (VF.call (sPermit_ok (by first | assumption | omega | simp))) ?_
        refine VD.r [(ww2, .var [St ByteArray.empty, St ByteArray.empty, St ByteArray.empty, .v (.sl .str) [], I (0 : Int), I (0 : Int)]), (ww1, .var [St ByteArray.empty, St ByteArray.empty, St ByteArray.empty, .v (.sl .str) [], I (0 : Int), I (0 : Int)])] (.ldA (dx := (ByteArray.empty, ByteArray.empty, ByteArray.empty, [], ((0 : Int), (0 : Int)))) m1 vt31) (.inr ⟨rfl, rfl⟩) ?_
        refine VD.call rfl rfl (VF.call (rPermit_ok (by first | assumption | omega | simp))) ?_
        refine VD.c (.eql) ?_
        refine VD.nw [52] ?_
        refine VD.c (.move rfl) ?_
        refine VD.splitD (x := 57) rfl (fun g10_6 => ?_) (fun g10_6 => ?_)
        · refine VD.c (.move rfl) ?_
          refine VD.call rfl rfl (VF.call (lPermits_ok (by first | assumption | omega | simp) (by first | assumption | omega | simp))) ?_
          refine VD.callO rfl rfl (VF.call (sPermits_ok (by first | assumption | omega | simp) (by first | assumption | omega | simp))) ?_
          refine VD.c (.move rfl) ?_
          refine VD.call rfl rfl (VF.call (rPermits_ok (by first | assumption | omega | simp) (by first | assumption | omega | simp))) ?_
          refine VD.nw [59, 52] ?_
          refine VD.c (.eql) ?_
          refine VD.c (.pickT rfl rfl) ?_
          refine VD.c (.move rfl) ?_
          refine VD.splitD (x := 65) rfl (fun g10_14 => ?_) (fun g10_14 => ?_)
          · refine VD.c (.move rfl) ?_
            refine VD.call rfl rfl (VF.call (lSeasons_ok (by first | assumption | omega | simp))) ?_
            refine VD.callO rfl rfl (VF.call (sSeas_ok (by first | assumption | omega | simp))) ?_
            refine VD.nw [67, 59, 52] ?_
            refine VD.c (.move rfl) ?_
            refine VD.call rfl rfl (VF.call (rSeas_ok (by first | assumption | omega | simp))) ?_
            refine VD.c (.eql) ?_
            refine VD.c (.pickT rfl rfl) ?_
            refine VD.c (.move rfl) ?_
            refine VD.splitD (x := 73) rfl (fun g10_22 => ?_) (fun g10_22 => ?_)
            · refine VD.c (.move rfl) ?_
              refine VD.nw [67, 59, 52] ?_
              refine VD.c (.move rfl) ?_
              refine VD.c (.seql) ?_
              refine VD.c (.pickT rfl rfl) ?_
              refine VD.c (.move rfl) ?_
              refine VD.splitD (x := 78) rfl (fun g10_27 => ?_) (fun g10_27 => ?_)
              · refine VD.c (.move rfl) ?_
                refine VD.c (.move rfl) ?_
                refine VD.nw [67, 59, 52] ?_
                refine VD.c (.eql) ?_
                refine VD.c (.pickT rfl rfl) ?_
                refine VD.c (.move rfl) ?_
                refine VD.splitD (x := 83) rfl (fun g10_32 => ?_) (fun g10_32 => ?_)
                · refine VD.call rfl rfl (VF.call (awake_ok )) ?_
                  refine VD.c (.pickT rfl rfl) ?_
                  refine VD.c (.assign rfl) ?_
                  refine VD.go ?_
                  refine VC.ret ?_
                  exact VEnd.one rfl evT (pvE (by rfl))
                · exact absurd rfl g10_32
              · exact absurd (by first | rw [if_pos c8] | rw [if_neg c8]) g10_27
            · exact absurd rfl g10_22
          · exact absurd rfl g10_14
        · exact absurd rfl g10_6
      · refine VC.skip ?_
        show VC _ _ _ _ _ _ _ _
        refine VC.seq ?_
        refine VC.keep [(0, .v y22 l), (1, .v y23 s), (5, .raw ww1), (7, St (if firstE [permE (ByteArray.empty, ByteArray.empty, ByteArray.empty, [], ((0 : Int), (0 : Int))), permE (ByteArray.empty, ByteArray.empty, ByteArray.empty, [], ((0 : Int), (0 : Int)))] = 0 then nameR (reasonIx (ByteArray.empty, ByteArray.empty, ByteArray.empty, [], ((0 : Int), (0 : Int))) (ByteArray.empty, ByteArray.empty, ByteArray.empty, [], ((0 : Int), (0 : Int)))) else ByteArray.empty)), (8, I (firstE [permE (ByteArray.empty, ByteArray.empty, ByteArray.empty, [], ((0 : Int), (0 : Int))), permE (ByteArray.empty, ByteArray.empty, ByteArray.empty, [], ((0 : Int), (0 : Int)))])), (9, I (firstE [permE (ByteArray.empty, ByteArray.empty, ByteArray.empty, [], ((0 : Int), (0 : Int))), permE (ByteArray.empty, ByteArray.empty, ByteArray.empty, [], ((0 : Int), (0 : Int)))])), (10, St ByteArray.empty)] ⟨rfl, rfl, rfl, rfl, rfl, rfl, rfl, trivial⟩ ?_
        refine VC.drawn ?_
        refine VD.r [(ww2, .var [St ByteArray.empty, St ByteArray.empty, St ByteArray.empty, .v (.sl .str) [], I (0 : Int), I (0 : Int)]), (ww1, .var [St ByteArray.empty, St ByteArray.empty, St ByteArray.empty, .v (.sl .str) [], I (0 : Int), I (0 : Int)])] (.ldA (dx := (ByteArray.empty, ByteArray.empty, ByteArray.empty, [], ((0 : Int), (0 : Int)))) m1 vt31) (.inr ⟨rfl, rfl⟩) ?_
        refine VD.call rfl rfl (VF.call (lPermit_ok (by first | assumption | omega | simp))) ?_
        refine VD.callO rfl rfl (VF.call (sPermit_ok (by first | assumption | omega | simp))) ?_
        refine VD.r [(ww2, .var [St ByteArray.empty, St ByteArray.empty, St ByteArray.empty, .v (.sl .str) [], I (0 : Int), I (0 : Int)]), (ww1, .var [St ByteArray.empty, St ByteArray.empty, St ByteArray.empty, .v (.sl .str) [], I (0 : Int), I (0 : Int)])] (.ldA (dx := (ByteArray.empty, ByteArray.empty, ByteArray.empty, [], ((0 : Int), (0 : Int)))) m1 vt31) (.inr ⟨rfl, rfl⟩) ?_
        refine VD.call rfl rfl (VF.call (rPermit_ok (by first | assumption | omega | simp))) ?_
        refine VD.c (.eql) ?_
        refine VD.nw [52] ?_
        refine VD.c (.move rfl) ?_
        refine VD.splitD (x := 57) rfl (fun g10_6 => ?_) (fun g10_6 => ?_)
        · refine VD.c (.move rfl) ?_
          refine VD.call rfl rfl (VF.call (lPermits_ok (by first | assumption | omega | simp) (by first | assumption | omega | simp))) ?_
          refine VD.callO rfl rfl (VF.call (sPermits_ok (by first | assumption | omega | simp) (by first | assumption | omega | simp))) ?_
          refine VD.c (.move rfl) ?_
          refine VD.call rfl rfl (VF.call (rPermits_ok (by first | assumption | omega | simp) (by first | assumption | omega | simp))) ?_
          refine VD.nw [59, 52] ?_
          refine VD.c (.eql) ?_
          refine VD.c (.pickT rfl rfl) ?_
          refine VD.c (.move rfl) ?_
          refine VD.splitD (x := 65) rfl (fun g10_14 => ?_) (fun g10_14 => ?_)
          · refine VD.c (.move rfl) ?_
            refine VD.call rfl rfl (VF.call (lSeasons_ok (by first | assumption | omega | simp))) ?_
            refine VD.callO rfl rfl (VF.call (sSeas_ok (by first | assumption | omega | simp))) ?_
            refine VD.nw [67, 59, 52] ?_
            refine VD.c (.move rfl) ?_
            refine VD.call rfl rfl (VF.call (rSeas_ok (by first | assumption | omega | simp))) ?_
            refine VD.c (.eql) ?_
            refine VD.c (.pickT rfl rfl) ?_
            refine VD.c (.move rfl) ?_
            refine VD.splitD (x := 73) rfl (fun g10_22 => ?_) (fun g10_22 => ?_)
            · refine VD.c (.move rfl) ?_
              refine VD.nw [67, 59, 52] ?_
              refine VD.c (.move rfl) ?_
              refine VD.c (.seql) ?_
              refine VD.c (.pickT rfl rfl) ?_
              refine VD.c (.move rfl) ?_
              refine VD.splitD (x := 78) rfl (fun g10_27 => ?_) (fun g10_27 => ?_)
              · refine VD.c (.move rfl) ?_
                refine VD.c (.move rfl) ?_
                refine VD.nw [67, 59, 52] ?_
                refine VD.c (.eql) ?_
                refine VD.c (.pickT rfl rfl) ?_
                refine VD.c (.move rfl) ?_
                refine VD.splitD (x := 83) rfl (fun g10_32 => ?_) (fun g10_32 => ?_)
                · refine VD.call rfl rfl (VF.call (awake_ok )) ?_
                  refine VD.c (.pickT rfl rfl) ?_
                  refine VD.c (.assign rfl) ?_
                  refine VD.go ?_
                  refine VC.ret ?_
                  exact VEnd.one rfl evT (pvE (by rfl))
                · exact absurd rfl g10_32
              · exact absurd (by first | rw [if_pos c8] | rw [if_neg c8]) g10_27
            · exact absurd rfl g10_22
          · exact absurd rfl g10_14
        · exact absurd rfl g10_6
end Go.Proofs
namespace Go.Fs
open Go.RowKit (Below)
variable {P : Program}
def orcB (fi fj fc : FuncId) (T : TypeId) : FuncId → List Value → Heap → Option (Value × Heap) := fun f xs h =>
  bif Nat.beq f fc then
    match xs with
    | [.pointer (some ⟨b, 0, none⟩)] =>
      match h.get b with
      | some (.row e [p, v] true false) =>
        bif Nat.beq e T then
          match p with
          | .pointer none => some (.tuple #[], h.set b (.row e [.pointer (some ⟨b, 0, none⟩), v] true false))
          | .pointer (some ⟨b', 0, none⟩) => bif Nat.beq b' b then some (.tuple #[], h) else none
          | _ => none
        else none
      | _ => none
    | _ => none
  else orcS fi fj f xs h
theorem orcB_sound {B : Nat} {w0 : World} {fi fj fc : FuncId} {T : TypeId} (hS : CallSound P B w0 (orcS fi fj)) (hc : Enters P fc)
    (hF : ∀ (b : Nat) (w : World), w.cell? ⟨b, 0, none⟩ = some (.pointer none) → w.shape? b = some (T, 2) → w.frozen? ⟨b, 0, none⟩ = false →
      Calls P fc #[.pointer (some ⟨b, 0, none⟩)] w fun e w' => e = .returned (.tuple #[]) ∧ w' = w.setCell ⟨b, 0, none⟩ (.pointer (some ⟨b, 0, none⟩)))
    (hU : ∀ (b : Nat) (w : World), w.cell? ⟨b, 0, none⟩ = some (.pointer (some ⟨b, 0, none⟩)) → Calls P fc #[.pointer (some ⟨b, 0, none⟩)] w fun e w' => e = .returned (.tuple #[]) ∧ w' = w) :
    CallSound P B w0 (orcB fi fj fc T) := by
  intro f xs h v h' hf
  unfold orcB at hf
  cases hb : Nat.beq f fc with
  | false =>
    rw [hb] at hf
    exact hS f xs h v h' hf
  | true =>
    have := nbeq hb
    subst this
    rw [hb] at hf
    simp only [cond_true] at hf
    split at hf
    · rename_i b
      split at hf
      · rename_i e p u hg
        obtain ⟨he, hf2⟩ := bif_some hf
        obtain rfl := nbeq he
        refine ⟨hc, fun ρ S w args' hr ha nn => ?_⟩
        obtain ⟨hsb, cur, k1, k2, k3, k4, k5, k6, k7⟩ := hr.objs b _ hg
        have hcl : cur.length = 2 := (k6 rfl).symm
        match cur, hcl with
        | [p', u'], _ =>
        have hp : VR ρ S p p' := k7 0 (by simp)
        have hu : VR ρ S u u' := k7 1 (by simp)
        have hat : (ρ b).at 0 = ⟨(ρ b).block, 0, none⟩ := by unfold Loc.at; rw [k2]
        have harg : args' = [.pointer (some ⟨(ρ b).block, 0, none⟩)] := by
          have h1 := ha.1
          match args', h1 with
          | [a], _ =>
            have h2 : VR ρ S (.pointer (some ⟨b, 0, none⟩)) a := ha.2 0 (by simp)
            rw [h2.ptr_inv.2, hat]
        subst harg
        have hcell : w.cell? ⟨(ρ b).block, 0, none⟩ = some p' := by simp [World.cell?, k1]
        split at hf2
        · simp only [Option.some.injEq, Prod.mk.injEq] at hf2
          obtain ⟨rfl, rfl⟩ := hf2
          obtain rfl := hp.eq_of_af0 rfl
          have hC : CallsIn Fence.wide nn P f #[.pointer (some ⟨(ρ b).block, 0, none⟩)] w _ := callsIn_wide.2 (hF (ρ b).block w hcell (by simp [World.shape?, k1]) (by simp [World.frozen?, k1]))
          refine hC.mono fun e2 w' hret => ?_
          obtain ⟨rfl, rfl⟩ := hret
          refine ⟨ρ, Moved.set hr hg rfl rfl rfl rfl rfl (by simp [World.setCell]) (fun k hk => ?_) ?_, VR.tuple' LR.nil⟩
          · simp only [World.setCell, Array.getElem?_modify]
            rw [if_neg (fun e0 => hk e0.symm)]
          · refine ⟨[.pointer (some ⟨(ρ b).block, 0, none⟩), u'], ?_, k2, k3, k4, Nat.le_refl _, fun _ => rfl, fun i hi => ?_⟩
            · simp only [World.setCell, Array.getElem?_modify, if_pos rfl, k1]
              simp
            · match i, hi with
              | 0, _ => show VR ρ S (.pointer (some ⟨b, 0, none⟩)) (.pointer (some ⟨(ρ b).block, 0, none⟩)); rw [← hat]; exact .ptr b 0 hsb
              | 1, _ => exact hu
        · rename_i b'
          obtain ⟨hbb, hf3⟩ := bif_some hf2
          obtain rfl := nbeq hbb
          simp only [Option.some.injEq, Prod.mk.injEq] at hf3
          obtain ⟨rfl, rfl⟩ := hf3
          have hp2 := hp.ptr_inv.2
          rw [hat] at hp2
          subst hp2
          have hC : CallsIn Fence.wide nn P f #[.pointer (some ⟨(ρ b').block, 0, none⟩)] w _ := callsIn_wide.2 (hU (ρ b').block w hcell)
          refine hC.mono fun e2 w' hret => ?_
          obtain ⟨rfl, rfl⟩ := hret
          exact ⟨ρ, Moved.same hr, VR.tuple' LR.nil⟩
        · cases hf2
      · cases hf
    · cases hf
end Go.Fs
namespace Go.Fs
open Go.RowKit (Below)
variable {P : Program} {B : Nat} {w0 : World}

def fsStepX (P : Program) (orc : FuncId → List Value → Heap → Option (Value × Heap)) (rec : Rec) : Rec := fun rnd c fr h =>
  match c with
  | .region _ ops true => match drawnX P { next := h.next, low := h.next, objs := h.objs } (fsOp P (callOf P orc rec) (fsYield rec)) ops fr.n ⟨fr.t, { next := h.next, low := h.next, objs := h.objs }, [], [], 0, false⟩ with
    | some s => some (.normal, { t := s.t, n := fr.n, marks := fr.marks }, { next := s.h.next, low := min h.low s.h.low, objs := s.h.objs })
    | none => none
  | c => fsStep P orc rec rnd c fr h
def fsCodeX (P : Program) (orc : FuncId → List Value → Heap → Option (Value × Heap)) : Nat → Rec
  | 0 => fun _ _ _ _ => none
  | n + 1 => fsStepX P orc (fsCodeX P orc n)

theorem HR.low {ρ : Ren} {S : Nat → Prop} {h : Heap} {w : World} (hr : HR P ρ S B w0 h w) (l : Nat) : HR P ρ S B w0 { next := h.next, low := l, objs := h.objs } w :=
  { objs := hr.objs, inj := hr.inj, base := hr.base, ro := hr.ro, ids := hr.ids, pos := hr.pos, below := hr.below, size := hr.size }
theorem Moved.lowered {ρ ρ' : Ren} {S : Nat → Prop} {h h' : Heap} {w w' : World} {l : Nat} (m : Moved P B w0 ρ ρ' S { next := h.next, low := l, objs := h.objs } h' w w') :
    Moved P B w0 ρ ρ' S h { next := h'.next, low := min h.low h'.low, objs := h'.objs } w w' where
  agree := m.agree
  next := m.next
  hr := m.hr.low _
  frame := ⟨m.frame.os, m.frame.tape, m.frame.output, m.frame.size, m.frame.block⟩
  low := Nat.min_le_left _ _
  keep := fun i hi hl => m.keep i hi (Nat.lt_of_lt_of_le hl (Nat.min_le_right _ _))
  old := m.old
  fresh := fun i o ho hi => by
    obtain ⟨h1, h2⟩ := m.fresh i o ho hi
    refine ⟨h1, ?_⟩
    rcases h2 with h2 | ⟨j, oj, h3, h4, h5, h6, h7⟩
    · exact .inl h2
    · exact .inr ⟨j, oj, h3, h4, h5, Nat.le_trans (Nat.min_le_right _ _) h6, h7⟩
theorem stepX_sound (hP : ProgOk P) {orc : FuncId → List Value → Heap → Option (Value × Heap)} (horc : CallSound P B w0 orc) {m : Nat} {rec : Rec} (hrec : SoundR P B w0 m rec) : SoundR P B w0 (m + 1) (fsStepX P orc rec) := by
  have hcs : CallSnd P B w0 (callOf P orc rec) := call_sound hP horc hrec
  have hys : YieldSound P B w0 (fsYield rec) := yield_sound hrec
  have hold := step_sound hP horc hrec
  intro rnd c fr h e fr' h' hok hf
  cases c with
  | region id ops draw =>
    cases draw with
    | false => exact hold rnd _ fr h e fr' h' hok hf
    | true =>
      intro ρ S w a nn Q hr ht hm hs k
      simp only [fsStepX] at hf
      split at hf
      · rename_i s hrun
        simp only [Option.some.injEq, Prod.mk.injEq] at hf
        obtain ⟨rfl, rfl, rfl⟩ := hf
        refine wpIn_region_draw fun t => ?_
        rw [hP.mixed]
        exact drawn_wpX (h0 := { next := h.next, low := h.next, objs := h.objs }) (call := callOf P orc rec) (yield := fsYield rec) hcs hys hok hrun ((hr.drew _).low _) ht (fun ρ1 w1 a1 m1 ht1 hd1 => k _ _ _ ⟨(Moved.ofDrew m1).lowered, ht1, by rw [hd1]; exact hm.mono fun b hb => ⟨.inl hb, m1.agree b hb⟩⟩) t
      · cases hf
  | _ => exact hold rnd _ fr h e fr' h' hok hf

theorem codeX_sound (hP : ProgOk P) {orc : FuncId → List Value → Heap → Option (Value × Heap)} (horc : CallSound P B w0 orc) : ∀ m, SoundR P B w0 m (fsCodeX P orc m)
  | 0 => fun rnd c fr h e fr' h' _ hf => by cases hf
  | m + 1 => stepX_sound hP horc (codeX_sound hP horc m)
theorem fsX_calls (hP : ProgOk P) {orc : FuncId → List Value → Heap → Option (Value × Heap)} (horc : CallSound P B w0 orc) (m : Nat) : CallSound P B w0 (fsEnter P (fsCodeX P orc m)) := enter_sound hP (codeX_sound hP horc m)
theorem fsX_closed (hP : ProgOk P) {w : World} {orc : FuncId → List Value → Heap → Option (Value × Heap)} (horc : CallSound P w.heap.size w orc) {m : Nat} {f : FuncId} {args : List Value} {v : Value} (ha : args.all af = true)
    (hf : (fsEnter P (fsCodeX P orc m) f args ⟨1, 1, []⟩).map (·.1) = some v) (hv : af v = true) :
    Calls P f args.toArray w fun | .returned v', w' => v' = v ∧ Below w.heap.size w w' | _, _ => False := by
  obtain ⟨⟨v0, h0⟩, h1, h2⟩ := Option.map_eq_some_iff.1 hf
  simp only at h2
  subst h2
  have hr : HR P (fun _ => ⟨0, 0, 0, 0⟩) (fun _ => False) w.heap.size w ⟨1, 1, []⟩ w :=
    { objs := fun i o hi => (by cases hi), inj := fun i j oi oj hi => (by cases hi), base := fun i o hi => (by cases hi), ro := fun i o hi => (by cases hi), ids := fun b hb => hb.elim, pos := by decide,
      below := Below.refl _ _, size := Nat.le_refl _ }
  have hc := ((fsX_calls hP horc m) f args _ _ _ h1).2 _ _ w args hr ⟨rfl, fun i hi => .of_af (List.all_eq_true.1 ha _ (mem_getD hi))⟩ 0
  refine Calls.mono (callsIn_wide.1 hc) fun e w' he => ?_
  cases e with
  | returned v' =>
    obtain ⟨ρ', m1, hv1⟩ := he
    exact ⟨hv1.eq_of_af hv, m1.hr.below⟩
  | panicked c => exact he.elim
  | outgrown => exact he.elim
theorem awakeX_calls (hP : ProgOk P) {B : Nat} {w0 : World} {O : FuncId → List Value → Heap → Option (Value × Heap)} {fa : FuncId} (hS : ∀ w, Below B w0 w → CallSound P w.heap.size w O) {m : Nat}
    (hrun : (fsEnter P (fsCodeX P O m) fa [] ⟨1, 1, []⟩).map (·.1) = some (.bool true)) (w : World) (hw : Below B w0 w) :
    Calls P fa #[] w fun | .returned v', w' => v' = .bool true ∧ Below w.heap.size w w' | _, _ => False :=
  fsX_closed hP (hS w hw) (args := []) rfl hrun rfl
end Go.Fs
namespace Go.Fs
variable {P : Program} {orc : FuncId → List Value → Heap → Option (Value × Heap)}
def runPre (P : Program) (orc : FuncId → List Value → Heap → Option (Value × Heap)) : Nat → Nat → Code → Fr → Heap → Option (Nat × Code × Fr × Heap)
  | 0, n, c, fr, h => some (n, c, fr, h)
  | k + 1, n, c, fr, h => match n, c with
    | n + 1, .seq a b => match fsCodeX P orc n none a fr h with
      | some (.normal, fr1, h1) => runPre P orc k n b fr1 h1
      | _ => none
    | _, _ => none
theorem run_via : ∀ {k n : Nat} {c : Code} {fr : Fr} {h : Heap} {n' : Nat} {c' : Code} {fr' : Fr} {h' : Heap}, runPre P orc k n c fr h = some (n', c', fr', h') → fsCodeX P orc n none c fr h = fsCodeX P orc n' none c' fr' h'
  | 0, n, c, fr, h, n', c', fr', h', hr => by
    simp only [runPre, Option.some.injEq, Prod.mk.injEq] at hr
    obtain ⟨rfl, rfl, rfl, rfl⟩ := hr
    rfl
  | k + 1, n, c, fr, h, n', c', fr', h', hr => by
    simp only [runPre] at hr
    split at hr
    · rename_i n a b
      split at hr
      · rename_i fr1 h1 ha
        rw [← run_via hr]
        show fsStep P orc (fsCodeX P orc n) none (.seq a b) fr h = _
        simp only [fsStep, ha]
      · cases hr
    · cases hr
def endV (P : Program) (fn : Func) (h : Heap) (x : Ex × Fr × Heap) : Option Value :=
  bif x.1.goes then
    match dropMarks x.2.1.marks x.2.2 with
    | some h2 => (fsResults P x.2.1.t h2 fn.results.toList).map tupled
    | none => none
  else none
theorem enter_map {rec : Rec} {f : FuncId} {args : List Value} {h : Heap} {fn : Func} {c : Code} (hf : P.funcs[f]? = some fn) (hc : fn.body = some c) (hn : (Nat.blt 4000 fn.ntmps || Nat.blt fn.ntmps args.length) = false) :
    (fsEnter P rec f args h).map (·.1) = (rec none c ⟨fillTr .leaf 0 args, fn.ntmps, []⟩ { next := h.next, low := h.next, objs := h.objs }).bind (endV P fn h) := by
  unfold fsEnter fsEnterK endV
  simp only [hf, hc, hn, cond_false]
  cases rec none c ⟨fillTr .leaf 0 args, fn.ntmps, []⟩ { next := h.next, low := h.next, objs := h.objs } with
  | none => rfl
  | some x =>
    obtain ⟨e, fr, h1⟩ := x
    simp only [Option.bind_some]
    cases e.goes with
    | false => rfl
    | true =>
      simp only [cond_true]
      cases dropMarks fr.marks h1 with
      | none => rfl
      | some h2 =>
        simp only
        cases fsResults P fr.t h2 fn.results.toList with
        | none => rfl
        | some vs =>
          simp only [Option.map_some]
          generalize (!false && (af (tupled vs) && Nat.ble h.next h2.low)) = q
          cases q <;> rfl
def sufx : Nat → Code → Code
  | 0, c => c
  | k + 1, .seq _ b => sufx k b
  | _ + 1, c => c
def rfOf : Code → Option (Array Tmp × Code × Code)
  | .rangeFunc _ ps a b => some (ps, a, b)
  | .seq a b => (rfOf a).or (rfOf b)
  | .cond _ a b => (rfOf a).or (rfOf b)
  | .block _ b => rfOf b
  | .loop b => rfOf b
  | .scope b => rfOf b
  | _ => none
def rfIn (fn : Func) : Array Tmp × Code × Code := (fn.body.bind rfOf).getD (#[], .skip, .skip)
end Go.Fs
