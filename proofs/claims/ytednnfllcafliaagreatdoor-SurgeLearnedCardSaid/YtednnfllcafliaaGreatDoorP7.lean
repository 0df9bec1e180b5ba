/- Contracts of functions of the program, over the evaluator: what each answers. Conditions: those in each statement. -/
import Derived.Test.YtednnfllcafliaaGreatDoorP6
set_option linter.all false
namespace Go.Proofs
open Go.Fs
set_option linter.unusedVariables false
theorem vt24 : ValT Tryz.prog 24 y24 := valT_of (by kernel_rfl)
theorem law7_ok_c52 {l : List ((List Int) × (List Int))} {t : (List Int) × Int × Int}  {up : Value} (hp : 0 < l.length) (hn : nightsE l = 0) (hsm : ∀ c ∈ l, SmallN c) (htr : transferE t = 0) : VC Tryz.prog OA none (seqN 15 (codeOf Tryz.f7)) Tryz.f7.ntmps [(0, .v y39 l), (23, I (sumT t)), (24, .p y29 (wholeT t)), (25, .raw up)] [(up, .row 3 (.int .i64) (upE l[0].1))] (VEnd Tryz.prog Tryz.f7 (B true)) := by
  refine VC.seq ?_
  refine VC.drawn ?_
  have hN := nightsE_ok hn
  have hO := hN.all _ (List.getElem_mem hp)
  have hOt := hO.top
  have hT := transferE_ok htr
  have hT1 := hT.len
  have hz := (hsm _ (List.getElem_mem hp)).1
  have hlb : ∀ x ∈ l[0].1, -1048576 ≤ x ∧ x ≤ 1048576 := fun x hx => by have := hz x hx; omega
  have hub : ∀ x ∈ upE l[0].1, -1048576 ≤ x ∧ x ≤ 1048576 := fun x hx => by
    obtain ⟨y, hy, rfl⟩ := List.mem_map.1 hx
    have := hz y hy; omega
  have A1 := apply_0 (whole_ok htr) hOt hlb
  have A2 := apply_0 (whole_ok htr) (show (upE l[0].1).length ≤ 96 by rw [up_len]; exact hOt) hub
  have n1 : (applyR (wholeT t) l[0].1).length = l[0].1.length := by rw [A1.2, apply_len]
  have n2 : (applyR (wholeT t) (upE l[0].1)).length = l[0].1.length := by rw [A2.2, apply_len, up_len]
  have n3 : (upE l[0].1).length = l[0].1.length := up_len
  have hpw := pow_bound (q := t.2.1.toNat) (by have := hT.shift; omega)
  have hsb := sum_bound (show 0 < ((2 : Int) ^ (t.2.1).toNat) by omega) hT.taps
  refine VD.r [] (.ld vt29) (.inl rfl) ?_
  refine VD.call rfl rfl (VF.call (lTransfer_ok (by simp [wholeT]; omega))) ?_
  refine VD.c (.move rfl) ?_
  refine VD.c (.ix (j := 0) rfl rfl el39 (by omega)) ?_
  refine VD.c (.fa (.l .o)) ?_
  refine VD.r [] (.ld vt22) (.inl rfl) ?_
  refine VD.nw [277] ?_
  refine VD.call rfl rfl (VF.call (lInts_ok (by omega))) ?_
  refine VD.callO rfl rfl (VF.call (sApply_ok (by simp [wholeT]; omega) (by omega))) ?_
  refine VD.c (.move rfl) ?_
  refine VD.c (.extract) ?_
  refine VD.c (.extract) ?_
  refine VD.c (.assign rfl) ?_
  refine VD.c (.assign rfl) ?_
  refine VD.go ?_
  refine VC.seq ?_
  refine VC.text ?_
  refine VO.r (.ld vt29) ?_
  refine VO.call rfl rfl (VF.call (lTransfer_ok (by simp [wholeT]; omega))) ?_
  refine VO.c (.move rfl) ?_
  refine VO.shut [(25, .v y22 (upE l[0].1)), (289, .v y22 (upE l[0].1))] (.cons rfl (.row m0) (.cons rfl (.row m0) .nil)) ?_
  refine VO.call rfl rfl (VF.call (sApply_ok (by simp [wholeT]; omega) (by rw [up_len]; omega))) ?_
  refine VO.c (.move rfl) ?_
  refine VO.c (.extract) ?_
  refine VO.c (.extract) ?_
  refine VO.c (.assign rfl) ?_
  refine VO.c (.assign rfl) ?_
  refine VO.go ?_
  refine VC.seq ?_
  refine VC.seq ?_
  refine VC.text ?_
  refine VO.c (.move rfl) ?_
  refine VO.c (.neq) ?_
  refine VO.c (.move rfl) ?_
  refine VO.splitD (x := 295) rfl (fun g54_2 => ?_) (fun g54_2 => ?_)
  · exact absurd A1.1 g54_2
  · refine VO.c (.move rfl) ?_
    refine VO.c (.neq) ?_
    refine VO.c (.pickF rfl rfl) ?_
    refine VO.c (.move rfl) ?_
    refine VO.splitD (x := 299) rfl (fun g54_6 => ?_) (fun g54_6 => ?_)
    · exact absurd A2.1 g54_6
    · refine VO.c (.move rfl) ?_
      refine VO.r (.len el22) ?_
      refine VO.c (.move rfl) ?_
      refine VO.r (.len el22) ?_
      refine VO.c (.neq) ?_
      refine VO.c (.pickF rfl rfl) ?_
      refine VO.c (.move rfl) ?_
      refine VO.splitD (x := 306) rfl (fun g54_13 => ?_) (fun g54_13 => ?_)
      · exact absurd (by rw [n1, n3]) g54_13
      · refine VO.c (.move rfl) ?_
        refine VO.r (.len el22) ?_
        refine VO.c (.move rfl) ?_
        refine VO.r (.len el22) ?_
        refine VO.c (.neq) ?_
        refine VO.c (.pickF rfl rfl) ?_
        refine VO.go ?_
        refine VC.condD rfl (fun c54 => ?_) (fun c54 => ?_)
        · exact absurd (by rw [n2, n3]) c54
        · refine VC.skip ?_
          show VC _ _ _ _ _ _ _ _
          refine VC.seq ?_
          refine VC.seq ?_
          refine VC.keep [(23, I (sumT t)), (29, .v y22 (applyR (wholeT t) ((l[0]).1))), (31, .v y22 (applyR (wholeT t) (upE l[0].1)))] ⟨rfl, rfl, rfl, trivial⟩ ?_
          refine VC.text ?_
          refine VO.c (.move rfl) ?_
          refine VO.r (.len el22) ?_
          refine VO.c (.move rfl) ?_
          refine VO.go ?_
          refine VC.block ?_
          refine VC.keep [(23, I (sumT t)), (29, .v y22 (applyR (wholeT t) ((l[0]).1))), (31, .v y22 (applyR (wholeT t) (upE l[0].1))), (314, I (((applyR (wholeT t) ((l[0]).1)).length : Nat) : Int)), (315, I ((0 : Nat) : Int))] ⟨rfl, rfl, rfl, rfl, rfl, trivial⟩ ?_
          refine VC.loop (I := fun kk ff ss => ∃ (q : Nat), kk = l[0].1.length - q ∧ ff = [(23, I (sumT t)), (29, .v y22 (applyR (wholeT t) ((l[0]).1))), (31, .v y22 (applyR (wholeT t) (upE l[0].1))), (314, I (((applyR (wholeT t) ((l[0]).1)).length : Nat) : Int)), (315, I ((q : Nat) : Int))] ∧ ss = [] ∧ (q ≤ l[0].1.length)) ?_ _ _ _ ⟨0, rfl, rfl, rfl, (by omega)⟩
          rintro kk ff ss ⟨q, hk12, rfl, rfl, hq⟩
          refine VC.seq ?_
          refine VC.text ?_
          refine VO.c (.lss) ?_
          refine VO.go ?_
          refine VC.seq ?_
          refine VC.condD rfl (fun c57 => ?_) (fun c57 => ?_)
          · refine VC.skip ?_
            show VC _ _ _ _ _ _ _ _
            refine VC.seq ?_
            refine VC.block ?_
            refine VC.seq ?_
            refine VC.text ?_
            refine VO.c (.move rfl) ?_
            refine VO.c (.assign rfl) ?_
            refine VO.go ?_
            refine VC.seq ?_
            refine VC.drawn ?_
            have hq1 : q < l[0].1.length := by omega
            have hb := apply_bound (transferE_ok (whole_ok htr)) hlb (i := q) (by rw [apply_len]; omega)
            have hu := apply_up (t := t) hq1
            have e1 : (applyR (wholeT t) l[0].1)[q]'(by omega) = (applyE (wholeT t) l[0].1)[q]'(by rw [apply_len]; omega) := by simp only [A1.2]
            have e2 : (applyR (wholeT t) (upE l[0].1))[q]'(by omega) = (applyE (wholeT t) (upE l[0].1))[q]'(by rw [apply_len, up_len]; omega) := by simp only [A2.2]
            have hs5 : -512 ≤ sumT t ∧ sumT t ≤ 512 := by unfold sumT; omega
            refine VD.c (.move rfl) ?_
            refine VD.c (.move rfl) ?_
            refine VD.c (.ix (j := q) rfl rfl el22 (by omega)) ?_
            refine VD.r [] (.ld vt3) (.inl rfl) ?_
            refine VD.c (.move rfl) ?_
            refine VD.c (.move rfl) ?_
            refine VD.nw [] ?_
            refine VD.c (.ix (j := q) rfl rfl el22 (by omega)) ?_
            refine VD.r [] (.ld vt3) (.inl rfl) ?_
            refine VD.c (.move rfl) ?_
            refine VD.c (.add rfl rfl (by rw [e1]; exact ⟨by omega, by omega⟩)) ?_
            refine VD.c (.neq) ?_
            refine VD.go ?_
            refine VC.condD rfl (fun c59 => ?_) (fun c59 => ?_)
            · exact absurd (by rw [e1, e2]; exact hu) c59
            · refine VC.skip ?_
              show VC _ _ _ _ _ _ _ _
              refine VC.text ?_
              refine VO.c (.add rfl rfl (by omega)) ?_
              refine VO.c (.move rfl) ?_
              refine VO.nil ?_
              refine ⟨_, [(23, I (sumT t)), (29, .v y22 (applyR (wholeT t) ((l[0]).1))), (31, .v y22 (applyR (wholeT t) (upE l[0].1))), (314, I (((applyR (wholeT t) ((l[0]).1)).length : Nat) : Int)), (315, I (((q + 1) : Nat) : Int))], ?_, ⟨rfl, rfl, rfl, rfl, rfl, trivial⟩, (q + 1), rfl, rfl, rfl, (by omega)⟩
              omega
          · refine VC.exit ?_
            show VC _ _ _ _ _ _ _ _
            refine VC.seq ?_
            refine VC.text ?_
            refine VO.call rfl rfl (VF.call (awake_ok )) ?_
            refine VO.c (.assign rfl) ?_
            refine VO.go ?_
            refine VC.ret ?_
            exact VEnd.one rfl evT (pvE (by first | rfl | simp))
theorem law7_ok_c47 {l : List ((List Int) × (List Int))} {t : (List Int) × Int × Int}  {ww5 : Value} {ww6 : Value} (hp : 0 < l.length) (hn : nightsE l = 0) (hsm : ∀ c ∈ l, SmallN c) (htr : transferE t = 0) : VC Tryz.prog OA none (seqN 14 (codeOf Tryz.f7)) Tryz.f7.ntmps [(0, .v y39 l), (23, I (sumT t)), (24, .raw ww6), (25, nilV)] [(ww5, .row 3 (.int .i64) ((wholeT t).1)), (ww6, .var [.raw ww5, I t.2.1, I t.2.2])] (VEnd Tryz.prog Tryz.f7 (B true)) := by
  refine VC.seq ?_
  refine VC.seq ?_
  refine VC.shutL [(ww5, .row 3 (.int .i64) ((wholeT t).1)), (ww6, .var [.raw ww5, I t.2.1, I t.2.2])] [(24, .p y29 (wholeT t))] rfl (.cons rfl (.var m1 (.cons (.row m0) .refl)) .nil) ?_
  refine VC.text ?_
  have hN := nightsE_ok hn
  have hO := hN.all _ (List.getElem_mem hp)
  have hOt := hO.top
  refine VO.c (.move rfl) ?_
  refine VO.c (.ix (j := 0) rfl rfl el39 (by omega)) ?_
  refine VO.c (.fa (.l .o)) ?_
  refine VO.r (.ld vt22) ?_
  refine VO.r (.len el22) ?_
  refine VO.c (.move rfl) ?_
  refine VO.go ?_
  refine VC.block ?_
  refine VC.cell0 3 (.int .i64) ?_
  refine VC.keep [(0, .v y39 l), (23, I (sumT t)), (24, .p y29 (wholeT t)), (25, .raw (.slice none 0 0)), (263, .v y22 ((l[0]).1)), (264, I ((((l[0]).1).length : Nat) : Int)), (265, I ((0 : Nat) : Int))] ⟨rfl, rfl, rfl, rfl, rfl, rfl, rfl, trivial⟩ ?_
  refine VC.loop (I := fun kk ff ss => ∃ (k : Nat) (up : Value), kk = l[0].1.length - k ∧ ff = [(0, .v y39 l), (23, I (sumT t)), (24, .p y29 (wholeT t)), (25, .raw up), (263, .v y22 ((l[0]).1)), (264, I ((((l[0]).1).length : Nat) : Int)), (265, I ((k : Nat) : Int))] ∧ ss = [(up, .row 3 (.int .i64) (upE (l[0].1.take k)))] ∧ (k ≤ l[0].1.length)) ?_ _ _ _ ⟨0, (.slice none 0 0), rfl, rfl, rfl, (by omega)⟩
  rintro kk ff ss ⟨k, up, hk10, rfl, rfl, hk⟩
  refine VC.seq ?_
  refine VC.text ?_
  refine VO.c (.lss) ?_
  refine VO.go ?_
  refine VC.seq ?_
  refine VC.condD rfl (fun c48 => ?_) (fun c48 => ?_)
  · refine VC.skip ?_
    show VC _ _ _ _ _ _ _ _
    refine VC.seq ?_
    refine VC.block ?_
    refine VC.seq ?_
    refine VC.text ?_
    refine VO.c (.ix (j := k) rfl rfl el22 (by omega)) ?_
    refine VO.r (.ld vt3) ?_
    refine VO.c (.assign rfl) ?_
    refine VO.go ?_
    refine VC.text ?_
    have hz := (hsm _ (List.getElem_mem hp)).1 _ (List.getElem_mem (show k < l[0].1.length by omega))
    refine VO.c (.move rfl) ?_
    refine VO.c (.move rfl) ?_
    refine VO.c (.add rfl rfl (by omega)) ?_
    refine VO.new (.lit [(((l[0]).1)[k] + (1 : Int))] el22) ?_
    refine VO.app rfl rfl el22 el22 (by simp [upE]; omega) ?_
    intro ww8
    refine VO.c (.assign rfl) ?_
    refine VO.nil ?_
    show VC _ _ _ _ _ _ _ _
    refine VC.text ?_
    refine VO.c (.add rfl rfl (by omega)) ?_
    refine VO.c (.move rfl) ?_
    refine VO.nil ?_
    refine ⟨_, [(0, .v y39 l), (23, I (sumT t)), (24, .p y29 (wholeT t)), (25, .raw ww8), (263, .v y22 ((l[0]).1)), (264, I ((((l[0]).1).length : Nat) : Int)), (265, I (((k + 1) : Nat) : Int))], ?_, ⟨rfl, rfl, rfl, rfl, rfl, rfl, rfl, trivial⟩, (k + 1), ww8, rfl, rfl, (by rw [upE, upE, List.take_succ_eq_append_getElem (by omega), List.map_append] <;> rfl), (by omega)⟩
    omega
  · refine VC.exit ?_
    show VC _ _ _ _ _ _ _ _
    rw [List.take_of_length_le (l := l[0].1) (by omega)]
    refine VC.keep [(0, .v y39 l), (23, I (sumT t)), (24, .p y29 (wholeT t)), (25, .raw up)] ⟨rfl, rfl, rfl, rfl, trivial⟩ ?_
    exact law7_ok_c52 (l := l) (t := t) hp hn hsm htr
theorem law7_ok_c38 {l : List ((List Int) × (List Int))} {t : (List Int) × Int × Int}  (hp : 0 < l.length) (ht : l.length ≤ 64) (hn : nightsE l = 0) (hc : ∀ c ∈ l, c.1.length < 100000 ∧ c.2.length < 100000) (hsm : ∀ c ∈ l, SmallN c) (htr : transferE t = 0) : VC Tryz.prog OA none (seqN 10 (codeOf Tryz.f7)) Tryz.f7.ntmps [(0, .v y39 l), (3, .p y24 t)] [] (VEnd Tryz.prog Tryz.f7 (B true)) := by
  refine VC.seq ?_
  refine VC.text ?_
  have hT := transferE_ok htr
  have hT1 := hT.len
  have hT2 := hT.shift
  have hpw := pow_bound (q := t.2.1.toNat) (by omega)
  refine VO.c (.fa (.r (.l .o))) ?_
  refine VO.r (.ld vt3) ?_
  refine VO.c (.shl rfl rfl (by omega) (by omega)) ?_
  refine VO.c (.assign rfl) ?_
  rw [Int.one_mul]
  refine VO.c (.assign rfl) ?_
  refine VO.go ?_
  refine VC.seq ?_
  refine VC.text ?_
  refine VO.r (.ld vt24) ?_
  refine VO.callG [] rfl rfl rfl (VFG.call (lTransferO_ok (by omega))) ?_
  rintro _ _ ⟨ww5, ho5, rfl, rfl⟩
  show VO _ _ _ _ _ _ [(ww5, .row 3 (.int .i64) (t.1))] _
  refine VO.cell (.alloc zt29) ?_
  intro ww6
  refine VO.setV (cs' := [.raw ww5, I t.2.1, I t.2.2]) vt29 (.agg rfl (one3 ho5) fun _ _ => rep3) ?_
  refine VO.go ?_
  refine VC.seq ?_
  refine VC.text ?_
  refine VO.c (.assign rfl) ?_
  refine VO.go ?_
  refine VC.seq ?_
  refine VC.seq ?_
  refine VC.perm swap1 ?_
  refine VC.text ?_
  refine VO.c (.faO (k := 0) m1) ?_
  refine VO.r (.ldF (k := 0) m1 vt22) ?_
  refine VO.r (.lenO m0 el22) ?_
  refine VO.c (.move rfl) ?_
  refine VO.go ?_
  refine VC.block ?_
  refine VC.keep [(0, .v y39 l), (22, I ((2 : Int) ^ (t.2.1).toNat)), (23, I (((t.1.take 0).map fun a => a.tdiv ((2 : Int) ^ (t.2.1).toNat)).sum)), (24, .raw ww6), (25, nilV), (233, I (((t.1).length : Nat) : Int)), (234, I ((0 : Nat) : Int))] ⟨rfl, rfl, slI rfl (by rfl), rfl, rfl, rfl, rfl, trivial⟩ ?_
  refine VC.loop (I := fun kk ff ss => ∃ (i2 : Nat), kk = t.1.length - i2 ∧ ff = [(0, .v y39 l), (22, I ((2 : Int) ^ (t.2.1).toNat)), (23, I (((t.1.take i2).map fun a => a.tdiv ((2 : Int) ^ (t.2.1).toNat)).sum)), (24, .raw ww6), (25, nilV), (233, I (((t.1).length : Nat) : Int)), (234, I ((i2 : Nat) : Int))] ∧ ss = [(ww5, .row 3 (.int .i64) (halfT t.1 ((2 : Int) ^ (t.2.1).toNat) i2)), (ww6, .var [.raw ww5, I t.2.1, I t.2.2])] ∧ (i2 ≤ t.1.length)) ?_ _ _ _ ⟨0, rfl, rfl, (by simp [halfT]), Nat.zero_le _⟩
  rintro kk ff ss ⟨i2, hk8, rfl, rfl, hi2⟩
  refine VC.seq ?_
  refine VC.text ?_
  refine VO.c (.lss) ?_
  refine VO.go ?_
  refine VC.seq ?_
  refine VC.condD rfl (fun c42 => ?_) (fun c42 => ?_)
  · refine VC.skip ?_
    show VC _ _ _ _ _ _ _ _
    refine VC.seq ?_
    refine VC.block ?_
    refine VC.seq ?_
    refine VC.text ?_
    refine VO.c (.move rfl) ?_
    refine VO.c (.assign rfl) ?_
    refine VO.go ?_
    refine VC.seq ?_
    refine VC.drawn ?_
    have hgv := half_get (u := ((2 : Int) ^ (t.2.1).toNat)) (show i2 < t.1.length by omega)
    have hb1 := hT.taps _ (List.getElem_mem (show i2 < t.1.length by omega))
    have hb2 := tdiv_bound (show 0 < ((2 : Int) ^ (t.2.1).toNat) by omega) hb1
    have hb3 := tdiv_small (show 0 < ((2 : Int) ^ (t.2.1).toNat) by omega) hb1
    have hb4 := sum_bound (L := t.1.take i2) (show 0 < ((2 : Int) ^ (t.2.1).toNat) by omega) fun x hx => hT.taps x (List.mem_of_mem_take hx)
    rw [List.length_take] at hb4
    refine VD.co (.faO (k := 0) m1) ?_
    refine VD.r [(ww5, .row 3 (.int .i64) (halfT t.1 ((2 : Int) ^ (t.2.1).toNat) i2)), (ww6, .var [.raw ww5, I t.2.1, I t.2.2])] (.ldF (k := 0) m1 vt22) (.inr ⟨rfl, rfl⟩) ?_
    refine VD.c (.move rfl) ?_
    refine VD.co (.faO (k := 0) m1) ?_
    refine VD.r [(ww5, .row 3 (.int .i64) (halfT t.1 ((2 : Int) ^ (t.2.1).toNat) i2)), (ww6, .var [.raw ww5, I t.2.1, I t.2.2])] (.ldF (k := 0) m1 vt22) (.inr ⟨rfl, rfl⟩) ?_
    refine VD.c (.move rfl) ?_
    refine VD.nw [] ?_
    refine VD.co (.ixO (j := i2) rfl rfl m0 el22 (by rw [half_len]; omega)) ?_
    refine VD.r [(ww5, .row 3 (.int .i64) (halfT t.1 ((2 : Int) ^ (t.2.1).toNat) i2)), (ww6, .var [.raw ww5, I t.2.1, I t.2.2])] (.ldO rfl m0 vt3 (by rw [half_len]; omega)) (.inr ⟨rfl, rfl⟩) ?_
    refine VD.c (.move rfl) ?_
    refine VD.c (.quo rfl rfl (by omega) (by rw [hgv]; exact ⟨by omega, by omega⟩)) ?_
    refine VD.c (.move rfl) ?_
    refine VD.c (.mul rfl rfl (by rw [hgv]; exact ⟨by omega, by omega⟩)) ?_
    refine VD.co (.ixO (j := i2) rfl rfl m0 el22 (by rw [half_len]; omega)) ?_
    refine VD.nw [] ?_
    refine VD.mk0 (MakeV.setE (j := i2) vt3 (by rw [half_len]; omega) rfl rfl) ?_
    rintro _ _ tl7 ⟨rfl, rfl⟩
    rw [hgv, half_set (by omega)]
    refine VD.go ?_
    refine VC.text ?_
    refine VO.c (.move rfl) ?_
    refine VO.c (.faO (k := 0) m1) ?_
    refine VO.r (.ldF (k := 0) m1 vt22) ?_
    refine VO.c (.move rfl) ?_
    have hg2 := half_get2 (u := ((2 : Int) ^ (t.2.1).toNat)) (show i2 < t.1.length by omega)
    have hg3 := tdiv_whole (a := t.1[i2]) (show 0 < ((2 : Int) ^ (t.2.1).toNat) by omega)
    refine VO.c (.ixO (j := i2) rfl rfl m0 el22 (by rw [half_len]; omega)) ?_
    refine VO.r (.ldO rfl m0 vt3 (by rw [half_len]; omega)) ?_
    refine VO.c (.move rfl) ?_
    refine VO.c (.quo rfl rfl (by omega) (by rw [hg2, hg3]; exact ⟨by omega, by omega⟩)) ?_
    refine VO.c (.add rfl rfl (by rw [hg2, hg3]; exact ⟨by omega, by omega⟩)) ?_
    refine VO.c (.assign rfl) ?_
    refine VO.nil ?_
    show VC _ _ _ _ _ _ _ _
    refine VC.text ?_
    refine VO.c (.add rfl rfl (by omega)) ?_
    refine VO.c (.move rfl) ?_
    refine VO.nil ?_
    refine ⟨_, [(0, .v y39 l), (22, I ((2 : Int) ^ (t.2.1).toNat)), (23, I (((t.1.take (i2 + 1)).map fun a => a.tdiv ((2 : Int) ^ (t.2.1).toNat)).sum)), (24, .raw ww6), (25, nilV), (233, I (((t.1).length : Nat) : Int)), (234, I (((i2 + 1) : Nat) : Int))], ?_, ⟨rfl, rfl, slI rfl (by rw [sum_next (by omega), half_get2 (by omega), tdiv_whole (by omega)]), rfl, rfl, rfl, rfl, trivial⟩, (i2 + 1), rfl, rfl, (by rfl), (by omega)⟩
    omega
  · refine VC.exit ?_
    show VC _ _ _ _ _ _ _ _
    rw [show halfT t.1 ((2 : Int) ^ (t.2.1).toNat) i2 = (wholeT t).1 from half_end (by omega), show ((t.1.take i2).map fun a => a.tdiv ((2 : Int) ^ (t.2.1).toNat)).sum = sumT t by rw [List.take_of_length_le (by omega)]; rfl]
    refine VC.keep [(0, .v y39 l), (23, I (sumT t)), (24, .raw ww6), (25, nilV)] ⟨rfl, rfl, rfl, rfl, trivial⟩ ?_
    exact law7_ok_c47 (l := l) (t := t) hp hn hsm htr
theorem law7_ok_c17 {l : List ((List Int) × (List Int))} {t : (List Int) × Int × Int}  (hp : 0 < l.length) (ht : l.length ≤ 64) (hn : nightsE l = 0) (hc : ∀ c ∈ l, c.1.length < 100000 ∧ c.2.length < 100000) (hsm : ∀ c ∈ l, SmallN c) (htr : transferE t = 0) (F : LrnF l) : VC Tryz.prog OA none (seqN 6 (codeOf Tryz.f7)) Tryz.f7.ntmps [(0, .v y39 l), (3, .p y24 t), (8, .p y41 (learnR l))] [] (VEnd Tryz.prog Tryz.f7 (B true)) := by
  refine VC.seq ?_
  refine VC.text ?_
  refine VO.c (.assign rfl) ?_
  refine VO.c (.assign rfl) ?_
  refine VO.go ?_
  refine VC.seq ?_
  refine VC.seq ?_
  refine VC.text ?_
  refine VO.c (.move rfl) ?_
  refine VO.r (.len el39) ?_
  refine VO.c (.move rfl) ?_
  refine VO.go ?_
  refine VC.block ?_
  refine VC.keep [(0, .v y39 l), (3, .p y24 t), (8, .p y41 (learnR l)), (12, B (((l.take 0).map devE).flatten.any fun d => decide (d = (learnR l).1))), (13, B (((l.take 0).map devE).flatten.any fun d => decide (d = (learnR l).2))), (122, .v y39 l), (123, I ((l.length : Nat) : Int)), (124, I ((0 : Nat) : Int))] ⟨rfl, rfl, rfl, slE rfl (by rfl), slE rfl (by rfl), rfl, rfl, rfl, trivial⟩ ?_
  refine VC.loop (I := fun kk ff ss => ∃ (j : Nat), kk = l.length - j ∧ ff = [(0, .v y39 l), (3, .p y24 t), (8, .p y41 (learnR l)), (12, B (((l.take j).map devE).flatten.any fun d => decide (d = (learnR l).1))), (13, B (((l.take j).map devE).flatten.any fun d => decide (d = (learnR l).2))), (122, .v y39 l), (123, I ((l.length : Nat) : Int)), (124, I ((j : Nat) : Int))] ∧ ss = [] ∧ (j ≤ l.length)) ?_ _ _ _ ⟨0, rfl, rfl, rfl, Nat.zero_le _⟩
  rintro kk ff ss ⟨j, hk4, rfl, rfl, hj⟩
  refine VC.seq ?_
  refine VC.text ?_
  refine VO.c (.lss) ?_
  refine VO.go ?_
  refine VC.seq ?_
  refine VC.condD rfl (fun c19 => ?_) (fun c19 => ?_)
  · refine VC.skip ?_
    show VC _ _ _ _ _ _ _ _
    refine VC.seq ?_
    refine VC.block ?_
    refine VC.seq ?_
    refine VC.text ?_
    have hN := nightsE_ok hn
    have hO := hN.all _ (List.getElem_mem (show j < l.length by omega))
    have hOl := hO.len
    have hOt := hO.top
    have hEB := encl_B F hn (show j < l.length by omega)
    refine VO.c (.ix (j := j) rfl rfl el39 (by omega)) ?_
    refine VO.r (.ld vt88) ?_
    refine VO.cell (.alloc zt88) ?_
    intro ww3
    refine VO.setV (cs' := [.v y22 ((l[j]).1), .v y22 ((l[j]).2)]) vt88 .v ?_
    refine VO.shut [(15, .p y88 (l[j]))] (.cons rfl (.var m0 .refl) .nil) ?_
    refine VO.go ?_
    refine VC.seq ?_
    refine VC.drawn ?_
    refine VD.c (.fa (.l .o)) ?_
    refine VD.r [] (.ld vt22) (.inl rfl) ?_
    refine VD.call rfl rfl (VF.call (lInts_ok (by omega))) ?_
    refine VD.c (.build ((1 : Int), ((l[j]).1)) bt89) ?_
    refine VD.new (.lit [((1 : Int), ((l[j]).1))] el64) ?_
    refine VD.r [] (.ld vt41) (.inl rfl) ?_
    refine VD.nw [133, 132, 131] ?_
    refine VD.callO rfl rfl (VF.call (sEnclose_ok (by simp; omega))) ?_
    refine VD.c (.move rfl) ?_
    refine VD.c (.extract) ?_
    refine VD.c (.extract) ?_
    refine VD.c (.assign rfl) ?_
    refine VD.c (.assign rfl) ?_
    refine VD.go ?_
    refine VC.seq ?_
    refine VC.seq ?_
    refine VC.text ?_
    refine VO.c (.move rfl) ?_
    refine VO.c (.neq) ?_
    refine VO.c (.move rfl) ?_
    refine VO.splitD (x := 140) rfl (fun g22_2 => ?_) (fun g22_2 => ?_)
    · exact absurd hEB.1 g22_2
    · refine VO.c (.move rfl) ?_
      refine VO.r (.len el81) ?_
      refine VO.c (.fa (.r .o)) ?_
      refine VO.r (.ld vt22) ?_
      refine VO.r (.len el22) ?_
      refine VO.c (.neq) ?_
      refine VO.c (.pickF rfl rfl) ?_
      refine VO.go ?_
      refine VC.condD rfl (fun c22 => ?_) (fun c22 => ?_)
      · exact absurd (by rw [hEB.2, hOl]) c22
      · refine VC.skip ?_
        show VC _ _ _ _ _ _ _ _
        refine VC.seq ?_
        refine VC.text ?_
        refine VO.c (.fa (.r .o)) ?_
        refine VO.r (.ld vt22) ?_
        refine VO.r (.len el22) ?_
        refine VO.c (.move rfl) ?_
        refine VO.go ?_
        refine VC.block ?_
        refine VC.keep [(0, .v y39 l), (3, .p y24 t), (8, .p y41 (learnR l)), (12, B ((((l.take j).map devE).flatten.any fun d => decide (d = (learnR l).1)) || ((devE l[j]).take 0).any fun d => decide (d = (learnR l).1))), (13, B ((((l.take j).map devE).flatten.any fun d => decide (d = (learnR l).2)) || ((devE l[j]).take 0).any fun d => decide (d = (learnR l).2))), (16, .v y81 (enclR [((1 : Int), ((l[j]).1))] (learnR l))), (122, .v y39 l), (123, I ((l.length : Nat) : Int)), (124, I ((j : Nat) : Int)), (149, .v y22 ((l[j]).2)), (150, I ((((l[j]).2).length : Nat) : Int)), (151, I ((0 : Nat) : Int))] ⟨rfl, rfl, rfl, slE rfl (by simp), slE rfl (by simp), rfl, rfl, rfl, rfl, rfl, rfl, rfl, trivial⟩ ?_
        refine VC.loop (I := fun kk ff ss => ∃ (m : Nat), kk = l[j].2.length - m ∧ ff = [(0, .v y39 l), (3, .p y24 t), (8, .p y41 (learnR l)), (12, B ((((l.take j).map devE).flatten.any fun d => decide (d = (learnR l).1)) || ((devE l[j]).take m).any fun d => decide (d = (learnR l).1))), (13, B ((((l.take j).map devE).flatten.any fun d => decide (d = (learnR l).2)) || ((devE l[j]).take m).any fun d => decide (d = (learnR l).2))), (16, .v y81 (enclR [((1 : Int), ((l[j]).1))] (learnR l))), (122, .v y39 l), (123, I ((l.length : Nat) : Int)), (124, I ((j : Nat) : Int)), (149, .v y22 ((l[j]).2)), (150, I ((((l[j]).2).length : Nat) : Int)), (151, I ((m : Nat) : Int))] ∧ ss = [] ∧ (m ≤ l[j].2.length)) ?_ _ _ _ ⟨0, rfl, rfl, rfl, (by omega)⟩
        rintro kk ff ss ⟨m, hk6, rfl, rfl, hm⟩
        refine VC.seq ?_
        refine VC.text ?_
        refine VO.c (.lss) ?_
        refine VO.go ?_
        refine VC.seq ?_
        refine VC.condD rfl (fun c25 => ?_) (fun c25 => ?_)
        · refine VC.skip ?_
          show VC _ _ _ _ _ _ _ _
          refine VC.seq ?_
          refine VC.block ?_
          refine VC.seq ?_
          refine VC.text ?_
          obtain ⟨hel, he⟩ := encl_at F hn (show j < l.length by omega) (show m < l[j].2.length by omega) (show m < l[j].1.length by omega)
          refine VO.c (.move rfl) ?_
          refine VO.c (.ix (j := m) rfl rfl el22 (by omega)) ?_
          refine VO.r (.ld vt3) ?_
          refine VO.c (.assign rfl) ?_
          refine VO.c (.assign rfl) ?_
          refine VO.go ?_
          refine VC.seq ?_
          refine VC.drawn ?_
          refine VD.c (.move rfl) ?_
          refine VD.c (.move rfl) ?_
          refine VD.splitB (x := 157) rfl (fun g27_1 => ?_) (fun g27_1 => ?_)
          · refine VD.skip ?_
            refine VD.skip ?_
            refine VD.skip ?_
            refine VD.nw [] ?_
            refine VD.skip ?_
            refine VD.skip ?_
            refine VD.skip ?_
            refine VD.skip ?_
            refine VD.c (.pickT rfl rfl) ?_
            refine VD.c (.move rfl) ?_
            refine VD.c (.move rfl) ?_
            refine VD.nw [] ?_
            refine VD.splitB (x := 167) rfl (fun g27_11 => ?_) (fun g27_11 => ?_)
            · refine VD.skip ?_
              refine VD.skip ?_
              refine VD.skip ?_
              refine VD.skip ?_
              refine VD.skip ?_
              refine VD.skip ?_
              refine VD.nw [] ?_
              refine VD.skip ?_
              refine VD.c (.pickT rfl rfl) ?_
              refine VD.c (.assign rfl) ?_
              refine VD.c (.assign rfl) ?_
              refine VD.go ?_
              refine VC.seq ?_
              refine VC.text ?_
              refine VO.c (.move rfl) ?_
              refine VO.c (.move rfl) ?_
              refine VO.c (.move rfl) ?_
              refine VO.c (.ix (j := m) rfl rfl el81 (by omega)) ?_
              refine VO.c (.fa (.l .o)) ?_
              refine VO.r (.ld vt3) ?_
              refine VO.c (.lss) ?_
              refine VO.c (.move rfl) ?_
              refine VO.splitD (x := 183) rfl (fun g28_7 => ?_) (fun g28_7 => ?_)
              · exact absurd g28_7 (Int.not_lt.2 he.1)
              · refine VO.c (.move rfl) ?_
                refine VO.c (.move rfl) ?_
                refine VO.c (.move rfl) ?_
                refine VO.c (.ix (j := m) rfl rfl el81 (by omega)) ?_
                refine VO.c (.fa (.r .o)) ?_
                refine VO.r (.ld vt3) ?_
                refine VO.c (.gtr) ?_
                refine VO.c (.pickF rfl rfl) ?_
                refine VO.go ?_
                refine VC.condD rfl (fun c28 => ?_) (fun c28 => ?_)
                · exact absurd c28 (Int.not_lt.2 he.2.1)
                · refine VC.skip ?_
                  show VC _ _ _ _ _ _ _ _
                  refine VC.keep [(0, .v y39 l), (3, .p y24 t), (8, .p y41 (learnR l)), (12, B true), (13, B true), (16, .v y81 (enclR [((1 : Int), ((l[j]).1))] (learnR l))), (122, .v y39 l), (123, I ((l.length : Nat) : Int)), (124, I ((j : Nat) : Int)), (149, .v y22 ((l[j]).2)), (150, I ((((l[j]).2).length : Nat) : Int)), (151, I ((m : Nat) : Int))] ⟨rfl, rfl, rfl, rfl, rfl, rfl, rfl, rfl, rfl, rfl, rfl, rfl, trivial⟩ ?_
                  refine VC.text ?_
                  refine VO.c (.add rfl rfl (by omega)) ?_
                  refine VO.c (.move rfl) ?_
                  refine VO.nil ?_
                  refine ⟨_, [(0, .v y39 l), (3, .p y24 t), (8, .p y41 (learnR l)), (12, B ((((l.take j).map devE).flatten.any fun d => decide (d = (learnR l).1)) || ((devE l[j]).take (m + 1)).any fun d => decide (d = (learnR l).1))), (13, B ((((l.take j).map devE).flatten.any fun d => decide (d = (learnR l).2)) || ((devE l[j]).take (m + 1)).any fun d => decide (d = (learnR l).2))), (16, .v y81 (enclR [((1 : Int), ((l[j]).1))] (learnR l))), (122, .v y39 l), (123, I ((l.length : Nat) : Int)), (124, I ((j : Nat) : Int)), (149, .v y22 ((l[j]).2)), (150, I ((((l[j]).2).length : Nat) : Int)), (151, I (((m + 1) : Nat) : Int))], ?_, ⟨rfl, rfl, rfl, slE rfl (by rw [any_succ (by rw [devE_len]; omega), devE_get (by omega) (by omega), ← Bool.or_assoc, g27_1]; first | rfl | (rw [Bool.false_or]; exact he.2.2.1)), slE rfl (by rw [any_succ (by rw [devE_len]; omega), devE_get (by omega) (by omega), ← Bool.or_assoc, g27_11]; first | rfl | (rw [Bool.false_or]; exact he.2.2.2)), rfl, rfl, rfl, rfl, rfl, rfl, rfl, trivial⟩, (m + 1), rfl, rfl, rfl, (by omega)⟩
                  omega
            · refine VD.c (.move rfl) ?_
              refine VD.c (.move rfl) ?_
              refine VD.c (.move rfl) ?_
              refine VD.c (.ix (j := m) rfl rfl el81 (by omega)) ?_
              refine VD.c (.fa (.r .o)) ?_
              refine VD.r [] (.ld vt3) (.inl rfl) ?_
              refine VD.nw [] ?_
              refine VD.c (.eql) ?_
              refine VD.c (.pickF rfl rfl) ?_
              refine VD.c (.assign rfl) ?_
              refine VD.c (.assign rfl) ?_
              refine VD.go ?_
              refine VC.seq ?_
              refine VC.text ?_
              refine VO.c (.move rfl) ?_
              refine VO.c (.move rfl) ?_
              refine VO.c (.move rfl) ?_
              refine VO.c (.ix (j := m) rfl rfl el81 (by omega)) ?_
              refine VO.c (.fa (.l .o)) ?_
              refine VO.r (.ld vt3) ?_
              refine VO.c (.lss) ?_
              refine VO.c (.move rfl) ?_
              refine VO.splitD (x := 183) rfl (fun g28_7 => ?_) (fun g28_7 => ?_)
              · exact absurd g28_7 (Int.not_lt.2 he.1)
              · refine VO.c (.move rfl) ?_
                refine VO.c (.move rfl) ?_
                refine VO.c (.move rfl) ?_
                refine VO.c (.ix (j := m) rfl rfl el81 (by omega)) ?_
                refine VO.c (.fa (.r .o)) ?_
                refine VO.r (.ld vt3) ?_
                refine VO.c (.gtr) ?_
                refine VO.c (.pickF rfl rfl) ?_
                refine VO.go ?_
                refine VC.condD rfl (fun c28 => ?_) (fun c28 => ?_)
                · exact absurd c28 (Int.not_lt.2 he.2.1)
                · refine VC.skip ?_
                  show VC _ _ _ _ _ _ _ _
                  refine VC.keep [(0, .v y39 l), (3, .p y24 t), (8, .p y41 (learnR l)), (12, B true), (13, D (((l[j]).2)[m] = ((enclR [((1 : Int), ((l[j]).1))] (learnR l))[m]).2)), (16, .v y81 (enclR [((1 : Int), ((l[j]).1))] (learnR l))), (122, .v y39 l), (123, I ((l.length : Nat) : Int)), (124, I ((j : Nat) : Int)), (149, .v y22 ((l[j]).2)), (150, I ((((l[j]).2).length : Nat) : Int)), (151, I ((m : Nat) : Int))] ⟨rfl, rfl, rfl, rfl, rfl, rfl, rfl, rfl, rfl, rfl, rfl, rfl, trivial⟩ ?_
                  refine VC.text ?_
                  refine VO.c (.add rfl rfl (by omega)) ?_
                  refine VO.c (.move rfl) ?_
                  refine VO.nil ?_
                  refine ⟨_, [(0, .v y39 l), (3, .p y24 t), (8, .p y41 (learnR l)), (12, B ((((l.take j).map devE).flatten.any fun d => decide (d = (learnR l).1)) || ((devE l[j]).take (m + 1)).any fun d => decide (d = (learnR l).1))), (13, B ((((l.take j).map devE).flatten.any fun d => decide (d = (learnR l).2)) || ((devE l[j]).take (m + 1)).any fun d => decide (d = (learnR l).2))), (16, .v y81 (enclR [((1 : Int), ((l[j]).1))] (learnR l))), (122, .v y39 l), (123, I ((l.length : Nat) : Int)), (124, I ((j : Nat) : Int)), (149, .v y22 ((l[j]).2)), (150, I ((((l[j]).2).length : Nat) : Int)), (151, I (((m + 1) : Nat) : Int))], ?_, ⟨rfl, rfl, rfl, slE rfl (by rw [any_succ (by rw [devE_len]; omega), devE_get (by omega) (by omega), ← Bool.or_assoc, g27_1]; first | rfl | (rw [Bool.false_or]; exact he.2.2.1)), slE rfl (by rw [any_succ (by rw [devE_len]; omega), devE_get (by omega) (by omega), ← Bool.or_assoc, g27_11]; first | rfl | (rw [Bool.false_or]; exact he.2.2.2)), rfl, rfl, rfl, rfl, rfl, rfl, rfl, trivial⟩, (m + 1), rfl, rfl, rfl, (by omega)⟩
                  omega
          · refine VD.c (.move rfl) ?_
            refine VD.c (.move rfl) ?_
            refine VD.c (.move rfl) ?_
            refine VD.nw [] ?_
            refine VD.c (.ix (j := m) rfl rfl el81 (by omega)) ?_
            refine VD.c (.fa (.l .o)) ?_
            refine VD.r [] (.ld vt3) (.inl rfl) ?_
            refine VD.c (.eql) ?_
            refine VD.c (.pickF rfl rfl) ?_
            refine VD.c (.move rfl) ?_
            refine VD.c (.move rfl) ?_
            refine VD.nw [] ?_
            refine VD.splitB (x := 167) rfl (fun g27_11 => ?_) (fun g27_11 => ?_)
            · refine VD.skip ?_
              refine VD.skip ?_
              refine VD.skip ?_
              refine VD.skip ?_
              refine VD.skip ?_
              refine VD.skip ?_
              refine VD.nw [] ?_
              refine VD.skip ?_
              refine VD.c (.pickT rfl rfl) ?_
              refine VD.c (.assign rfl) ?_
              refine VD.c (.assign rfl) ?_
              refine VD.go ?_
              refine VC.seq ?_
              refine VC.text ?_
              refine VO.c (.move rfl) ?_
              refine VO.c (.move rfl) ?_
              refine VO.c (.move rfl) ?_
              refine VO.c (.ix (j := m) rfl rfl el81 (by omega)) ?_
              refine VO.c (.fa (.l .o)) ?_
              refine VO.r (.ld vt3) ?_
              refine VO.c (.lss) ?_
              refine VO.c (.move rfl) ?_
              refine VO.splitD (x := 183) rfl (fun g28_7 => ?_) (fun g28_7 => ?_)
              · exact absurd g28_7 (Int.not_lt.2 he.1)
              · refine VO.c (.move rfl) ?_
                refine VO.c (.move rfl) ?_
                refine VO.c (.move rfl) ?_
                refine VO.c (.ix (j := m) rfl rfl el81 (by omega)) ?_
                refine VO.c (.fa (.r .o)) ?_
                refine VO.r (.ld vt3) ?_
                refine VO.c (.gtr) ?_
                refine VO.c (.pickF rfl rfl) ?_
                refine VO.go ?_
                refine VC.condD rfl (fun c28 => ?_) (fun c28 => ?_)
                · exact absurd c28 (Int.not_lt.2 he.2.1)
                · refine VC.skip ?_
                  show VC _ _ _ _ _ _ _ _
                  refine VC.keep [(0, .v y39 l), (3, .p y24 t), (8, .p y41 (learnR l)), (12, D (((l[j]).2)[m] = ((enclR [((1 : Int), ((l[j]).1))] (learnR l))[m]).1)), (13, B true), (16, .v y81 (enclR [((1 : Int), ((l[j]).1))] (learnR l))), (122, .v y39 l), (123, I ((l.length : Nat) : Int)), (124, I ((j : Nat) : Int)), (149, .v y22 ((l[j]).2)), (150, I ((((l[j]).2).length : Nat) : Int)), (151, I ((m : Nat) : Int))] ⟨rfl, rfl, rfl, rfl, rfl, rfl, rfl, rfl, rfl, rfl, rfl, rfl, trivial⟩ ?_
                  refine VC.text ?_
                  refine VO.c (.add rfl rfl (by omega)) ?_
                  refine VO.c (.move rfl) ?_
                  refine VO.nil ?_
                  refine ⟨_, [(0, .v y39 l), (3, .p y24 t), (8, .p y41 (learnR l)), (12, B ((((l.take j).map devE).flatten.any fun d => decide (d = (learnR l).1)) || ((devE l[j]).take (m + 1)).any fun d => decide (d = (learnR l).1))), (13, B ((((l.take j).map devE).flatten.any fun d => decide (d = (learnR l).2)) || ((devE l[j]).take (m + 1)).any fun d => decide (d = (learnR l).2))), (16, .v y81 (enclR [((1 : Int), ((l[j]).1))] (learnR l))), (122, .v y39 l), (123, I ((l.length : Nat) : Int)), (124, I ((j : Nat) : Int)), (149, .v y22 ((l[j]).2)), (150, I ((((l[j]).2).length : Nat) : Int)), (151, I (((m + 1) : Nat) : Int))], ?_, ⟨rfl, rfl, rfl, slE rfl (by rw [any_succ (by rw [devE_len]; omega), devE_get (by omega) (by omega), ← Bool.or_assoc, g27_1]; first | rfl | (rw [Bool.false_or]; exact he.2.2.1)), slE rfl (by rw [any_succ (by rw [devE_len]; omega), devE_get (by omega) (by omega), ← Bool.or_assoc, g27_11]; first | rfl | (rw [Bool.false_or]; exact he.2.2.2)), rfl, rfl, rfl, rfl, rfl, rfl, rfl, trivial⟩, (m + 1), rfl, rfl, rfl, (by omega)⟩
                  omega
            · refine VD.c (.move rfl) ?_
              refine VD.c (.move rfl) ?_
              refine VD.c (.move rfl) ?_
              refine VD.c (.ix (j := m) rfl rfl el81 (by omega)) ?_
              refine VD.c (.fa (.r .o)) ?_
              refine VD.r [] (.ld vt3) (.inl rfl) ?_
              refine VD.nw [] ?_
              refine VD.c (.eql) ?_
              refine VD.c (.pickF rfl rfl) ?_
              refine VD.c (.assign rfl) ?_
              refine VD.c (.assign rfl) ?_
              refine VD.go ?_
              refine VC.seq ?_
              refine VC.text ?_
              refine VO.c (.move rfl) ?_
              refine VO.c (.move rfl) ?_
              refine VO.c (.move rfl) ?_
              refine VO.c (.ix (j := m) rfl rfl el81 (by omega)) ?_
              refine VO.c (.fa (.l .o)) ?_
              refine VO.r (.ld vt3) ?_
              refine VO.c (.lss) ?_
              refine VO.c (.move rfl) ?_
              refine VO.splitD (x := 183) rfl (fun g28_7 => ?_) (fun g28_7 => ?_)
              · exact absurd g28_7 (Int.not_lt.2 he.1)
              · refine VO.c (.move rfl) ?_
                refine VO.c (.move rfl) ?_
                refine VO.c (.move rfl) ?_
                refine VO.c (.ix (j := m) rfl rfl el81 (by omega)) ?_
                refine VO.c (.fa (.r .o)) ?_
                refine VO.r (.ld vt3) ?_
                refine VO.c (.gtr) ?_
                refine VO.c (.pickF rfl rfl) ?_
                refine VO.go ?_
                refine VC.condD rfl (fun c28 => ?_) (fun c28 => ?_)
                · exact absurd c28 (Int.not_lt.2 he.2.1)
                · refine VC.skip ?_
                  show VC _ _ _ _ _ _ _ _
                  refine VC.keep [(0, .v y39 l), (3, .p y24 t), (8, .p y41 (learnR l)), (12, D (((l[j]).2)[m] = ((enclR [((1 : Int), ((l[j]).1))] (learnR l))[m]).1)), (13, D (((l[j]).2)[m] = ((enclR [((1 : Int), ((l[j]).1))] (learnR l))[m]).2)), (16, .v y81 (enclR [((1 : Int), ((l[j]).1))] (learnR l))), (122, .v y39 l), (123, I ((l.length : Nat) : Int)), (124, I ((j : Nat) : Int)), (149, .v y22 ((l[j]).2)), (150, I ((((l[j]).2).length : Nat) : Int)), (151, I ((m : Nat) : Int))] ⟨rfl, rfl, rfl, rfl, rfl, rfl, rfl, rfl, rfl, rfl, rfl, rfl, trivial⟩ ?_
                  refine VC.text ?_
                  refine VO.c (.add rfl rfl (by omega)) ?_
                  refine VO.c (.move rfl) ?_
                  refine VO.nil ?_
                  refine ⟨_, [(0, .v y39 l), (3, .p y24 t), (8, .p y41 (learnR l)), (12, B ((((l.take j).map devE).flatten.any fun d => decide (d = (learnR l).1)) || ((devE l[j]).take (m + 1)).any fun d => decide (d = (learnR l).1))), (13, B ((((l.take j).map devE).flatten.any fun d => decide (d = (learnR l).2)) || ((devE l[j]).take (m + 1)).any fun d => decide (d = (learnR l).2))), (16, .v y81 (enclR [((1 : Int), ((l[j]).1))] (learnR l))), (122, .v y39 l), (123, I ((l.length : Nat) : Int)), (124, I ((j : Nat) : Int)), (149, .v y22 ((l[j]).2)), (150, I ((((l[j]).2).length : Nat) : Int)), (151, I (((m + 1) : Nat) : Int))], ?_, ⟨rfl, rfl, rfl, slE rfl (by rw [any_succ (by rw [devE_len]; omega), devE_get (by omega) (by omega), ← Bool.or_assoc, g27_1]; first | rfl | (rw [Bool.false_or]; exact he.2.2.1)), slE rfl (by rw [any_succ (by rw [devE_len]; omega), devE_get (by omega) (by omega), ← Bool.or_assoc, g27_11]; first | rfl | (rw [Bool.false_or]; exact he.2.2.2)), rfl, rfl, rfl, rfl, rfl, rfl, rfl, trivial⟩, (m + 1), rfl, rfl, rfl, (by omega)⟩
                  omega
        · refine VC.exit ?_
          show VC _ _ _ _ _ _ _ _
          refine VC.text ?_
          refine VO.c (.add rfl rfl (by omega)) ?_
          refine VO.c (.move rfl) ?_
          refine VO.nil ?_
          have hej : (devE l[j]).take m = devE l[j] := List.take_of_length_le (by rw [devE_len]; omega)
          refine ⟨_, [(0, .v y39 l), (3, .p y24 t), (8, .p y41 (learnR l)), (12, B (((l.take (j + 1)).map devE).flatten.any fun d => decide (d = (learnR l).1))), (13, B (((l.take (j + 1)).map devE).flatten.any fun d => decide (d = (learnR l).2))), (122, .v y39 l), (123, I ((l.length : Nat) : Int)), (124, I (((j + 1) : Nat) : Int))], ?_, ⟨rfl, rfl, rfl, slE rfl (by rw [any_next (by omega), hej]), slE rfl (by rw [any_next (by omega), hej]), rfl, rfl, rfl, trivial⟩, (j + 1), rfl, rfl, rfl, (by omega)⟩
          omega
  · refine VC.exit ?_
    show VC _ _ _ _ _ _ _ _
    refine VC.seq ?_
    refine VC.seq ?_
    refine VC.text ?_
    have hlow := all_any (l := l) (j := j) (by omega) F.low
    have hhigh := all_any (l := l) (j := j) (by omega) F.high
    refine VO.c (.move rfl) ?_
    refine VO.c (.not) ?_
    refine VO.c (.move rfl) ?_
    refine VO.splitB (x := 196) rfl (fun g32_2 => ?_) (fun g32_2 => ?_)
    · exact absurd g32_2 (by rw [hlow]; decide)
    · refine VO.c (.move rfl) ?_
      refine VO.c (.not) ?_
      refine VO.c (.pickF rfl rfl) ?_
      refine VO.go ?_
      refine VC.condB rfl (fun c32 => ?_) (fun c32 => ?_)
      · try simp only [Bool.and_eq_true, Bool.or_eq_true, Bool.and_eq_false_iff, Bool.or_eq_false_iff, Bool.not_eq_true', Bool.not_eq_false', decide_eq_true_eq, decide_eq_false_iff_not] at c32
        exact absurd c32 (by rw [hhigh]; decide)
      · try simp only [Bool.and_eq_true, Bool.or_eq_true, Bool.and_eq_false_iff, Bool.or_eq_false_iff, Bool.not_eq_true', Bool.not_eq_false', decide_eq_true_eq, decide_eq_false_iff_not] at c32
        refine VC.skip ?_
        show VC _ _ _ _ _ _ _ _
        refine VC.seq ?_
        refine VC.seq ?_
        refine VC.text ?_
        refine VO.c (.move rfl) ?_
        refine VO.r (.len el39) ?_
        refine VO.c (.gtr) ?_
        refine VO.go ?_
        refine VC.condD rfl (fun c34 => ?_) (fun c34 => ?_)
        · refine VC.seq ?_
          refine VC.text ?_
          refine VO.c (.move rfl) ?_
          refine VO.r (.cutL rfl rfl el39 (by omega)) ?_
          refine VO.call rfl rfl (VF.call (lNights_ok (by rw [List.length_drop]; omega) (fun c hm => hc c (List.mem_of_mem_drop hm)))) ?_
          refine VO.call rfl rfl (VF.call (sLearn_ok (fun c hm => hc c (List.mem_of_mem_drop hm)))) ?_
          refine VO.c (.move rfl) ?_
          refine VO.c (.extract) ?_
          refine VO.c (.extract) ?_
          refine VO.cell (.alloc zt41) ?_
          intro ww4
          refine VO.setV (cs' := [I ((learnR (l.drop ((1 : Int)).toNat)).1), I ((learnR (l.drop ((1 : Int)).toNat)).2)]) vt41 .v ?_
          refine VO.shut [(20, .p y41 (learnR (l.drop ((1 : Int)).toNat)))] (.cons rfl (.var m0 .refl) .nil) ?_
          refine VO.c (.assign rfl) ?_
          refine VO.go ?_
          refine VC.seq ?_
          refine VC.text ?_
          have hL := lrn_lessR hn (show 1 < l.length by omega)
          refine VO.c (.move rfl) ?_
          refine VO.c (.neq) ?_
          refine VO.c (.move rfl) ?_
          refine VO.splitD (x := 212) rfl (fun g36_2 => ?_) (fun g36_2 => ?_)
          · exact absurd hL.1 g36_2
          · refine VO.c (.fa (.l .o)) ?_
            refine VO.r (.ld vt3) ?_
            refine VO.c (.fa (.l .o)) ?_
            refine VO.r (.ld vt3) ?_
            refine VO.c (.lss) ?_
            refine VO.c (.pickF rfl rfl) ?_
            refine VO.c (.move rfl) ?_
            refine VO.splitD (x := 219) rfl (fun g36_9 => ?_) (fun g36_9 => ?_)
            · exact absurd g36_9 (Int.not_lt.2 hL.2.1)
            · refine VO.c (.fa (.r .o)) ?_
              refine VO.r (.ld vt3) ?_
              refine VO.c (.fa (.r .o)) ?_
              refine VO.r (.ld vt3) ?_
              refine VO.c (.gtr) ?_
              refine VO.c (.pickF rfl rfl) ?_
              refine VO.go ?_
              refine VC.condD rfl (fun c36 => ?_) (fun c36 => ?_)
              · exact absurd c36 (Int.not_lt.2 hL.2.2)
              · refine VC.skip ?_
                show VC _ _ _ _ _ _ _ _
                refine VC.keep [(0, .v y39 l), (3, .p y24 t)] ⟨rfl, rfl, trivial⟩ ?_
                exact law7_ok_c38 (l := l) (t := t) hp ht hn hc hsm htr
        · refine VC.skip ?_
          show VC _ _ _ _ _ _ _ _
          refine VC.keep [(0, .v y39 l), (3, .p y24 t)] ⟨rfl, rfl, trivial⟩ ?_
          exact law7_ok_c38 (l := l) (t := t) hp ht hn hc hsm htr
theorem law7_ok_c13 {l : List ((List Int) × (List Int))} {t : (List Int) × Int × Int}  (hp : 0 < l.length) (ht : l.length ≤ 64) (hn : nightsE l = 0) (hc : ∀ c ∈ l, c.1.length < 100000 ∧ c.2.length < 100000) (hsm : ∀ c ∈ l, SmallN c) (htr : transferE t = 0) : VC Tryz.prog OA none (seqN 3 (codeOf Tryz.f7)) Tryz.f7.ntmps [(0, .v y39 l), (3, .p y24 t)] [] (VEnd Tryz.prog Tryz.f7 (B true)) := by
  refine VC.seq ?_
  refine VC.text ?_
  refine VO.c (.move rfl) ?_
  refine VO.call rfl rfl (VF.call (lNights_ok (by omega) hc)) ?_
  refine VO.call rfl rfl (VF.call (sLearn_ok hc)) ?_
  refine VO.c (.move rfl) ?_
  refine VO.c (.extract) ?_
  refine VO.c (.extract) ?_
  refine VO.cell (.alloc zt41) ?_
  intro ww2
  refine VO.setV (cs' := [I ((learnR l).1), I ((learnR l).2)]) vt41 .v ?_
  refine VO.shut [(8, .p y41 (learnR l))] (.cons rfl (.var m0 .refl) .nil) ?_
  refine VO.c (.assign rfl) ?_
  refine VO.go ?_
  refine VC.seq ?_
  refine VC.drawn ?_
  have F := lrnF hn hsm
  refine VD.c (.move rfl) ?_
  refine VD.call rfl rfl (VF.call (lNights_ok (by omega) hc)) ?_
  refine VD.r [] (.ld vt41) (.inl rfl) ?_
  refine VD.callO rfl rfl (VF.call (sVerify_ok hc)) ?_
  refine VD.c (.move rfl) ?_
  refine VD.c (.extract) ?_
  refine VD.nw [104, 99, 103, 101] ?_
  refine VD.c (.extract) ?_
  refine VD.c (.assign rfl) ?_
  refine VD.c (.assign rfl) ?_
  refine VD.go ?_
  refine VC.seq ?_
  refine VC.seq ?_
  refine VC.text ?_
  refine VO.c (.move rfl) ?_
  refine VO.c (.neq) ?_
  refine VO.c (.move rfl) ?_
  refine VO.splitD (x := 108) rfl (fun g15_2 => ?_) (fun g15_2 => ?_)
  · exact absurd hn g15_2
  · refine VO.c (.move rfl) ?_
    refine VO.c (.neq) ?_
    refine VO.c (.pickF rfl rfl) ?_
    refine VO.c (.move rfl) ?_
    refine VO.splitD (x := 112) rfl (fun g15_6 => ?_) (fun g15_6 => ?_)
    · exact absurd F.v0 g15_6
    · refine VO.c (.move rfl) ?_
      refine VO.r (.len el22) ?_
      refine VO.c (.neq) ?_
      refine VO.c (.pickF rfl rfl) ?_
      refine VO.c (.move rfl) ?_
      refine VO.splitD (x := 117) rfl (fun g15_11 => ?_) (fun g15_11 => ?_)
      · exact absurd (by rw [F.v1]; rfl) g15_11
      · refine VO.r (.ld vt41) ?_
        refine VO.call rfl rfl (VF.call (rInterval_ok )) ?_
        refine VO.c (.neq) ?_
        refine VO.c (.pickF rfl rfl) ?_
        refine VO.go ?_
        refine VC.condD rfl (fun c15 => ?_) (fun c15 => ?_)
        · exact absurd F.b c15
        · refine VC.skip ?_
          show VC _ _ _ _ _ _ _ _
          refine VC.keep [(0, .v y39 l), (3, .p y24 t), (8, .p y41 (learnR l))] ⟨rfl, rfl, rfl, trivial⟩ ?_
          exact law7_ok_c17 (l := l) (t := t) hp ht hn hc hsm htr F
theorem law7_ok {l : List ((List Int) × (List Int))} {t : (List Int) × Int × Int} : VF Tryz.prog OA 7 [.v y39 l, .v y24 t] (B true) := by
  refine VF.enter Tryz.func7 rfl (fun _ _ => rfl) rfl ?_
  show VC _ _ _ _ _ [(0, .v y39 l), (1, .v y24 t)] [] _
  refine VC.seq ?_
  refine VC.text ?_
  refine VO.new (.box) ?_
  refine VO.c (.assign rfl) ?_
  refine VO.go ?_
  refine VC.seq ?_
  refine VC.seq ?_
  refine VC.text ?_
  refine VO.c (.move rfl) ?_
  refine VO.call rfl rfl (VF.call (rShortN_ok )) ?_
  refine VO.c (.not) ?_
  refine VO.c (.move rfl) ?_
  refine VO.splitB (x := 37) rfl (fun g1_3 => ?_) (fun g1_3 => ?_)
  · refine VO.skip ?_
    refine VO.skip ?_
    refine VO.skip ?_
    refine VO.c (.pickT rfl rfl) ?_
    refine VO.c (.move rfl) ?_
    refine VO.skip ?_
    refine VO.skip ?_
    refine VO.skip ?_
    refine VO.skip ?_
    refine VO.c (.pickT rfl rfl) ?_
    refine VO.c (.move rfl) ?_
    refine VO.skip ?_
    refine VO.skip ?_
    refine VO.skip ?_
    refine VO.c (.pickT rfl rfl) ?_
    refine VO.go ?_
    refine VC.condT rfl ?_
    refine VC.seq ?_
    refine VC.text ?_
    refine VO.call rfl rfl (VF.call (awake_ok )) ?_
    refine VO.c (.assign rfl) ?_
    refine VO.go ?_
    refine VC.ret ?_
    exact VEnd.one rfl evT (pvE (by first | rfl | simp))
  · have hs : shortNE l = true := by simpa using g1_3
    have hs1 := of_decide_eq_true hs
    have hs2 := hs1.1
    have hc : ∀ c ∈ l, c.1.length < 100000 ∧ c.2.length < 100000 := fun c hc => by have := hs1.2 c hc; omega
    refine VO.c (.move rfl) ?_
    refine VO.call rfl rfl (VF.call (rNights_ok hc)) ?_
    refine VO.c (.neq) ?_
    refine VO.c (.pickF rfl rfl) ?_
    refine VO.c (.move rfl) ?_
    refine VO.splitD (x := 42) rfl (fun g1_8 => ?_) (fun g1_8 => ?_)
    · refine VO.skip ?_
      refine VO.skip ?_
      refine VO.skip ?_
      refine VO.skip ?_
      refine VO.c (.pickT rfl rfl) ?_
      refine VO.c (.move rfl) ?_
      refine VO.skip ?_
      refine VO.skip ?_
      refine VO.skip ?_
      refine VO.c (.pickT rfl rfl) ?_
      refine VO.go ?_
      refine VC.condT rfl ?_
      refine VC.seq ?_
      refine VC.text ?_
      refine VO.call rfl rfl (VF.call (awake_ok )) ?_
      refine VO.c (.assign rfl) ?_
      refine VO.go ?_
      refine VC.ret ?_
      exact VEnd.one rfl evT (pvE (by first | rfl | simp))
    · have hn : nightsE l = 0 := Decidable.not_not.1 g1_8
      refine VO.c (.fa (.l .o)) ?_
      refine VO.r (.ld vt22) ?_
      refine VO.r (.len el22) ?_
      refine VO.c (.gtr) ?_
      refine VO.c (.pickF rfl rfl) ?_
      refine VO.c (.move rfl) ?_
      refine VO.splitD (x := 48) rfl (fun g1_14 => ?_) (fun g1_14 => ?_)
      · refine VO.skip ?_
        refine VO.skip ?_
        refine VO.skip ?_
        refine VO.c (.pickT rfl rfl) ?_
        refine VO.go ?_
        refine VC.condT rfl ?_
        refine VC.seq ?_
        refine VC.text ?_
        refine VO.call rfl rfl (VF.call (awake_ok )) ?_
        refine VO.c (.assign rfl) ?_
        refine VO.go ?_
        refine VC.ret ?_
        exact VEnd.one rfl evT (pvE (by first | rfl | simp))
      · refine VO.r (.ld vt24) ?_
        refine VO.call rfl rfl (VF.call (rCheckTransfer_ok (by omega))) ?_
        refine VO.c (.neq) ?_
        refine VO.c (.pickF rfl rfl) ?_
        refine VO.go ?_
        refine VC.condD rfl (fun c1 => ?_) (fun c1 => ?_)
        · refine VC.seq ?_
          refine VC.text ?_
          refine VO.call rfl rfl (VF.call (awake_ok )) ?_
          refine VO.c (.assign rfl) ?_
          refine VO.go ?_
          refine VC.ret ?_
          exact VEnd.one rfl evT (pvE (by first | rfl | simp))
        · have htr : transferE t = 0 := Decidable.not_not.1 c1
          have hN := nightsE_ok hn
          have hp := hN.pos
          have ht := hN.top
          refine VC.skip ?_
          show VC _ _ _ _ _ _ _ _
          refine VC.seq ?_
          refine VC.seq ?_
          refine VC.text ?_
          refine VO.c (.move rfl) ?_
          refine VO.r (.len el39) ?_
          refine VO.c (.move rfl) ?_
          refine VO.go ?_
          refine VC.block ?_
          refine VC.keep [(0, .v y39 l), (3, .p y24 t), (54, .v y39 l), (55, I ((l.length : Nat) : Int)), (56, I ((0 : Nat) : Int))] ⟨rfl, rfl, rfl, rfl, rfl, trivial⟩ ?_
          refine VC.loop (I := fun kk ff ss => ∃ (i : Nat), kk = l.length - i ∧ ff = [(0, .v y39 l), (3, .p y24 t), (54, .v y39 l), (55, I ((l.length : Nat) : Int)), (56, I ((i : Nat) : Int))] ∧ ss = [] ∧ (i ≤ l.length) ∧ (∀ c ∈ l.take i, SmallN c)) ?_ _ _ _ ⟨0, rfl, rfl, rfl, Nat.zero_le _, (by simp)⟩
          rintro kk ff ss ⟨i, hk0, rfl, rfl, hi, hsm⟩
          refine VC.seq ?_
          refine VC.text ?_
          refine VO.c (.lss) ?_
          refine VO.go ?_
          refine VC.seq ?_
          refine VC.condD rfl (fun c4 => ?_) (fun c4 => ?_)
          · refine VC.skip ?_
            show VC _ _ _ _ _ _ _ _
            refine VC.seq ?_
            refine VC.block ?_
            refine VC.seq ?_
            refine VC.text ?_
            have hO := hN.all _ (List.getElem_mem (show i < l.length by omega))
            have hOl := hO.len
            have hOt := hO.top
            refine VO.c (.ix (j := i) rfl rfl el39 (by omega)) ?_
            refine VO.r (.ld vt88) ?_
            refine VO.cell (.alloc zt88) ?_
            intro ww1
            refine VO.setV (cs' := [.v y22 ((l[i]).1), .v y22 ((l[i]).2)]) vt88 .v ?_
            refine VO.shut [(6, .p y88 (l[i]))] (.cons rfl (.var m0 .refl) .nil) ?_
            refine VO.go ?_
            refine VC.seq ?_
            refine VC.text ?_
            refine VO.c (.fa (.l .o)) ?_
            refine VO.r (.ld vt22) ?_
            refine VO.r (.len el22) ?_
            refine VO.c (.move rfl) ?_
            refine VO.go ?_
            refine VC.block ?_
            refine VC.keep [(0, .v y39 l), (3, .p y24 t), (6, .p y88 (l[i])), (54, .v y39 l), (55, I ((l.length : Nat) : Int)), (56, I ((i : Nat) : Int)), (62, I ((((l[i]).1).length : Nat) : Int)), (63, I ((0 : Nat) : Int))] ⟨rfl, rfl, rfl, rfl, rfl, rfl, rfl, rfl, trivial⟩ ?_
            refine VC.loop (I := fun kk ff ss => ∃ (m : Nat), kk = l[i].1.length - m ∧ ff = [(0, .v y39 l), (3, .p y24 t), (6, .p y88 (l[i])), (54, .v y39 l), (55, I ((l.length : Nat) : Int)), (56, I ((i : Nat) : Int)), (62, I ((((l[i]).1).length : Nat) : Int)), (63, I ((m : Nat) : Int))] ∧ ss = [] ∧ (m ≤ l[i].1.length) ∧ (∀ x ∈ l[i].1.take m, -100000 ≤ x ∧ x ≤ 100000) ∧ (∀ x ∈ l[i].2.take m, -100000 ≤ x ∧ x ≤ 100000)) ?_ _ _ _ ⟨0, rfl, rfl, rfl, (by omega), (by simp), (by simp)⟩
            rintro kk ff ss ⟨m, hk2, rfl, rfl, hm, hq1, hq2⟩
            refine VC.seq ?_
            refine VC.text ?_
            refine VO.c (.lss) ?_
            refine VO.go ?_
            refine VC.seq ?_
            refine VC.condD rfl (fun c7 => ?_) (fun c7 => ?_)
            · refine VC.skip ?_
              show VC _ _ _ _ _ _ _ _
              refine VC.seq ?_
              refine VC.block ?_
              refine VC.seq ?_
              refine VC.text ?_
              refine VO.c (.move rfl) ?_
              refine VO.c (.assign rfl) ?_
              refine VO.go ?_
              refine VC.seq ?_
              refine VC.drawn ?_
              have b1 := hO.all1 _ (List.getElem_mem (show m < l[i].1.length by omega))
              have b2 := hO.all2 _ (List.getElem_mem (show m < l[i].2.length by omega))
              refine VD.c (.fa (.l .o)) ?_
              refine VD.r [] (.ld vt22) (.inl rfl) ?_
              refine VD.c (.move rfl) ?_
              refine VD.c (.ix (j := m) rfl rfl el22 (by omega)) ?_
              refine VD.r [] (.ld vt3) (.inl rfl) ?_
              refine VD.c (.fa (.l .o)) ?_
              refine VD.nw [] ?_
              refine VD.r [] (.ld vt22) (.inl rfl) ?_
              refine VD.c (.move rfl) ?_
              refine VD.c (.ix (j := m) rfl rfl el22 (by omega)) ?_
              refine VD.r [] (.ld vt3) (.inl rfl) ?_
              refine VD.c (.neg rfl (by omega)) ?_
              refine VD.c (.fa (.r .o)) ?_
              refine VD.r [] (.ld vt22) (.inl rfl) ?_
              refine VD.nw [] ?_
              refine VD.c (.move rfl) ?_
              refine VD.c (.ix (j := m) rfl rfl el22 (by omega)) ?_
              refine VD.r [] (.ld vt3) (.inl rfl) ?_
              refine VD.c (.fa (.r .o)) ?_
              refine VD.r [] (.ld vt22) (.inl rfl) ?_
              refine VD.c (.move rfl) ?_
              refine VD.c (.ix (j := m) rfl rfl el22 (by omega)) ?_
              refine VD.nw [] ?_
              refine VD.r [] (.ld vt3) (.inl rfl) ?_
              refine VD.c (.neg rfl (by omega)) ?_
              refine VD.r [] (.max4) (.inl rfl) ?_
              refine VD.c (.gtr) ?_
              refine VD.go ?_
              refine VC.condD rfl (fun c9 => ?_) (fun c9 => ?_)
              · refine VC.seq ?_
                refine VC.text ?_
                refine VO.call rfl rfl (VF.call (awake_ok )) ?_
                refine VO.c (.assign rfl) ?_
                refine VO.go ?_
                refine VC.ret ?_
                exact VEnd.one rfl evT (pvE (by first | rfl | simp))
              · have hz1 : -100000 ≤ l[i].1[m] ∧ l[i].1[m] ≤ 100000 := by omega
                have hz2 : -100000 ≤ l[i].2[m] ∧ l[i].2[m] ≤ 100000 := by omega
                refine VC.skip ?_
                show VC _ _ _ _ _ _ _ _
                refine VC.text ?_
                refine VO.c (.add rfl rfl (by omega)) ?_
                refine VO.c (.move rfl) ?_
                refine VO.nil ?_
                refine ⟨_, [(0, .v y39 l), (3, .p y24 t), (6, .p y88 (l[i])), (54, .v y39 l), (55, I ((l.length : Nat) : Int)), (56, I ((i : Nat) : Int)), (62, I ((((l[i]).1).length : Nat) : Int)), (63, I (((m + 1) : Nat) : Int))], ?_, ⟨rfl, rfl, rfl, rfl, rfl, rfl, rfl, rfl, trivial⟩, (m + 1), rfl, rfl, rfl, (by omega), (by exact all_take (by omega) hq1 hz1), (by exact all_take (by omega) hq2 hz2)⟩
                omega
            · refine VC.exit ?_
              show VC _ _ _ _ _ _ _ _
              refine VC.text ?_
              refine VO.c (.add rfl rfl (by omega)) ?_
              refine VO.c (.move rfl) ?_
              refine VO.nil ?_
              have e1 : l[i].1.take m = l[i].1 := List.take_of_length_le (by omega)
              have e2 : l[i].2.take m = l[i].2 := List.take_of_length_le (by omega)
              have hsi : SmallN l[i] := ⟨by rw [e1] at hq1; exact hq1, by rw [e2] at hq2; exact hq2⟩
              refine ⟨_, [(0, .v y39 l), (3, .p y24 t), (54, .v y39 l), (55, I ((l.length : Nat) : Int)), (56, I (((i + 1) : Nat) : Int))], ?_, ⟨rfl, rfl, rfl, rfl, rfl, trivial⟩, (i + 1), rfl, rfl, rfl, (by omega), (by exact all_take (by omega) hsm hsi)⟩
              omega
          · refine VC.exit ?_
            show VC _ _ _ _ _ _ _ _
            have hsm : ∀ c ∈ l, SmallN c := by rw [List.take_of_length_le (by omega)] at hsm; exact hsm
            refine VC.keep [(0, .v y39 l), (3, .p y24 t)] ⟨rfl, rfl, trivial⟩ ?_
            exact law7_ok_c13 (l := l) (t := t) hp ht hn hc hsm htr
end Go.Proofs
