/- Contracts of functions of the program, over the evaluator: what each answers. Conditions: those in each statement. -/
import Derived.Test.YtednnfllcafliaaGreatDoorP7
set_option linter.all false
namespace Go.Proofs
open Go.Fs Ieee
set_option linter.unusedVariables false

theorem law14_ok {d : Int × Int × Int × (List (ByteArray × Int))} {a : List (Int × ByteArray × Int × Int × (List Nat))} {b : List (Int × ByteArray × Int × Int × (List Nat))} (hd1 : d.2.2.2.length ≤ 9223372036854775807) (hl1 : a.length ≤ 9223372036854775807) (hl2 : b.length ≤ 9223372036854775807) : VF Tryz.prog OA 14 [.v y95 d, .v y96 a, .v y96 b] (B true) := by
  refine VF.enter Tryz.func14 rfl (fun _ _ => rfl) rfl ?_
  show VC _ _ _ _ _ [(0, .v y95 d), (1, .v y96 a), (2, .v y96 b)] [] _
  refine VC.seq ?_
  refine VC.text ?_
  refine VO.new (.box) ?_
  refine VO.c (.assign rfl) ?_
  refine VO.go ?_
  refine VC.seq ?_
  refine VC.seq ?_
  refine VC.text ?_
  refine VO.r (.ld vt95) ?_
  refine VO.call rfl rfl (VF.call (rShortD_ok hd1)) ?_
  refine VO.c (.not) ?_
  refine VO.c (.move rfl) ?_
  refine VO.splitB (x := 16) rfl (fun g1_3 => ?_) (fun g1_3 => ?_)
  · try simp only [Bool.and_eq_true, Bool.or_eq_true, Bool.and_eq_false_iff, Bool.or_eq_false_iff, Bool.not_eq_true', Bool.not_eq_false', decide_eq_true_eq, decide_eq_false_iff_not] at g1_3
    refine VO.skip ?_
    refine VO.skip ?_
    refine VO.skip ?_
    refine VO.c (.pickT rfl rfl) ?_
    refine VO.c (.move rfl) ?_
    refine VO.skip ?_
    refine VO.skip ?_
    refine VO.skip ?_
    refine VO.c (.pickT rfl rfl) ?_
    refine VO.go ?_
    refine VC.condT rfl ?_
    refine VC.seq ?_
    refine VC.text ?_
    refine VO.call rfl rfl (VF.call (awake_ok )) ?_
    refine VO.c (.assign rfl) ?_
    refine VO.go ?_
    refine VC.ret ?_
    exact VEnd.one rfl evT (pvE (by first | rfl | exact absurd rfl g12_6 | exact absurd rfl g12_17 | exact absurd rfl g12_26 | exact absurd ((finS1 (mrg_two c10).1 (mrg_two c10).2).1.symm.trans g12_32) (by decide) | exact absurd ((finS2 c10).1.symm.trans g12_32) (by decide) | exact absurd (finS1 (mrg_two c10).1 (mrg_two c10).2).2 g12_37 | exact absurd (finS2 c10).2 g12_37))
  · try simp only [Bool.and_eq_true, Bool.or_eq_true, Bool.and_eq_false_iff, Bool.or_eq_false_iff, Bool.not_eq_true', Bool.not_eq_false', decide_eq_true_eq, decide_eq_false_iff_not] at g1_3
    refine VO.c (.move rfl) ?_
    refine VO.call rfl rfl (VF.call (rShortS_ok hl1)) ?_
    refine VO.c (.not) ?_
    refine VO.c (.pickF rfl rfl) ?_
    refine VO.c (.move rfl) ?_
    refine VO.splitB (x := 21) rfl (fun g1_8 => ?_) (fun g1_8 => ?_)
    · try simp only [Bool.and_eq_true, Bool.or_eq_true, Bool.and_eq_false_iff, Bool.or_eq_false_iff, Bool.not_eq_true', Bool.not_eq_false', decide_eq_true_eq, decide_eq_false_iff_not] at g1_8
      refine VO.skip ?_
      refine VO.skip ?_
      refine VO.skip ?_
      refine VO.c (.pickT rfl rfl) ?_
      refine VO.go ?_
      refine VC.condT rfl ?_
      refine VC.seq ?_
      refine VC.text ?_
      refine VO.call rfl rfl (VF.call (awake_ok )) ?_
      refine VO.c (.assign rfl) ?_
      refine VO.go ?_
      refine VC.ret ?_
      exact VEnd.one rfl evT (pvE (by first | rfl | exact absurd rfl g12_6 | exact absurd rfl g12_17 | exact absurd rfl g12_26 | exact absurd ((finS1 (mrg_two c10).1 (mrg_two c10).2).1.symm.trans g12_32) (by decide) | exact absurd ((finS2 c10).1.symm.trans g12_32) (by decide) | exact absurd (finS1 (mrg_two c10).1 (mrg_two c10).2).2 g12_37 | exact absurd (finS2 c10).2 g12_37))
    · try simp only [Bool.and_eq_true, Bool.or_eq_true, Bool.and_eq_false_iff, Bool.or_eq_false_iff, Bool.not_eq_true', Bool.not_eq_false', decide_eq_true_eq, decide_eq_false_iff_not] at g1_8
      refine VO.c (.move rfl) ?_
      refine VO.call rfl rfl (VF.call (rShortS_ok hl2)) ?_
      refine VO.c (.not) ?_
      refine VO.c (.pickF rfl rfl) ?_
      refine VO.go ?_
      refine VC.condB rfl (fun c1 => ?_) (fun c1 => ?_)
      · try simp only [Bool.and_eq_true, Bool.or_eq_true, Bool.and_eq_false_iff, Bool.or_eq_false_iff, Bool.not_eq_true', Bool.not_eq_false', decide_eq_true_eq, decide_eq_false_iff_not] at c1
        refine VC.seq ?_
        refine VC.text ?_
        refine VO.call rfl rfl (VF.call (awake_ok )) ?_
        refine VO.c (.assign rfl) ?_
        refine VO.go ?_
        refine VC.ret ?_
        exact VEnd.one rfl evT (pvE (by first | rfl | exact absurd rfl g12_6 | exact absurd rfl g12_17 | exact absurd rfl g12_26 | exact absurd ((finS1 (mrg_two c10).1 (mrg_two c10).2).1.symm.trans g12_32) (by decide) | exact absurd ((finS2 c10).1.symm.trans g12_32) (by decide) | exact absurd (finS1 (mrg_two c10).1 (mrg_two c10).2).2 g12_37 | exact absurd (finS2 c10).2 g12_37))
      · try simp only [Bool.and_eq_true, Bool.or_eq_true, Bool.and_eq_false_iff, Bool.or_eq_false_iff, Bool.not_eq_true', Bool.not_eq_false', decide_eq_true_eq, decide_eq_false_iff_not] at c1
        have hs : (shortD d = true ∧ shortS a 24 = true ∧ shortS b 24 = true) := by simp_all
        have hsd := of_decide_eq_true hs.1
        have hsa := of_decide_eq_true hs.2.1
        have hsb := of_decide_eq_true hs.2.2
        have hdl : d.2.2.2.length < 100000 := by have := hsd.1; omega
        have hla : a.length < 10000 := by have := hsa.1; omega
        have hlb : b.length < 10000 := by have := hsb.1; omega
        have hra : ∀ p ∈ a, p.2.2.2.2.length < 100000 := fun p m => by obtain ⟨i, hi, rfl⟩ := List.getElem_of_mem m; have := (hsa.2 i hi).2; rw [← pcA_eq hi] at this; omega
        have hrb : ∀ p ∈ b, p.2.2.2.2.length < 100000 := fun p m => by obtain ⟨i, hi, rfl⟩ := List.getElem_of_mem m; have := (hsb.2 i hi).2; rw [← pcA_eq hi] at this; omega
        have hmv := mrgV_ok (d := d) (T := fun p => p.2.2.2.2.length < 100000) hra hrb
        refine VC.skip ?_
        show VC _ _ _ _ _ _ _ _
        refine VC.seq ?_
        refine VC.text ?_
        refine VO.cell (.alloc zt152) ?_
        intro ww1
        refine VO.go ?_
        refine VC.seq ?_
        refine VC.seq ?_
        refine VC.text ?_
        refine VO.c (.move rfl) ?_
        refine VO.r (.len el96) ?_
        refine VO.c (.gtr) ?_
        refine VO.go ?_
        refine VC.condD rfl (fun c4 => ?_) (fun c4 => ?_)
        · have hone : (a[0]'(by omega)).2.2.2.2.length < 100000 := hra _ (List.getElem_mem _)
          refine VC.text ?_
          refine VO.c (.move rfl) ?_
          refine VO.c (.ix (j := 0) rfl rfl el96 (by omega)) ?_
          refine VO.r (.ld vt152) ?_
          refine VO.setV (cs' := [I ((a[0]).1), St ((a[0]).2.1), I ((a[0]).2.2.1), I ((a[0]).2.2.2.1), .v y124 ((a[0]).2.2.2.2)]) vt152 .v ?_
          refine VO.shut [(7, .p y152 (a[0]))] (.cons rfl (.var m0 .refl) .nil) ?_
          refine VO.go ?_
          refine VC.seq ?_
          refine VC.text ?_
          refine VO.r (.ld vt95) ?_
          refine VO.call rfl rfl (VF.call (lDom_ok hdl)) ?_
          refine VO.c (.move rfl) ?_
          refine VO.call rfl rfl (VF.call (lPcs_ok (by omega) hra)) ?_
          refine VO.c (.move rfl) ?_
          refine VO.call rfl rfl (VF.call (lPcs_ok (by omega) hrb)) ?_
          refine VO.call rfl rfl (VF.call (sMerge_ok (by omega) hra (by omega) hrb)) ?_
          refine VO.c (.move rfl) ?_
          refine VO.c (.extract) ?_
          refine VO.c (.extract) ?_
          refine VO.c (.assign rfl) ?_
          refine VO.c (.assign rfl) ?_
          refine VO.go ?_
          refine VC.seq ?_
          refine VC.keep [(1, .v y96 a), (2, .v y96 b), (3, .p y95 d), (7, .p y152 (a[0])), (8, .v y108 ((mrgV d a b).1)), (9, I ((mrgV d a b).2))] ⟨rfl, rfl, rfl, rfl, rfl, rfl, trivial⟩ ?_
          refine VC.text ?_
          refine VO.r (.ld vt95) ?_
          refine VO.c (.move rfl) ?_
          refine VO.call rfl rfl (VF.call (rStore_ok (by omega) hra)) ?_
          refine VO.c (.assign rfl) ?_
          refine VO.go ?_
          refine VC.seq ?_
          refine VC.text ?_
          refine VO.c (.move rfl) ?_
          refine VO.r (.ld vt95) ?_
          refine VO.c (.move rfl) ?_
          refine VO.call rfl rfl (VF.call (rStore_ok (by omega) hrb)) ?_
          refine VO.new (.lit [storeE d a, storeE d b] el22) ?_
          refine VO.call rfl rfl (VF.call (lFirst_ok (by first | assumption | omega | simp))) ?_
          rw [show firstE [storeE d a, storeE d b] = mrgB d a b from rfl]
          refine VO.c (.assign rfl) ?_
          refine VO.go ?_
          refine VC.seq ?_
          refine VC.text ?_
          refine VO.c (.assign rfl) ?_
          refine VO.go ?_
          refine VC.seq ?_
          refine VC.seq ?_
          refine VC.text ?_
          refine VO.c (.move rfl) ?_
          refine VO.c (.eql) ?_
          refine VO.go ?_
          refine VC.condD rfl (fun c10 => ?_) (fun c10 => ?_)
          · refine VC.text ?_
            refine VO.r (.ld vt95) ?_
            refine VO.c (.move rfl) ?_
            refine VO.c (.move rfl) ?_
            refine VO.call rfl rfl (VF.call (rMerge_ok (dom_ok (store_dom (mrg_two c10).1).1).2.2.2.1 (by omega) (by omega) hra (store_lv (mrg_two c10).1) hrb (store_lv (mrg_two c10).2))) ?_
            refine VO.c (.move rfl) ?_
            refine VO.c (.extract) ?_
            refine VO.c (.extract) ?_
            refine VO.c (.assign rfl) ?_
            refine VO.c (.assign rfl) ?_
            refine VO.go ?_
            refine VC.seq ?_
            refine VC.drawn ?_
            refine VD.r [] (.ld vt95) (.inl rfl) ?_
            refine VD.call rfl rfl (VF.call (lDom_ok hdl)) ?_
            refine VD.callO rfl rfl (VF.call (sDom_ok )) ?_
            refine VD.r [] (.ld vt95) (.inl rfl) ?_
            refine VD.call rfl rfl (VF.call (rDom_ok )) ?_
            refine VD.c (.eql) ?_
            refine VD.nw [62] ?_
            refine VD.c (.move rfl) ?_
            refine VD.splitD (x := 67) rfl (fun g12_6 => ?_) (fun g12_6 => ?_)
            · refine VD.r [] (.ld vt95) (.inl rfl) ?_
              refine VD.call rfl rfl (VF.call (lDom_ok hdl)) ?_
              refine VD.r [] (.ld vt152) (.inl rfl) ?_
              refine VD.call rfl rfl (VF.call (lPc_ok (by first | exact hone | decide))) ?_
              refine VD.callO rfl rfl (VF.call (sChk_ok (by first | exact hone | decide))) ?_
              refine VD.nw [71, 69, 62] ?_
              refine VD.r [] (.ld vt95) (.inl rfl) ?_
              refine VD.r [] (.ld vt152) (.inl rfl) ?_
              refine VD.call rfl rfl (VF.call (rChk_ok hdl (by first | exact hone | decide))) ?_
              refine VD.c (.eql) ?_
              refine VD.c (.pickT rfl rfl) ?_
              refine VD.c (.move rfl) ?_
              refine VD.splitD (x := 78) rfl (fun g12_17 => ?_) (fun g12_17 => ?_)
              · refine VD.nw [71, 69, 62] ?_
                refine VD.r [] (.ld vt95) (.inl rfl) ?_
                refine VD.call rfl rfl (VF.call (lDom_ok hdl)) ?_
                refine VD.c (.move rfl) ?_
                refine VD.call rfl rfl (VF.call (lPcs_ok (by omega) hra)) ?_
                refine VD.callO rfl rfl (VF.call (sStore_ok (by omega) hra)) ?_
                refine VD.c (.move rfl) ?_
                refine VD.c (.eql) ?_
                refine VD.nw [82, 80, 71, 69, 62] ?_
                refine VD.c (.pickT rfl rfl) ?_
                refine VD.c (.move rfl) ?_
                refine VD.splitD (x := 87) rfl (fun g12_26 => ?_) (fun g12_26 => ?_)
                · refine VD.c (.move rfl) ?_
                  refine VD.call rfl rfl (VF.call (lTold_ok (by omega))) ?_
                  refine VD.c (.move rfl) ?_
                  refine VD.callO rfl rfl (VF.call (rSame_ok (by omega) hmv.2)) ?_
                  refine VD.nw [89, 82, 80, 71, 69, 62] ?_
                  refine VD.c (.pickT rfl rfl) ?_
                  refine VD.c (.move rfl) ?_
                  refine VD.splitB (x := 93) rfl (fun g12_32 => ?_) (fun g12_32 => ?_)
                  · refine VD.c (.move rfl) ?_
                    refine VD.c (.move rfl) ?_
                    refine VD.c (.eql) ?_
                    refine VD.c (.pickT rfl rfl) ?_
                    refine VD.nw [89, 82, 80, 71, 69, 62] ?_
                    refine VD.c (.move rfl) ?_
                    refine VD.splitD (x := 98) rfl (fun g12_37 => ?_) (fun g12_37 => ?_)
                    · refine VD.call rfl rfl (VF.call (awake_ok )) ?_
                      refine VD.c (.pickT rfl rfl) ?_
                      refine VD.c (.assign rfl) ?_
                      refine VD.go ?_
                      refine VC.ret ?_
                      exact VEnd.one rfl evT (pvE (by first | rfl | exact absurd rfl g12_6 | exact absurd rfl g12_17 | exact absurd rfl g12_26 | exact absurd ((finS1 (mrg_two c10).1 (mrg_two c10).2).1.symm.trans g12_32) (by decide) | exact absurd ((finS2 c10).1.symm.trans g12_32) (by decide) | exact absurd (finS1 (mrg_two c10).1 (mrg_two c10).2).2 g12_37 | exact absurd (finS2 c10).2 g12_37))
                    · refine VD.skip ?_
                      refine VD.c (.pickF rfl rfl) ?_
                      refine VD.c (.assign rfl) ?_
                      refine VD.go ?_
                      refine VC.ret ?_
                      exact VEnd.one rfl evT (pvE (by first | rfl | exact absurd rfl g12_6 | exact absurd rfl g12_17 | exact absurd rfl g12_26 | exact absurd ((finS1 (mrg_two c10).1 (mrg_two c10).2).1.symm.trans g12_32) (by decide) | exact absurd ((finS2 c10).1.symm.trans g12_32) (by decide) | exact absurd (finS1 (mrg_two c10).1 (mrg_two c10).2).2 g12_37 | exact absurd (finS2 c10).2 g12_37))
                  · refine VD.skip ?_
                    refine VD.skip ?_
                    refine VD.skip ?_
                    refine VD.c (.pickF rfl rfl) ?_
                    refine VD.nw [89, 82, 80, 71, 69, 62] ?_
                    refine VD.c (.move rfl) ?_
                    refine VD.skip ?_
                    refine VD.c (.pickF rfl rfl) ?_
                    refine VD.c (.assign rfl) ?_
                    refine VD.go ?_
                    refine VC.ret ?_
                    exact VEnd.one rfl evT (pvE (by first | rfl | exact absurd rfl g12_6 | exact absurd rfl g12_17 | exact absurd rfl g12_26 | exact absurd ((finS1 (mrg_two c10).1 (mrg_two c10).2).1.symm.trans g12_32) (by decide) | exact absurd ((finS2 c10).1.symm.trans g12_32) (by decide) | exact absurd (finS1 (mrg_two c10).1 (mrg_two c10).2).2 g12_37 | exact absurd (finS2 c10).2 g12_37))
                · refine VD.skip ?_
                  refine VD.skip ?_
                  refine VD.skip ?_
                  refine VD.skip ?_
                  refine VD.nw [82, 80, 71, 69, 62] ?_
                  refine VD.c (.pickF rfl rfl) ?_
                  refine VD.c (.move rfl) ?_
                  refine VD.skip ?_
                  refine VD.skip ?_
                  refine VD.skip ?_
                  refine VD.c (.pickF rfl rfl) ?_
                  refine VD.c (.move rfl) ?_
                  refine VD.nw [82, 80, 71, 69, 62] ?_
                  refine VD.skip ?_
                  refine VD.c (.pickF rfl rfl) ?_
                  refine VD.c (.assign rfl) ?_
                  refine VD.go ?_
                  refine VC.ret ?_
                  exact VEnd.one rfl evT (pvE (by first | rfl | exact absurd rfl g12_6 | exact absurd rfl g12_17 | exact absurd rfl g12_26 | exact absurd ((finS1 (mrg_two c10).1 (mrg_two c10).2).1.symm.trans g12_32) (by decide) | exact absurd ((finS2 c10).1.symm.trans g12_32) (by decide) | exact absurd (finS1 (mrg_two c10).1 (mrg_two c10).2).2 g12_37 | exact absurd (finS2 c10).2 g12_37))
              · refine VD.nw [71, 69, 62] ?_
                refine VD.skip ?_
                refine VD.skip ?_
                refine VD.skip ?_
                refine VD.skip ?_
                refine VD.skip ?_
                refine VD.skip ?_
                refine VD.skip ?_
                refine VD.nw [71, 69, 62] ?_
                refine VD.c (.pickF rfl rfl) ?_
                refine VD.c (.move rfl) ?_
                refine VD.skip ?_
                refine VD.skip ?_
                refine VD.skip ?_
                refine VD.skip ?_
                refine VD.c (.pickF rfl rfl) ?_
                refine VD.nw [71, 69, 62] ?_
                refine VD.c (.move rfl) ?_
                refine VD.skip ?_
                refine VD.skip ?_
                refine VD.skip ?_
                refine VD.c (.pickF rfl rfl) ?_
                refine VD.c (.move rfl) ?_
                refine VD.skip ?_
                refine VD.nw [71, 69, 62] ?_
                refine VD.c (.pickF rfl rfl) ?_
                refine VD.c (.assign rfl) ?_
                refine VD.go ?_
                refine VC.ret ?_
                exact VEnd.one rfl evT (pvE (by first | rfl | exact absurd rfl g12_6 | exact absurd rfl g12_17 | exact absurd rfl g12_26 | exact absurd ((finS1 (mrg_two c10).1 (mrg_two c10).2).1.symm.trans g12_32) (by decide) | exact absurd ((finS2 c10).1.symm.trans g12_32) (by decide) | exact absurd (finS1 (mrg_two c10).1 (mrg_two c10).2).2 g12_37 | exact absurd (finS2 c10).2 g12_37))
            · refine VD.skip ?_
              refine VD.skip ?_
              refine VD.skip ?_
              refine VD.skip ?_
              refine VD.skip ?_
              refine VD.nw [62] ?_
              refine VD.skip ?_
              refine VD.skip ?_
              refine VD.skip ?_
              refine VD.skip ?_
              refine VD.c (.pickF rfl rfl) ?_
              refine VD.c (.move rfl) ?_
              refine VD.skip ?_
              refine VD.nw [62] ?_
              refine VD.skip ?_
              refine VD.skip ?_
              refine VD.skip ?_
              refine VD.skip ?_
              refine VD.skip ?_
              refine VD.skip ?_
              refine VD.c (.pickF rfl rfl) ?_
              refine VD.nw [62] ?_
              refine VD.c (.move rfl) ?_
              refine VD.skip ?_
              refine VD.skip ?_
              refine VD.skip ?_
              refine VD.skip ?_
              refine VD.c (.pickF rfl rfl) ?_
              refine VD.c (.move rfl) ?_
              refine VD.nw [62] ?_
              refine VD.skip ?_
              refine VD.skip ?_
              refine VD.skip ?_
              refine VD.c (.pickF rfl rfl) ?_
              refine VD.c (.move rfl) ?_
              refine VD.skip ?_
              refine VD.c (.pickF rfl rfl) ?_
              refine VD.nw [62] ?_
              refine VD.c (.assign rfl) ?_
              refine VD.go ?_
              refine VC.ret ?_
              exact VEnd.one rfl evT (pvE (by first | rfl | exact absurd rfl g12_6 | exact absurd rfl g12_17 | exact absurd rfl g12_26 | exact absurd ((finS1 (mrg_two c10).1 (mrg_two c10).2).1.symm.trans g12_32) (by decide) | exact absurd ((finS2 c10).1.symm.trans g12_32) (by decide) | exact absurd (finS1 (mrg_two c10).1 (mrg_two c10).2).2 g12_37 | exact absurd (finS2 c10).2 g12_37))
          · refine VC.skip ?_
            show VC _ _ _ _ _ _ _ _
            refine VC.seq ?_
            refine VC.drawn ?_
            refine VD.r [] (.ld vt95) (.inl rfl) ?_
            refine VD.call rfl rfl (VF.call (lDom_ok hdl)) ?_
            refine VD.callO rfl rfl (VF.call (sDom_ok )) ?_
            refine VD.r [] (.ld vt95) (.inl rfl) ?_
            refine VD.call rfl rfl (VF.call (rDom_ok )) ?_
            refine VD.c (.eql) ?_
            refine VD.nw [62] ?_
            refine VD.c (.move rfl) ?_
            refine VD.splitD (x := 67) rfl (fun g12_6 => ?_) (fun g12_6 => ?_)
            · refine VD.r [] (.ld vt95) (.inl rfl) ?_
              refine VD.call rfl rfl (VF.call (lDom_ok hdl)) ?_
              refine VD.r [] (.ld vt152) (.inl rfl) ?_
              refine VD.call rfl rfl (VF.call (lPc_ok (by first | exact hone | decide))) ?_
              refine VD.callO rfl rfl (VF.call (sChk_ok (by first | exact hone | decide))) ?_
              refine VD.nw [71, 69, 62] ?_
              refine VD.r [] (.ld vt95) (.inl rfl) ?_
              refine VD.r [] (.ld vt152) (.inl rfl) ?_
              refine VD.call rfl rfl (VF.call (rChk_ok hdl (by first | exact hone | decide))) ?_
              refine VD.c (.eql) ?_
              refine VD.c (.pickT rfl rfl) ?_
              refine VD.c (.move rfl) ?_
              refine VD.splitD (x := 78) rfl (fun g12_17 => ?_) (fun g12_17 => ?_)
              · refine VD.nw [71, 69, 62] ?_
                refine VD.r [] (.ld vt95) (.inl rfl) ?_
                refine VD.call rfl rfl (VF.call (lDom_ok hdl)) ?_
                refine VD.c (.move rfl) ?_
                refine VD.call rfl rfl (VF.call (lPcs_ok (by omega) hra)) ?_
                refine VD.callO rfl rfl (VF.call (sStore_ok (by omega) hra)) ?_
                refine VD.c (.move rfl) ?_
                refine VD.c (.eql) ?_
                refine VD.nw [82, 80, 71, 69, 62] ?_
                refine VD.c (.pickT rfl rfl) ?_
                refine VD.c (.move rfl) ?_
                refine VD.splitD (x := 87) rfl (fun g12_26 => ?_) (fun g12_26 => ?_)
                · refine VD.c (.move rfl) ?_
                  refine VD.call rfl rfl (VF.call (lTold_ok (by omega))) ?_
                  refine VD.c (.move rfl) ?_
                  refine VD.callC rfl rfl .same (.cons .same (.cons .nil .nil)) rfl (VF.call (rSame_ok (by omega) hmv.2)) ?_
                  refine VD.nw [89, 82, 80, 71, 69, 62] ?_
                  refine VD.c (.pickT rfl rfl) ?_
                  refine VD.c (.move rfl) ?_
                  refine VD.splitB (x := 93) rfl (fun g12_32 => ?_) (fun g12_32 => ?_)
                  · refine VD.c (.move rfl) ?_
                    refine VD.c (.move rfl) ?_
                    refine VD.c (.eql) ?_
                    refine VD.c (.pickT rfl rfl) ?_
                    refine VD.nw [89, 82, 80, 71, 69, 62] ?_
                    refine VD.c (.move rfl) ?_
                    refine VD.splitD (x := 98) rfl (fun g12_37 => ?_) (fun g12_37 => ?_)
                    · refine VD.call rfl rfl (VF.call (awake_ok )) ?_
                      refine VD.c (.pickT rfl rfl) ?_
                      refine VD.c (.assign rfl) ?_
                      refine VD.go ?_
                      refine VC.ret ?_
                      exact VEnd.one rfl evT (pvE (by first | rfl | exact absurd rfl g12_6 | exact absurd rfl g12_17 | exact absurd rfl g12_26 | exact absurd ((finS1 (mrg_two c10).1 (mrg_two c10).2).1.symm.trans g12_32) (by decide) | exact absurd ((finS2 c10).1.symm.trans g12_32) (by decide) | exact absurd (finS1 (mrg_two c10).1 (mrg_two c10).2).2 g12_37 | exact absurd (finS2 c10).2 g12_37))
                    · refine VD.skip ?_
                      refine VD.c (.pickF rfl rfl) ?_
                      refine VD.c (.assign rfl) ?_
                      refine VD.go ?_
                      refine VC.ret ?_
                      exact VEnd.one rfl evT (pvE (by first | rfl | exact absurd rfl g12_6 | exact absurd rfl g12_17 | exact absurd rfl g12_26 | exact absurd ((finS1 (mrg_two c10).1 (mrg_two c10).2).1.symm.trans g12_32) (by decide) | exact absurd ((finS2 c10).1.symm.trans g12_32) (by decide) | exact absurd (finS1 (mrg_two c10).1 (mrg_two c10).2).2 g12_37 | exact absurd (finS2 c10).2 g12_37))
                  · refine VD.skip ?_
                    refine VD.skip ?_
                    refine VD.skip ?_
                    refine VD.c (.pickF rfl rfl) ?_
                    refine VD.nw [89, 82, 80, 71, 69, 62] ?_
                    refine VD.c (.move rfl) ?_
                    refine VD.skip ?_
                    refine VD.c (.pickF rfl rfl) ?_
                    refine VD.c (.assign rfl) ?_
                    refine VD.go ?_
                    refine VC.ret ?_
                    exact VEnd.one rfl evT (pvE (by first | rfl | exact absurd rfl g12_6 | exact absurd rfl g12_17 | exact absurd rfl g12_26 | exact absurd ((finS1 (mrg_two c10).1 (mrg_two c10).2).1.symm.trans g12_32) (by decide) | exact absurd ((finS2 c10).1.symm.trans g12_32) (by decide) | exact absurd (finS1 (mrg_two c10).1 (mrg_two c10).2).2 g12_37 | exact absurd (finS2 c10).2 g12_37))
                · refine VD.skip ?_
                  refine VD.skip ?_
                  refine VD.skip ?_
                  refine VD.skip ?_
                  refine VD.nw [82, 80, 71, 69, 62] ?_
                  refine VD.c (.pickF rfl rfl) ?_
                  refine VD.c (.move rfl) ?_
                  refine VD.skip ?_
                  refine VD.skip ?_
                  refine VD.skip ?_
                  refine VD.c (.pickF rfl rfl) ?_
                  refine VD.c (.move rfl) ?_
                  refine VD.nw [82, 80, 71, 69, 62] ?_
                  refine VD.skip ?_
                  refine VD.c (.pickF rfl rfl) ?_
                  refine VD.c (.assign rfl) ?_
                  refine VD.go ?_
                  refine VC.ret ?_
                  exact VEnd.one rfl evT (pvE (by first | rfl | exact absurd rfl g12_6 | exact absurd rfl g12_17 | exact absurd rfl g12_26 | exact absurd ((finS1 (mrg_two c10).1 (mrg_two c10).2).1.symm.trans g12_32) (by decide) | exact absurd ((finS2 c10).1.symm.trans g12_32) (by decide) | exact absurd (finS1 (mrg_two c10).1 (mrg_two c10).2).2 g12_37 | exact absurd (finS2 c10).2 g12_37))
              · refine VD.nw [71, 69, 62] ?_
                refine VD.skip ?_
                refine VD.skip ?_
                refine VD.skip ?_
                refine VD.skip ?_
                refine VD.skip ?_
                refine VD.skip ?_
                refine VD.skip ?_
                refine VD.nw [71, 69, 62] ?_
                refine VD.c (.pickF rfl rfl) ?_
                refine VD.c (.move rfl) ?_
                refine VD.skip ?_
                refine VD.skip ?_
                refine VD.skip ?_
                refine VD.skip ?_
                refine VD.c (.pickF rfl rfl) ?_
                refine VD.nw [71, 69, 62] ?_
                refine VD.c (.move rfl) ?_
                refine VD.skip ?_
                refine VD.skip ?_
                refine VD.skip ?_
                refine VD.c (.pickF rfl rfl) ?_
                refine VD.c (.move rfl) ?_
                refine VD.skip ?_
                refine VD.nw [71, 69, 62] ?_
                refine VD.c (.pickF rfl rfl) ?_
                refine VD.c (.assign rfl) ?_
                refine VD.go ?_
                refine VC.ret ?_
                exact VEnd.one rfl evT (pvE (by first | rfl | exact absurd rfl g12_6 | exact absurd rfl g12_17 | exact absurd rfl g12_26 | exact absurd ((finS1 (mrg_two c10).1 (mrg_two c10).2).1.symm.trans g12_32) (by decide) | exact absurd ((finS2 c10).1.symm.trans g12_32) (by decide) | exact absurd (finS1 (mrg_two c10).1 (mrg_two c10).2).2 g12_37 | exact absurd (finS2 c10).2 g12_37))
            · refine VD.skip ?_
              refine VD.skip ?_
              refine VD.skip ?_
              refine VD.skip ?_
              refine VD.skip ?_
              refine VD.nw [62] ?_
              refine VD.skip ?_
              refine VD.skip ?_
              refine VD.skip ?_
              refine VD.skip ?_
              refine VD.c (.pickF rfl rfl) ?_
              refine VD.c (.move rfl) ?_
              refine VD.skip ?_
              refine VD.nw [62] ?_
              refine VD.skip ?_
              refine VD.skip ?_
              refine VD.skip ?_
              refine VD.skip ?_
              refine VD.skip ?_
              refine VD.skip ?_
              refine VD.c (.pickF rfl rfl) ?_
              refine VD.nw [62] ?_
              refine VD.c (.move rfl) ?_
              refine VD.skip ?_
              refine VD.skip ?_
              refine VD.skip ?_
              refine VD.skip ?_
              refine VD.c (.pickF rfl rfl) ?_
              refine VD.c (.move rfl) ?_
              refine VD.nw [62] ?_
              refine VD.skip ?_
              refine VD.skip ?_
              refine VD.skip ?_
              refine VD.c (.pickF rfl rfl) ?_
              refine VD.c (.move rfl) ?_
              refine VD.skip ?_
              refine VD.c (.pickF rfl rfl) ?_
              refine VD.nw [62] ?_
              refine VD.c (.assign rfl) ?_
              refine VD.go ?_
              refine VC.ret ?_
              exact VEnd.one rfl evT (pvE (by first | rfl | exact absurd rfl g12_6 | exact absurd rfl g12_17 | exact absurd rfl g12_26 | exact absurd ((finS1 (mrg_two c10).1 (mrg_two c10).2).1.symm.trans g12_32) (by decide) | exact absurd ((finS2 c10).1.symm.trans g12_32) (by decide) | exact absurd (finS1 (mrg_two c10).1 (mrg_two c10).2).2 g12_37 | exact absurd (finS2 c10).2 g12_37))
        · refine VC.skip ?_
          show VC _ _ _ _ _ _ _ _
          refine VC.seq ?_
          refine VC.shutL [(ww1, .var [I (0 : Int), St ByteArray.empty, I (0 : Int), I (0 : Int), .v y124 []])] [(7, .p y152 ((0 : Int), ByteArray.empty, (0 : Int), (0 : Int), []))] rfl (.cons rfl (.var m0 .refl) .nil) ?_
          refine VC.text ?_
          refine VO.r (.ld vt95) ?_
          refine VO.call rfl rfl (VF.call (lDom_ok hdl)) ?_
          refine VO.c (.move rfl) ?_
          refine VO.call rfl rfl (VF.call (lPcs_ok (by omega) hra)) ?_
          refine VO.c (.move rfl) ?_
          refine VO.call rfl rfl (VF.call (lPcs_ok (by omega) hrb)) ?_
          refine VO.call rfl rfl (VF.call (sMerge_ok (by omega) hra (by omega) hrb)) ?_
          refine VO.c (.move rfl) ?_
          refine VO.c (.extract) ?_
          refine VO.c (.extract) ?_
          refine VO.c (.assign rfl) ?_
          refine VO.c (.assign rfl) ?_
          refine VO.go ?_
          refine VC.seq ?_
          refine VC.keep [(1, .v y96 a), (2, .v y96 b), (3, .p y95 d), (7, .p y152 ((0 : Int), ByteArray.empty, (0 : Int), (0 : Int), [])), (8, .v y108 ((mrgV d a b).1)), (9, I ((mrgV d a b).2))] ⟨rfl, rfl, rfl, rfl, rfl, rfl, trivial⟩ ?_
          refine VC.text ?_
          refine VO.r (.ld vt95) ?_
          refine VO.c (.move rfl) ?_
          refine VO.call rfl rfl (VF.call (rStore_ok (by omega) hra)) ?_
          refine VO.c (.assign rfl) ?_
          refine VO.go ?_
          refine VC.seq ?_
          refine VC.text ?_
          refine VO.c (.move rfl) ?_
          refine VO.r (.ld vt95) ?_
          refine VO.c (.move rfl) ?_
          refine VO.call rfl rfl (VF.call (rStore_ok (by omega) hrb)) ?_
          refine VO.new (.lit [storeE d a, storeE d b] el22) ?_
          refine VO.call rfl rfl (VF.call (lFirst_ok (by first | assumption | omega | simp))) ?_
          rw [show firstE [storeE d a, storeE d b] = mrgB d a b from rfl]
          refine VO.c (.assign rfl) ?_
          refine VO.go ?_
          refine VC.seq ?_
          refine VC.text ?_
          refine VO.c (.assign rfl) ?_
          refine VO.go ?_
          refine VC.seq ?_
          refine VC.seq ?_
          refine VC.text ?_
          refine VO.c (.move rfl) ?_
          refine VO.c (.eql) ?_
          refine VO.go ?_
          refine VC.condD rfl (fun c10 => ?_) (fun c10 => ?_)
          · refine VC.text ?_
            refine VO.r (.ld vt95) ?_
            refine VO.c (.move rfl) ?_
            refine VO.c (.move rfl) ?_
            refine VO.call rfl rfl (VF.call (rMerge_ok (dom_ok (store_dom (mrg_two c10).1).1).2.2.2.1 (by omega) (by omega) hra (store_lv (mrg_two c10).1) hrb (store_lv (mrg_two c10).2))) ?_
            refine VO.c (.move rfl) ?_
            refine VO.c (.extract) ?_
            refine VO.c (.extract) ?_
            refine VO.c (.assign rfl) ?_
            refine VO.c (.assign rfl) ?_
            refine VO.go ?_
            refine VC.seq ?_
            refine VC.drawn ?_
            refine VD.r [] (.ld vt95) (.inl rfl) ?_
            refine VD.call rfl rfl (VF.call (lDom_ok hdl)) ?_
            refine VD.callO rfl rfl (VF.call (sDom_ok )) ?_
            refine VD.r [] (.ld vt95) (.inl rfl) ?_
            refine VD.call rfl rfl (VF.call (rDom_ok )) ?_
            refine VD.c (.eql) ?_
            refine VD.nw [62] ?_
            refine VD.c (.move rfl) ?_
            refine VD.splitD (x := 67) rfl (fun g12_6 => ?_) (fun g12_6 => ?_)
            · refine VD.r [] (.ld vt95) (.inl rfl) ?_
              refine VD.call rfl rfl (VF.call (lDom_ok hdl)) ?_
              refine VD.r [] (.ld vt152) (.inl rfl) ?_
              refine VD.call rfl rfl (VF.call (lPc_ok (by first | exact hone | decide))) ?_
              refine VD.callO rfl rfl (VF.call (sChk_ok (by first | exact hone | decide))) ?_
              refine VD.nw [71, 69, 62] ?_
              refine VD.r [] (.ld vt95) (.inl rfl) ?_
              refine VD.r [] (.ld vt152) (.inl rfl) ?_
              refine VD.call rfl rfl (VF.call (rChk_ok hdl (by first | exact hone | decide))) ?_
              refine VD.c (.eql) ?_
              refine VD.c (.pickT rfl rfl) ?_
              refine VD.c (.move rfl) ?_
              refine VD.splitD (x := 78) rfl (fun g12_17 => ?_) (fun g12_17 => ?_)
              · refine VD.nw [71, 69, 62] ?_
                refine VD.r [] (.ld vt95) (.inl rfl) ?_
                refine VD.call rfl rfl (VF.call (lDom_ok hdl)) ?_
                refine VD.c (.move rfl) ?_
                refine VD.call rfl rfl (VF.call (lPcs_ok (by omega) hra)) ?_
                refine VD.callO rfl rfl (VF.call (sStore_ok (by omega) hra)) ?_
                refine VD.c (.move rfl) ?_
                refine VD.c (.eql) ?_
                refine VD.nw [82, 80, 71, 69, 62] ?_
                refine VD.c (.pickT rfl rfl) ?_
                refine VD.c (.move rfl) ?_
                refine VD.splitD (x := 87) rfl (fun g12_26 => ?_) (fun g12_26 => ?_)
                · refine VD.c (.move rfl) ?_
                  refine VD.call rfl rfl (VF.call (lTold_ok (by omega))) ?_
                  refine VD.c (.move rfl) ?_
                  refine VD.callO rfl rfl (VF.call (rSame_ok (by omega) hmv.2)) ?_
                  refine VD.nw [89, 82, 80, 71, 69, 62] ?_
                  refine VD.c (.pickT rfl rfl) ?_
                  refine VD.c (.move rfl) ?_
                  refine VD.splitB (x := 93) rfl (fun g12_32 => ?_) (fun g12_32 => ?_)
                  · refine VD.c (.move rfl) ?_
                    refine VD.c (.move rfl) ?_
                    refine VD.c (.eql) ?_
                    refine VD.c (.pickT rfl rfl) ?_
                    refine VD.nw [89, 82, 80, 71, 69, 62] ?_
                    refine VD.c (.move rfl) ?_
                    refine VD.splitD (x := 98) rfl (fun g12_37 => ?_) (fun g12_37 => ?_)
                    · refine VD.call rfl rfl (VF.call (awake_ok )) ?_
                      refine VD.c (.pickT rfl rfl) ?_
                      refine VD.c (.assign rfl) ?_
                      refine VD.go ?_
                      refine VC.ret ?_
                      exact VEnd.one rfl evT (pvE (by first | rfl | exact absurd rfl g12_6 | exact absurd rfl g12_17 | exact absurd rfl g12_26 | exact absurd ((finS1 (mrg_two c10).1 (mrg_two c10).2).1.symm.trans g12_32) (by decide) | exact absurd ((finS2 c10).1.symm.trans g12_32) (by decide) | exact absurd (finS1 (mrg_two c10).1 (mrg_two c10).2).2 g12_37 | exact absurd (finS2 c10).2 g12_37))
                    · refine VD.skip ?_
                      refine VD.c (.pickF rfl rfl) ?_
                      refine VD.c (.assign rfl) ?_
                      refine VD.go ?_
                      refine VC.ret ?_
                      exact VEnd.one rfl evT (pvE (by first | rfl | exact absurd rfl g12_6 | exact absurd rfl g12_17 | exact absurd rfl g12_26 | exact absurd ((finS1 (mrg_two c10).1 (mrg_two c10).2).1.symm.trans g12_32) (by decide) | exact absurd ((finS2 c10).1.symm.trans g12_32) (by decide) | exact absurd (finS1 (mrg_two c10).1 (mrg_two c10).2).2 g12_37 | exact absurd (finS2 c10).2 g12_37))
                  · refine VD.skip ?_
                    refine VD.skip ?_
                    refine VD.skip ?_
                    refine VD.c (.pickF rfl rfl) ?_
                    refine VD.nw [89, 82, 80, 71, 69, 62] ?_
                    refine VD.c (.move rfl) ?_
                    refine VD.skip ?_
                    refine VD.c (.pickF rfl rfl) ?_
                    refine VD.c (.assign rfl) ?_
                    refine VD.go ?_
                    refine VC.ret ?_
                    exact VEnd.one rfl evT (pvE (by first | rfl | exact absurd rfl g12_6 | exact absurd rfl g12_17 | exact absurd rfl g12_26 | exact absurd ((finS1 (mrg_two c10).1 (mrg_two c10).2).1.symm.trans g12_32) (by decide) | exact absurd ((finS2 c10).1.symm.trans g12_32) (by decide) | exact absurd (finS1 (mrg_two c10).1 (mrg_two c10).2).2 g12_37 | exact absurd (finS2 c10).2 g12_37))
                · refine VD.skip ?_
                  refine VD.skip ?_
                  refine VD.skip ?_
                  refine VD.skip ?_
                  refine VD.nw [82, 80, 71, 69, 62] ?_
                  refine VD.c (.pickF rfl rfl) ?_
                  refine VD.c (.move rfl) ?_
                  refine VD.skip ?_
                  refine VD.skip ?_
                  refine VD.skip ?_
                  refine VD.c (.pickF rfl rfl) ?_
                  refine VD.c (.move rfl) ?_
                  refine VD.nw [82, 80, 71, 69, 62] ?_
                  refine VD.skip ?_
                  refine VD.c (.pickF rfl rfl) ?_
                  refine VD.c (.assign rfl) ?_
                  refine VD.go ?_
                  refine VC.ret ?_
                  exact VEnd.one rfl evT (pvE (by first | rfl | exact absurd rfl g12_6 | exact absurd rfl g12_17 | exact absurd rfl g12_26 | exact absurd ((finS1 (mrg_two c10).1 (mrg_two c10).2).1.symm.trans g12_32) (by decide) | exact absurd ((finS2 c10).1.symm.trans g12_32) (by decide) | exact absurd (finS1 (mrg_two c10).1 (mrg_two c10).2).2 g12_37 | exact absurd (finS2 c10).2 g12_37))
              · refine VD.nw [71, 69, 62] ?_
                refine VD.skip ?_
                refine VD.skip ?_
                refine VD.skip ?_
                refine VD.skip ?_
                refine VD.skip ?_
                refine VD.skip ?_
                refine VD.skip ?_
                refine VD.nw [71, 69, 62] ?_
                refine VD.c (.pickF rfl rfl) ?_
                refine VD.c (.move rfl) ?_
                refine VD.skip ?_
                refine VD.skip ?_
                refine VD.skip ?_
                refine VD.skip ?_
                refine VD.c (.pickF rfl rfl) ?_
                refine VD.nw [71, 69, 62] ?_
                refine VD.c (.move rfl) ?_
                refine VD.skip ?_
                refine VD.skip ?_
                refine VD.skip ?_
                refine VD.c (.pickF rfl rfl) ?_
                refine VD.c (.move rfl) ?_
                refine VD.skip ?_
                refine VD.nw [71, 69, 62] ?_
                refine VD.c (.pickF rfl rfl) ?_
                refine VD.c (.assign rfl) ?_
                refine VD.go ?_
                refine VC.ret ?_
                exact VEnd.one rfl evT (pvE (by first | rfl | exact absurd rfl g12_6 | exact absurd rfl g12_17 | exact absurd rfl g12_26 | exact absurd ((finS1 (mrg_two c10).1 (mrg_two c10).2).1.symm.trans g12_32) (by decide) | exact absurd ((finS2 c10).1.symm.trans g12_32) (by decide) | exact absurd (finS1 (mrg_two c10).1 (mrg_two c10).2).2 g12_37 | exact absurd (finS2 c10).2 g12_37))
            · refine VD.skip ?_
              refine VD.skip ?_
              refine VD.skip ?_
              refine VD.skip ?_
              refine VD.skip ?_
              refine VD.nw [62] ?_
              refine VD.skip ?_
              refine VD.skip ?_
              refine VD.skip ?_
              refine VD.skip ?_
              refine VD.c (.pickF rfl rfl) ?_
              refine VD.c (.move rfl) ?_
              refine VD.skip ?_
              refine VD.nw [62] ?_
              refine VD.skip ?_
              refine VD.skip ?_
              refine VD.skip ?_
              refine VD.skip ?_
              refine VD.skip ?_
              refine VD.skip ?_
              refine VD.c (.pickF rfl rfl) ?_
              refine VD.nw [62] ?_
              refine VD.c (.move rfl) ?_
              refine VD.skip ?_
              refine VD.skip ?_
              refine VD.skip ?_
              refine VD.skip ?_
              refine VD.c (.pickF rfl rfl) ?_
              refine VD.c (.move rfl) ?_
              refine VD.nw [62] ?_
              refine VD.skip ?_
              refine VD.skip ?_
              refine VD.skip ?_
              refine VD.c (.pickF rfl rfl) ?_
              refine VD.c (.move rfl) ?_
              refine VD.skip ?_
              refine VD.c (.pickF rfl rfl) ?_
              refine VD.nw [62] ?_
              refine VD.c (.assign rfl) ?_
              refine VD.go ?_
              refine VC.ret ?_
              exact VEnd.one rfl evT (pvE (by first | rfl | exact absurd rfl g12_6 | exact absurd rfl g12_17 | exact absurd rfl g12_26 | exact absurd ((finS1 (mrg_two c10).1 (mrg_two c10).2).1.symm.trans g12_32) (by decide) | exact absurd ((finS2 c10).1.symm.trans g12_32) (by decide) | exact absurd (finS1 (mrg_two c10).1 (mrg_two c10).2).2 g12_37 | exact absurd (finS2 c10).2 g12_37))
          · refine VC.skip ?_
            show VC _ _ _ _ _ _ _ _
            refine VC.seq ?_
            refine VC.drawn ?_
            refine VD.r [] (.ld vt95) (.inl rfl) ?_
            refine VD.call rfl rfl (VF.call (lDom_ok hdl)) ?_
            refine VD.callO rfl rfl (VF.call (sDom_ok )) ?_
            refine VD.r [] (.ld vt95) (.inl rfl) ?_
            refine VD.call rfl rfl (VF.call (rDom_ok )) ?_
            refine VD.c (.eql) ?_
            refine VD.nw [62] ?_
            refine VD.c (.move rfl) ?_
            refine VD.splitD (x := 67) rfl (fun g12_6 => ?_) (fun g12_6 => ?_)
            · refine VD.r [] (.ld vt95) (.inl rfl) ?_
              refine VD.call rfl rfl (VF.call (lDom_ok hdl)) ?_
              refine VD.r [] (.ld vt152) (.inl rfl) ?_
              refine VD.call rfl rfl (VF.call (lPc_ok (by first | exact hone | decide))) ?_
              refine VD.callO rfl rfl (VF.call (sChk_ok (by first | exact hone | decide))) ?_
              refine VD.nw [71, 69, 62] ?_
              refine VD.r [] (.ld vt95) (.inl rfl) ?_
              refine VD.r [] (.ld vt152) (.inl rfl) ?_
              refine VD.call rfl rfl (VF.call (rChk_ok hdl (by first | exact hone | decide))) ?_
              refine VD.c (.eql) ?_
              refine VD.c (.pickT rfl rfl) ?_
              refine VD.c (.move rfl) ?_
              refine VD.splitD (x := 78) rfl (fun g12_17 => ?_) (fun g12_17 => ?_)
              · refine VD.nw [71, 69, 62] ?_
                refine VD.r [] (.ld vt95) (.inl rfl) ?_
                refine VD.call rfl rfl (VF.call (lDom_ok hdl)) ?_
                refine VD.c (.move rfl) ?_
                refine VD.call rfl rfl (VF.call (lPcs_ok (by omega) hra)) ?_
                refine VD.callO rfl rfl (VF.call (sStore_ok (by omega) hra)) ?_
                refine VD.c (.move rfl) ?_
                refine VD.c (.eql) ?_
                refine VD.nw [82, 80, 71, 69, 62] ?_
                refine VD.c (.pickT rfl rfl) ?_
                refine VD.c (.move rfl) ?_
                refine VD.splitD (x := 87) rfl (fun g12_26 => ?_) (fun g12_26 => ?_)
                · refine VD.c (.move rfl) ?_
                  refine VD.call rfl rfl (VF.call (lTold_ok (by omega))) ?_
                  refine VD.c (.move rfl) ?_
                  refine VD.callC rfl rfl .same (.cons .same (.cons .nil .nil)) rfl (VF.call (rSame_ok (by omega) hmv.2)) ?_
                  refine VD.nw [89, 82, 80, 71, 69, 62] ?_
                  refine VD.c (.pickT rfl rfl) ?_
                  refine VD.c (.move rfl) ?_
                  refine VD.splitB (x := 93) rfl (fun g12_32 => ?_) (fun g12_32 => ?_)
                  · refine VD.c (.move rfl) ?_
                    refine VD.c (.move rfl) ?_
                    refine VD.c (.eql) ?_
                    refine VD.c (.pickT rfl rfl) ?_
                    refine VD.nw [89, 82, 80, 71, 69, 62] ?_
                    refine VD.c (.move rfl) ?_
                    refine VD.splitD (x := 98) rfl (fun g12_37 => ?_) (fun g12_37 => ?_)
                    · refine VD.call rfl rfl (VF.call (awake_ok )) ?_
                      refine VD.c (.pickT rfl rfl) ?_
                      refine VD.c (.assign rfl) ?_
                      refine VD.go ?_
                      refine VC.ret ?_
                      exact VEnd.one rfl evT (pvE (by first | rfl | exact absurd rfl g12_6 | exact absurd rfl g12_17 | exact absurd rfl g12_26 | exact absurd ((finS1 (mrg_two c10).1 (mrg_two c10).2).1.symm.trans g12_32) (by decide) | exact absurd ((finS2 c10).1.symm.trans g12_32) (by decide) | exact absurd (finS1 (mrg_two c10).1 (mrg_two c10).2).2 g12_37 | exact absurd (finS2 c10).2 g12_37))
                    · refine VD.skip ?_
                      refine VD.c (.pickF rfl rfl) ?_
                      refine VD.c (.assign rfl) ?_
                      refine VD.go ?_
                      refine VC.ret ?_
                      exact VEnd.one rfl evT (pvE (by first | rfl | exact absurd rfl g12_6 | exact absurd rfl g12_17 | exact absurd rfl g12_26 | exact absurd ((finS1 (mrg_two c10).1 (mrg_two c10).2).1.symm.trans g12_32) (by decide) | exact absurd ((finS2 c10).1.symm.trans g12_32) (by decide) | exact absurd (finS1 (mrg_two c10).1 (mrg_two c10).2).2 g12_37 | exact absurd (finS2 c10).2 g12_37))
                  · refine VD.skip ?_
                    refine VD.skip ?_
                    refine VD.skip ?_
                    refine VD.c (.pickF rfl rfl) ?_
                    refine VD.nw [89, 82, 80, 71, 69, 62] ?_
                    refine VD.c (.move rfl) ?_
                    refine VD.skip ?_
                    refine VD.c (.pickF rfl rfl) ?_
                    refine VD.c (.assign rfl) ?_
                    refine VD.go ?_
                    refine VC.ret ?_
                    exact VEnd.one rfl evT (pvE (by first | rfl | exact absurd rfl g12_6 | exact absurd rfl g12_17 | exact absurd rfl g12_26 | exact absurd ((finS1 (mrg_two c10).1 (mrg_two c10).2).1.symm.trans g12_32) (by decide) | exact absurd ((finS2 c10).1.symm.trans g12_32) (by decide) | exact absurd (finS1 (mrg_two c10).1 (mrg_two c10).2).2 g12_37 | exact absurd (finS2 c10).2 g12_37))
                · refine VD.skip ?_
                  refine VD.skip ?_
                  refine VD.skip ?_
                  refine VD.skip ?_
                  refine VD.nw [82, 80, 71, 69, 62] ?_
                  refine VD.c (.pickF rfl rfl) ?_
                  refine VD.c (.move rfl) ?_
                  refine VD.skip ?_
                  refine VD.skip ?_
                  refine VD.skip ?_
                  refine VD.c (.pickF rfl rfl) ?_
                  refine VD.c (.move rfl) ?_
                  refine VD.nw [82, 80, 71, 69, 62] ?_
                  refine VD.skip ?_
                  refine VD.c (.pickF rfl rfl) ?_
                  refine VD.c (.assign rfl) ?_
                  refine VD.go ?_
                  refine VC.ret ?_
                  exact VEnd.one rfl evT (pvE (by first | rfl | exact absurd rfl g12_6 | exact absurd rfl g12_17 | exact absurd rfl g12_26 | exact absurd ((finS1 (mrg_two c10).1 (mrg_two c10).2).1.symm.trans g12_32) (by decide) | exact absurd ((finS2 c10).1.symm.trans g12_32) (by decide) | exact absurd (finS1 (mrg_two c10).1 (mrg_two c10).2).2 g12_37 | exact absurd (finS2 c10).2 g12_37))
              · refine VD.nw [71, 69, 62] ?_
                refine VD.skip ?_
                refine VD.skip ?_
                refine VD.skip ?_
                refine VD.skip ?_
                refine VD.skip ?_
                refine VD.skip ?_
                refine VD.skip ?_
                refine VD.nw [71, 69, 62] ?_
                refine VD.c (.pickF rfl rfl) ?_
                refine VD.c (.move rfl) ?_
                refine VD.skip ?_
                refine VD.skip ?_
                refine VD.skip ?_
                refine VD.skip ?_
                refine VD.c (.pickF rfl rfl) ?_
                refine VD.nw [71, 69, 62] ?_
                refine VD.c (.move rfl) ?_
                refine VD.skip ?_
                refine VD.skip ?_
                refine VD.skip ?_
                refine VD.c (.pickF rfl rfl) ?_
                refine VD.c (.move rfl) ?_
                refine VD.skip ?_
                refine VD.nw [71, 69, 62] ?_
                refine VD.c (.pickF rfl rfl) ?_
                refine VD.c (.assign rfl) ?_
                refine VD.go ?_
                refine VC.ret ?_
                exact VEnd.one rfl evT (pvE (by first | rfl | exact absurd rfl g12_6 | exact absurd rfl g12_17 | exact absurd rfl g12_26 | exact absurd ((finS1 (mrg_two c10).1 (mrg_two c10).2).1.symm.trans g12_32) (by decide) | exact absurd ((finS2 c10).1.symm.trans g12_32) (by decide) | exact absurd (finS1 (mrg_two c10).1 (mrg_two c10).2).2 g12_37 | exact absurd (finS2 c10).2 g12_37))
            · refine VD.skip ?_
              refine VD.skip ?_
              refine VD.skip ?_
              refine VD.skip ?_
              refine VD.skip ?_
              refine VD.nw [62] ?_
              refine VD.skip ?_
              refine VD.skip ?_
              refine VD.skip ?_
              refine VD.skip ?_
              refine VD.c (.pickF rfl rfl) ?_
              refine VD.c (.move rfl) ?_
              refine VD.skip ?_
              refine VD.nw [62] ?_
              refine VD.skip ?_
              refine VD.skip ?_
              refine VD.skip ?_
              refine VD.skip ?_
              refine VD.skip ?_
              refine VD.skip ?_
              refine VD.c (.pickF rfl rfl) ?_
              refine VD.nw [62] ?_
              refine VD.c (.move rfl) ?_
              refine VD.skip ?_
              refine VD.skip ?_
              refine VD.skip ?_
              refine VD.skip ?_
              refine VD.c (.pickF rfl rfl) ?_
              refine VD.c (.move rfl) ?_
              refine VD.nw [62] ?_
              refine VD.skip ?_
              refine VD.skip ?_
              refine VD.skip ?_
              refine VD.c (.pickF rfl rfl) ?_
              refine VD.c (.move rfl) ?_
              refine VD.skip ?_
              refine VD.c (.pickF rfl rfl) ?_
              refine VD.nw [62] ?_
              refine VD.c (.assign rfl) ?_
              refine VD.go ?_
              refine VC.ret ?_
              exact VEnd.one rfl evT (pvE (by first | rfl | exact absurd rfl g12_6 | exact absurd rfl g12_17 | exact absurd rfl g12_26 | exact absurd ((finS1 (mrg_two c10).1 (mrg_two c10).2).1.symm.trans g12_32) (by decide) | exact absurd ((finS2 c10).1.symm.trans g12_32) (by decide) | exact absurd (finS1 (mrg_two c10).1 (mrg_two c10).2).2 g12_37 | exact absurd (finS2 c10).2 g12_37))
end Go.Proofs
