/- Contracts of functions of the program, over the evaluator: what each answers. Conditions: those in each statement. -/
import Derived.Test.YtednnfllcafliaaGreatDoorP5
set_option linter.all false
namespace Go.Proofs
open Go.Fs
set_option linter.unusedVariables false
theorem vt56 : ValT Tryz.prog 56 (.pair (.int .i64) (.int .i64)) := valT_of (by kernel_rfl)
theorem exceedB_ok {l : List (Int × List Int)} {a : Int} {s : Int × Int} (h : exceedB l a s = 0) : OkE l ∧ (0 ≤ s.1 ∧ s.1 ≤ s.2 ∧ s.2 ≤ (len0 l : Nat)) := by
  rw [exceedB, firstE_zero] at h
  have h1 := h _ (by simp : ensembleE l ∈ _)
  have h2 := h _ (by simp : spanE s (len0 l : Nat) ∈ _)
  refine ⟨ensembleE_ok h1, ?_⟩
  unfold spanE at h2
  by_cases h3 : s.1 < 0 ∨ s.2 < s.1 ∨ (len0 l : Nat) < s.2
  · rw [if_pos h3] at h2; simp at h2
  · omega
theorem exceed_one {l : List (Int × List Int)} {a : Int} {s : Int × Int} {n : Nat} (h7 : ensembleE l = 0) (e0 : n = len0 l) : exceedB l a s = firstE [rangeE a (-1048576) 1048576, spanE s (n : Nat)] := by
  rw [exceedB, firstE, if_pos h7, e0]
theorem exceed_no {l : List (Int × List Int)} {a : Int} {s : Int × Int} (h7 : ¬ ensembleE l = 0) : exceedB l a s = ensembleE l := by rw [exceedB, firstE, if_neg h7]
theorem firstE_nest {a b c : Int} : firstE [a, firstE [b, c]] = firstE [a, b, c] := by
  simp only [firstE]
  by_cases h1 : a = 0 <;> by_cases h2 : b = 0 <;> by_cases h3 : c = 0 <;> simp [h1, h2, h3]
theorem quant_one {l : List (Int × List Int)} {i : Int} {s : Int × Int} {n : Nat} (h7 : ensembleE l = 0) (e0 : n = len0 l) (hg : i < 0) : quantB l i s = firstE [whenE true 10, shareE s] := by
  rw [quant_two, if_pos h7, whenE_or1 hg, shareE, firstE_nest]
theorem quant_one2 {l : List (Int × List Int)} {i : Int} {s : Int × Int} {n : Nat} (h7 : ensembleE l = 0) (e0 : n = len0 l) (hg : ¬ i < 0) : quantB l i s = firstE [whenE (decide ((n : Nat) ≤ i)) 10, shareE s] := by
  rw [quant_two, if_pos h7, ← e0, whenE_or2 hg, shareE, firstE_nest]
theorem quant_no {l : List (Int × List Int)} {i : Int} {s : Int × Int} (h7 : ¬ ensembleE l = 0) : quantB l i s = ensembleE l := by rw [quant_two, if_neg h7]
theorem ratio_fin {l : List (Int × List Int)} {a one : Int} {s want : Int × Int} (h : exceedB l a s = one) (hw : one = 0 → want = exceedE l a s) : ratioL (if exceedB l a s = 0 then exceedE l a s else (0, 0)) (exceedB l a s) one want = true := by
  subst h
  refine decide_eq_true ⟨rfl, ?_⟩
  by_cases h : exceedB l a s = 0
  · rw [if_pos h, if_pos h, hw h]
  · rw [if_neg h, if_neg h]
theorem number_fin {l : List (Int × List Int)} {i two want : Int} {s : Int × Int} (h : quantB l i s = two) (hw : two = 0 → want = quantE l i.toNat s) : numberL (if quantB l i s = 0 then quantE l i.toNat s else 0) (quantB l i s) two want = true := by
  subst h
  refine decide_eq_true ⟨rfl, ?_⟩
  by_cases h : quantB l i s = 0
  · rw [if_pos h, if_pos h, hw h]
  · rw [if_neg h, if_neg h]
theorem law3_ok {h : Heap} {S : List Nat} {v0 : Value} {l : List (Int × (List Int))} {x : Int × (Int × Int) × Int × (Int × Int)} (hok : HOk h) (hS : ∀ b ∈ S, b < h.next) (ha0 : SlV h S (.pair (.int .i64) (.sl (.int .i64))) v0 l) : EvF Tryz.prog OA 5 [v0, .agg #[.int .i64 x.1, .int .i64 x.2.1.1, .int .i64 x.2.1.2, .int .i64 x.2.2.1, .int .i64 x.2.2.2.1, .int .i64 x.2.2.2.2]] h fun r h' => r = .bool true ∧ h' = h := by
  refine XF.enter Tryz.func5 rfl rfl rfl ?_
  have hok : HOk (entry h) := hok
  have hA := After.refl (entry h)
  replace ha0 := ha0.entry
  show XC Tryz.prog OA none _ _ [] [(0, v0), (1, .agg #[.int .i64 x.1, .int .i64 x.2.1.1, .int .i64 x.2.1.2, .int .i64 x.2.2.1, .int .i64 x.2.2.2.1, .int .i64 x.2.2.2.2])] (entry h) _
  refine XC.seq ?_
  refine XC.text ?_
  refine XO.boxR rfl (show RepV _ _ (.pair (.int .i64) (.pair (.pair (.int .i64) (.int .i64)) (.pair (.int .i64) (.pair (.int .i64) (.int .i64))))) _ x from ⟨rfl, ⟨rfl, ⟨⟨rfl, rfl⟩, ⟨rfl, ⟨rfl, rfl⟩⟩⟩⟩⟩) (hA.ok hok) (hA.inS hS) rfl rfl ?_
  intro p101 h101 b101 a101
  have ok102 := hA.ok hok
  have gg102 : Goes (entry h) S h101 S := a101.nx ok102
  replace hA := hA.trans a101
  replace ha0 := ha0.nx gg102
  refine XO.c (.assign rfl) rfl rfl ?_
  refine XO.nil (thenC.go ?_)
  refine XC.seq ?_
  refine XC.seq ?_
  refine XC.text ?_
  refine XO.c (.move rfl) rfl rfl ?_
  refine XO.call rfl rfl rfl rfl ?_
  refine EvF.mono (rShortC_ok (hA.ok hok) (hA.inS hS) ha0 ) ?_
  rintro _ _ ⟨rfl, hh⟩
  obtain rfl := hh.symm
  clear hh
  refine XO.c (.not rfl) rfl rfl ?_
  refine XO.nil (thenC.go ?_)
  refine XC.condB rfl (fun c1 => ?_) (fun c1 => ?_)
  · refine XC.seq ?_
    refine XC.text ?_
    refine XO.call rfl rfl rfl rfl ?_
    refine EvF.mono (awake_ok  ) ?_
    rintro _ _ ⟨rfl, hh⟩
    obtain rfl := hh.symm
    clear hh
    refine XO.c (.assign rfl) rfl rfl ?_
    refine XO.nil (thenC.go ?_)
    refine XC.ret fun tf htf => ?_
    refine thenC_ret ?_
    refine endF.one rfl rfl (htf 4 _ rfl) ?_
    exact ⟨congrArg Value.bool (by first | rfl | exact absurd rfl g16_5 | exact absurd ((ratio_fin (exceed_one c7 e0) (fun _ => rfl)).symm.trans g16_12) (by decide) | exact absurd ((ratio_fin (exceed_one c7 e0) (fun h => absurd h c12)).symm.trans g16_12) (by decide) | exact absurd ((ratio_fin (exceed_no c7) (fun _ => rfl)).symm.trans g16_12) (by decide) | exact absurd ((ratio_fin (exceed_no c7) (fun h => absurd h c12)).symm.trans g16_12) (by decide) | exact absurd ((number_fin (quant_one c7 e0 g9_3) (fun _ => rfl)).symm.trans g16_19) (by decide) | exact absurd ((number_fin (quant_one c7 e0 g9_3) (fun h => absurd h c14)).symm.trans g16_19) (by decide) | exact absurd ((number_fin (quant_one2 c7 e0 g9_3) (fun _ => rfl)).symm.trans g16_19) (by decide) | exact absurd ((number_fin (quant_one2 c7 e0 g9_3) (fun h => absurd h c14)).symm.trans g16_19) (by decide) | exact absurd ((number_fin (quant_no c7) (fun _ => rfl)).symm.trans g16_19) (by decide) | exact absurd ((number_fin (quant_no c7) (fun h => absurd h c14)).symm.trans g16_19) (by decide)), hA.leftAf rfl⟩
  · have hs : shortCE l = true := by simpa using c1
    have hs1 := of_decide_eq_true hs
    have hs2 := hs1.1
    have hc : ∀ c ∈ l, c.2.length < 100000 := fun c hc => by have := hs1.2 c hc; omega
    refine XC.skip (thenC.go ?_)
    refine XC.seq ?_
    refine XC.drawn ?_
    have hkr105 := hA.ok hok
    have hSr105 := (hA.inS hS)
    refine XD.c (b := 0) (.move rfl) rfl rfl rfl ?_
    refine XD.callU (bb := 1) (After.refl _) SegsOk.nil hkr105 rfl rfl rfl rfl rfl rfl ?_
    intro M106 aM106 kM106 nM106 sM106 oM106
    refine EvF.mono (lCourses_ok kM106 (by first | exact aM106.inS hSr105 | exact (hA.inS hS)) (ha0.nx (aM106.nx hkr105)) (by omega) hc) ?_
    rintro u106 hM106 ⟨a106, s106⟩
    refine ⟨a106, ?_⟩
    clear a106
    intro h106 a106 gM106
    replace s106 := s106.nx (gM106 _)
    have ha0o := ha0
    have b101o := b101
    have rg105 : Goes h101 S h101 S := Goes.refl
    have ra105 := After.refl h101
    have ok107 := hA.ok hok
    have gg107 : Goes h101 S h106 S := a106.nx ok107
    replace hA := hA.trans a106
    replace ha0 := ha0.nx gg107
    replace b101 := b101.nx gg107
    replace rg105 := rg105.trans gg107
    have ra105_106 := ra105.trans a106
    refine XD.c (b := 0) (.fieldAddr rfl ((b101).fa (f := 0) (k := 0) (by kernel_rfl))) rfl rfl rfl ?_
    refine XD.ld (b := 4) ra105_106 (SegsOk.cons (ra105).next SegsOk.nil) hkr105 rfl (((b101o).base.fst').ldInt vt3) rfl rfl rfl rfl ?_
    refine XD.c (b := 0) (.fieldAddr rfl ((b101).fa (f := 1) (k := 1) (by kernel_rfl))) rfl rfl rfl ?_
    obtain ⟨u108, e108, r108⟩ := (((b101).base.snd' (m := 1) rfl (b101).isP).fst').ldV vt56
    obtain ⟨c109_0, c109_1, rfl, r109_0, r109_1⟩ := r108.st2 rfl rfl
    obtain rfl := r109_0.int
    obtain rfl := r109_1.int
    obtain ⟨u110, e110, r110⟩ := (((b101o).base.snd' (m := 1) rfl (b101o).isP).fst').ldV vt56
    obtain ⟨c111_0, c111_1, rfl, r111_0, r111_1⟩ := r110.st2 rfl rfl
    obtain rfl := r111_0.int
    obtain rfl := r111_1.int
    refine XD.ld (b := 16) ra105_106 (SegsOk.cons (ra105_106).next (SegsOk.cons (ra105).next SegsOk.nil)) hkr105 rfl (e110) rfl rfl rfl rfl ?_
    refine XD.callV (bb := 63) ra105_106 (SegsOk.cons (ra105_106).next (SegsOk.cons (ra105_106).next (SegsOk.cons (ra105).next SegsOk.nil))) rfl rfl rfl rfl rfl rfl ?_
    intro M112 aM112 oM112
    obtain rfl := oM112 rfl
    refine EvF.mono (sExceed_ok (hA.ok hok) (hA.inS hS) (s106).entry (s := x.2.1) hc) ?_
    rintro _ _ ⟨rfl, hh⟩
    refine ⟨hh, ?_⟩
    clear hh
    refine XD.c (b := 127) (.move rfl) rfl rfl rfl ?_
    refine XD.c (b := 255) (.extract rfl (junk2 _ _) rfl) rfl rfl rfl ?_
    refine XD.c (b := 255) (.extract rfl (junk2 _ _) rfl) rfl rfl rfl ?_
    refine XD.allocB (b := 0) (z := .agg #[.int .i64 0, .int .i64 0]) (by kernel_rfl) rfl rfl hA hok rfl rfl rfl rfl ?_
    intro p113 h113 b113 a113 gs113
    have ok114 := hA.ok hok
    have gg114 : Goes h106 S h113 (ownP p113 ++ S) := gs113 _
    replace hA := hA.trans a113
    replace ha0 := ha0.nx gg114
    replace b101 := b101.nx gg114
    replace s106 := s106.nx gg114
    replace rg105 := rg105.trans gg114
    have ra105_113 := ra105_106.trans a113
    obtain ⟨h115, e115, b115, a115, n115, nn115, fr115, lw115⟩ := (b113.objs (h' := (entry h113)) fun _ => rfl).st0 (S := S) (h0 := (entry h)) (u := .agg #[.int .i64 ((if exceedB l x.1 x.2.1 = 0 then exceedE l x.1 x.2.1 else (0, 0)).1), .int .i64 ((if exceedB l x.1 x.2.1 = 0 then exceedE l x.1 x.2.1 else (0, 0)).2)]) vt58 rfl rfl (Nat.le_of_ble_eq_true rfl) (One.oneAll ⟨⟨rfl, rfl⟩, ⟨⟨rfl, rfl⟩, trivial⟩⟩) hA.toEntry (show HOk (entry h113) from hA.ok hok)
    refine XD.st (b := 1535) rfl rfl e115 rfl rfl (hA.ok hok) nn115 (a115.ok hok) (fun hl => absurd hl (by have := lw115; simp only [entry] at this; omega)) ?_
    intro hh115 tt115 o115 nx115 la115
    have ah115 := la115 _ hA a115
    replace b115 := b115.objs o115
    have gh115 : Goes h113 (ownP p113 ++ S) hh115 (ownP p113 ++ S) := (show Goes h113 (ownP p113 ++ S) (entry h113) (ownP p113 ++ S) from Goes.objs fun _ => rfl).trans (n115.trans (Goes.objs o115))
    replace fr115 : ∀ b, b ∉ ownP p113 → hh115.get b = h113.get b := fun b hb => (o115 b).trans (fr115 b hb)
    have ok116 := hA.ok hok
    have gg116 : Goes h113 (ownP p113 ++ S) hh115 (ownP p113 ++ S) := gh115
    replace hA := ah115
    replace ha0 := ha0.nx gg116
    replace b101 := b101.nx gg116
    replace s106 := s106.nx gg116
    refine XD.c (b := 4095) (.assign rfl) rfl rfl rfl ?_
    refine XD.nil (thenC.go ?_)
    refine XC.seq ?_
    refine XC.drawn ?_
    have hkr117 := hA.ok hok
    have hSr117 := (b115.inS (hA.ok hok) (hA.inS hS))
    refine XD.c (b := 0) (.move rfl) rfl rfl rfl ?_
    refine XD.callU (bb := 1) (After.refl _) SegsOk.nil hkr117 rfl rfl rfl rfl rfl rfl ?_
    intro M118 aM118 kM118 nM118 sM118 oM118
    refine EvF.mono (lCourses_ok kM118 (by first | exact aM118.inS hSr117 | exact (b115.inS (hA.ok hok) (hA.inS hS))) (ha0.nx (aM118.nx hkr117)) (by omega) hc) ?_
    rintro u118 hM118 ⟨a118, s118⟩
    refine ⟨a118, ?_⟩
    clear a118
    intro h118 a118 gM118
    replace s118 := s118.nx (gM118 _)
    have ha0o := ha0
    have b101o := b101
    have s106o := s106
    have rg117 : Goes hh115 (ownP p113 ++ S) hh115 (ownP p113 ++ S) := Goes.refl
    have ra117 := After.refl hh115
    have ok119 := hA.ok hok
    have gg119 : Goes hh115 (ownP p113 ++ S) h118 (ownP p113 ++ S) := a118.nx ok119
    replace hA := hA.trans a118
    replace ha0 := ha0.nx gg119
    replace b101 := b101.nx gg119
    replace s106 := s106.nx gg119
    replace b115 := b115.keep a118 ok119
    replace rg117 := rg117.trans gg119
    have ra117_118 := ra117.trans a118
    refine XD.c (b := 0) (.fieldAddr rfl ((b101).fa (f := 2) (k := 3) (by kernel_rfl))) rfl rfl rfl ?_
    refine XD.ld (b := 4) ra117_118 (SegsOk.cons (ra117).next SegsOk.nil) hkr117 rfl (((((b101o).base.snd' (m := 1) rfl (b101o).isP).snd' (m := 3) rfl (b101o).isP).fst').ldInt vt3) rfl rfl rfl rfl ?_
    refine XD.c (b := 0) (.fieldAddr rfl ((b101).fa (f := 3) (k := 4) (by kernel_rfl))) rfl rfl rfl ?_
    obtain ⟨u120, e120, r120⟩ := (((((b101).base.snd' (m := 1) rfl (b101).isP).snd' (m := 3) rfl (b101).isP).snd' (m := 4) rfl (b101).isP)).ldV vt58
    obtain ⟨c121_0, c121_1, rfl, r121_0, r121_1⟩ := r120.st2 rfl rfl
    obtain rfl := r121_0.int
    obtain rfl := r121_1.int
    obtain ⟨u122, e122, r122⟩ := (((((b101o).base.snd' (m := 1) rfl (b101o).isP).snd' (m := 3) rfl (b101o).isP).snd' (m := 4) rfl (b101o).isP)).ldV vt58
    obtain ⟨c123_0, c123_1, rfl, r123_0, r123_1⟩ := r122.st2 rfl rfl
    obtain rfl := r123_0.int
    obtain rfl := r123_1.int
    refine XD.ld (b := 16) ra117_118 (SegsOk.cons (ra117_118).next (SegsOk.cons (ra117).next SegsOk.nil)) hkr117 rfl (e122) rfl rfl rfl rfl ?_
    refine XD.callV (bb := 63) ra117_118 (SegsOk.cons (ra117_118).next (SegsOk.cons (ra117_118).next (SegsOk.cons (ra117).next SegsOk.nil))) rfl rfl rfl rfl rfl rfl ?_
    intro M124 aM124 oM124
    obtain rfl := oM124 rfl
    refine EvF.mono (sQuantile_ok (hA.ok hok) (b115.inS (hA.ok hok) (hA.inS hS)) (s118).entry (s := x.2.2.2) hc (by omega)) ?_
    rintro _ _ ⟨rfl, hh⟩
    refine ⟨hh, ?_⟩
    clear hh
    refine XD.c (b := 127) (.move rfl) rfl rfl rfl ?_
    refine XD.c (b := 255) (.extract rfl (junk2 _ _) rfl) rfl rfl rfl ?_
    refine XD.c (b := 255) (.extract rfl (junk2 _ _) rfl) rfl rfl rfl ?_
    refine XD.c (b := 511) (.assign rfl) rfl rfl rfl ?_
    refine XD.c (b := 2047) (.assign rfl) rfl rfl rfl ?_
    refine XD.nil (thenC.go ?_)
    refine XC.seq ?_
    refine XC.text ?_
    refine XO.c (.move rfl) rfl rfl ?_
    refine XO.call rfl rfl rfl rfl ?_
    refine EvF.mono (rEnsemble_ok (hA.ok hok) (b115.inS (hA.ok hok) (hA.inS hS)) ha0 hc) ?_
    rintro _ _ ⟨rfl, hh⟩
    obtain rfl := hh.symm
    clear hh
    refine XO.c (.assign rfl) rfl rfl ?_
    refine XO.nil (thenC.go ?_)
    refine XC.seq ?_
    refine XC.text ?_
    refine XO.c (.move rfl) rfl rfl ?_
    refine XO.c (.move rfl) rfl rfl ?_
    refine XO.c (.assign rfl) rfl rfl ?_
    refine XO.c (.assign rfl) rfl rfl ?_
    refine XO.nil (thenC.go ?_)
    refine XC.seq ?_
    refine XC.seq ?_
    refine XC.text ?_
    refine XO.c (.move rfl) rfl rfl ?_
    refine XO.c (.eql rfl rfl) rfl rfl ?_
    refine XO.nil (thenC.go ?_)
    refine XC.condD rfl (fun c7 => ?_) (fun c7 => ?_)
    · have hE := ensembleE_ok c7
      have hp := hE.pos
      have e0 := len0_eq hE.pos
      refine XC.seq ?_
      refine XC.drawn ?_
      have hkr126 := hA.ok hok
      have hSr126 := (b115.inS (hA.ok hok) (hA.inS hS))
      refine XD.c (b := 0) (.fieldAddr rfl ((b101).fa (f := 0) (k := 0) (by kernel_rfl))) rfl rfl rfl ?_
      refine XD.ld (b := 1) (After.refl _) SegsOk.nil hkr126 rfl (((b101).base.fst').ldInt vt3) rfl rfl rfl rfl ?_
      refine XD.callV (bb := 3) (After.refl _) (SegsOk.cons ((After.refl _)).next SegsOk.nil) rfl rfl rfl rfl rfl rfl ?_
      intro M127 aM127 oM127
      refine EvF.mono (rCheckRange_ok (aM127.ok hkr126) (aM127.inS hSr126)  ) ?_
      rintro _ _ ⟨rfl, hh⟩
      refine ⟨hh, ?_⟩
      clear hh
      refine XD.c (b := 0) (.fieldAddr rfl ((b101).fa (f := 1) (k := 1) (by kernel_rfl))) rfl rfl rfl ?_
      obtain ⟨u128, e128, r128⟩ := (((b101).base.snd' (m := 1) rfl (b101).isP).fst').ldV vt56
      obtain ⟨c129_0, c129_1, rfl, r129_0, r129_1⟩ := r128.st2 rfl rfl
      obtain rfl := r129_0.int
      obtain rfl := r129_1.int
      refine XD.ld (b := 8) (After.refl _) (SegsOk.cons ((After.refl _)).next (SegsOk.cons ((After.refl _)).next SegsOk.nil)) hkr126 rfl (e128) rfl rfl rfl rfl ?_
      refine XD.c (b := 0) (.move rfl) rfl rfl rfl ?_
      refine XD.c (b := 32) (.indexAddr rfl rfl rfl (ha0.ix (j := 0) el54 (by omega))) rfl rfl rfl ?_
      refine XD.c (b := 96) (.fieldAddr rfl (((ha0.at (j := 0) (by omega))).fa (f := 1) (k := 1) (by kernel_rfl))) rfl rfl rfl ?_
      obtain ⟨u130, e130, s130⟩ := ((((ha0.at (j := 0) (by omega))).base.snd' (m := 1) rfl ((ha0.at (j := 0) (by omega))).isP)).ldSl vt22
      refine XD.ld (b := 224) (After.refl _) (SegsOk.cons ((After.refl _)).next (SegsOk.cons ((After.refl _)).next (SegsOk.cons ((After.refl _)).next SegsOk.nil))) hkr126 rfl (e130) rfl rfl rfl rfl ?_
      refine XD.a (b := 480) rfl (.len rfl (s130.len el22)) rfl rfl rfl rfl ?_
      refine XD.callV (bb := 1023) (After.refl _) (SegsOk.cons ((After.refl _)).next (SegsOk.cons ((After.refl _)).next (SegsOk.cons ((After.refl _)).next (SegsOk.cons ((After.refl _)).next (SegsOk.cons ((After.refl _)).next SegsOk.nil))))) rfl rfl rfl rfl rfl rfl ?_
      intro M131 aM131 oM131
      refine EvF.mono (rSpan_ok (aM131.ok hkr126) (aM131.inS hSr126)  (s := x.2.1) ) ?_
      rintro _ _ ⟨rfl, hh⟩
      refine ⟨hh, ?_⟩
      clear hh
      refine XD.lit (b := 2047) (h := h118) (S := (ownP p113 ++ S)) (τ := (.int .i64)) (vsC (RepV.ofInt .i64 _) (vs1 (RepV.ofInt .i64 _))) el22 rfl rfl rfl (by simp) (by simp) (by decide) (hA.ok hok) (b115.inS (hA.ok hok) (hA.inS hS)) rfl rfl rfl rfl ?_
      intro w132 h132 s132 a132
      have ha0o := ha0
      have b101o := b101
      have s106o := s106
      have s118o := s118
      have s130o := s130
      have rg126 : Goes h118 (ownP p113 ++ S) h118 (ownP p113 ++ S) := Goes.refl
      have ra126 := After.refl h118
      have ok133 := hA.ok hok
      have gg133 : Goes h118 (ownP p113 ++ S) h132 (ownP p113 ++ S) := a132.nx ok133
      replace hA := hA.trans a132
      replace ha0 := ha0.nx gg133
      replace b101 := b101.nx gg133
      replace s106 := s106.nx gg133
      replace s118 := s118.nx gg133
      replace s130 := s130.nx gg133
      replace b115 := b115.keep a132 ok133
      replace rg126 := rg126.trans gg133
      have ra126_132 := ra126.trans a132
      refine XD.callV (bb := 4095) ra126_132 (SegsOk.cons (ra126).next (SegsOk.cons ((After.refl _)).next (SegsOk.cons ((After.refl _)).next (SegsOk.cons ((After.refl _)).next (SegsOk.cons ((After.refl _)).next (SegsOk.cons ((After.refl _)).next (SegsOk.cons ((After.refl _)).next SegsOk.nil))))))) rfl rfl rfl rfl rfl rfl ?_
      intro M134 aM134 oM134
      obtain rfl := oM134 rfl
      refine EvF.mono (lFirst_ok (hA.ok hok) (b115.inS (hA.ok hok) (hA.inS hS)) (s132).entry (by simp)) ?_
      rintro _ _ ⟨rfl, hh⟩
      refine ⟨hh, ?_⟩
      clear hh
      refine XD.c (b := 8191) (.assign rfl) rfl rfl rfl ?_
      refine XD.nil (thenC.go ?_)
      refine XC.drawn ?_
      have hkr135 := hA.ok hok
      have hSr135 := (b115.inS (hA.ok hok) (hA.inS hS))
      refine XD.c (b := 0) (.fieldAddr rfl ((b101).fa (f := 2) (k := 3) (by kernel_rfl))) rfl rfl rfl ?_
      refine XD.ld (b := 1) (After.refl _) SegsOk.nil hkr135 rfl (((((b101).base.snd' (m := 1) rfl (b101).isP).snd' (m := 3) rfl (b101).isP).fst').ldInt vt3) rfl rfl rfl rfl ?_
      refine XD.c (b := 3) (.lss rfl rfl) rfl rfl rfl ?_
      refine XD.c (b := 7) (.move rfl) rfl rfl rfl ?_
      refine XD.splitD (x := 60) rfl (fun g9_3 => ?_) (fun g9_3 => ?_)
      · refine XD.skip (b := 15) rfl rfl rfl rfl rfl rfl ?_
        refine XD.skip (b := 31) rfl rfl rfl rfl rfl rfl ?_
        refine XD.skip (b := 15) rfl rfl rfl rfl rfl rfl ?_
        refine XD.skip (b := 79) rfl rfl rfl rfl rfl rfl ?_
        refine XD.skip (b := 207) rfl rfl rfl rfl rfl rfl ?_
        refine XD.skip (b := 463) rfl rfl rfl rfl rfl rfl ?_
        refine XD.skip (b := 975) rfl rfl rfl rfl rfl rfl ?_
        refine XD.skip (b := 2047) rfl rfl rfl rfl rfl rfl ?_
        refine XD.c (b := 4095) (.pickT rfl rfl) rfl rfl rfl ?_
        refine XD.callV (bb := 8191) (After.refl _) (SegsOk.cons ((After.refl _)).next SegsOk.nil) rfl rfl rfl rfl rfl rfl ?_
        intro M136 aM136 oM136
        refine EvF.mono (lWhen_ok (aM136.ok hkr135) (aM136.inS hSr135)  ) ?_
        rintro _ _ ⟨rfl, hh⟩
        refine ⟨hh, ?_⟩
        clear hh
        refine XD.c (b := 0) (.fieldAddr rfl ((b101).fa (f := 3) (k := 4) (by kernel_rfl))) rfl rfl rfl ?_
        obtain ⟨u137, e137, r137⟩ := (((((b101).base.snd' (m := 1) rfl (b101).isP).snd' (m := 3) rfl (b101).isP).snd' (m := 4) rfl (b101).isP)).ldV vt58
        obtain ⟨c138_0, c138_1, rfl, r138_0, r138_1⟩ := r137.st2 rfl rfl
        obtain rfl := r138_0.int
        obtain rfl := r138_1.int
        refine XD.ld (b := 16384) (After.refl _) (SegsOk.cons ((After.refl _)).next (SegsOk.cons ((After.refl _)).next SegsOk.nil)) hkr135 rfl (e137) rfl rfl rfl rfl ?_
        refine XD.callV (bb := 65535) (After.refl _) (SegsOk.cons ((After.refl _)).next (SegsOk.cons ((After.refl _)).next (SegsOk.cons ((After.refl _)).next SegsOk.nil))) rfl rfl rfl rfl rfl rfl ?_
        intro M139 aM139 oM139
        refine EvF.mono (rShare_ok (aM139.ok hkr135) (aM139.inS hSr135)  (q := x.2.2.2) ) ?_
        rintro _ _ ⟨rfl, hh⟩
        refine ⟨hh, ?_⟩
        clear hh
        refine XD.lit (b := 131071) (h := h132) (S := (ownP p113 ++ S)) (τ := (.int .i64)) (vsC (RepV.ofInt .i64 _) (vs1 (RepV.ofInt .i64 _))) el22 rfl rfl rfl (by simp) (by simp) (by decide) (hA.ok hok) (b115.inS (hA.ok hok) (hA.inS hS)) rfl rfl rfl rfl ?_
        intro w140 h140 s140 a140
        have ha0o := ha0
        have b101o := b101
        have s106o := s106
        have s118o := s118
        have s130o := s130
        have s132o := s132
        have rg135 : Goes h132 (ownP p113 ++ S) h132 (ownP p113 ++ S) := Goes.refl
        have ra135 := After.refl h132
        have ok141 := hA.ok hok
        have gg141 : Goes h132 (ownP p113 ++ S) h140 (ownP p113 ++ S) := a140.nx ok141
        replace hA := hA.trans a140
        replace ha0 := ha0.nx gg141
        replace b101 := b101.nx gg141
        replace s106 := s106.nx gg141
        replace s118 := s118.nx gg141
        replace s130 := s130.nx gg141
        replace s132 := s132.nx gg141
        replace b115 := b115.keep a140 ok141
        replace rg135 := rg135.trans gg141
        have ra135_140 := ra135.trans a140
        refine XD.callV (bb := 262143) ra135_140 (SegsOk.cons (ra135).next (SegsOk.cons ((After.refl _)).next (SegsOk.cons ((After.refl _)).next (SegsOk.cons ((After.refl _)).next (SegsOk.cons ((After.refl _)).next SegsOk.nil))))) rfl rfl rfl rfl rfl rfl ?_
        intro M142 aM142 oM142
        obtain rfl := oM142 rfl
        refine EvF.mono (lFirst_ok (hA.ok hok) (b115.inS (hA.ok hok) (hA.inS hS)) (s140).entry (by simp)) ?_
        rintro _ _ ⟨rfl, hh⟩
        refine ⟨hh, ?_⟩
        clear hh
        refine XD.c (b := 524287) (.assign rfl) rfl rfl rfl ?_
        refine XD.nil (thenC.go ?_)
        refine XC.seq ?_
        refine XC.text ?_
        have iq143 := (b115.inS (hA.ok hok) (hA.inS hS))
        refine XO.allocF (z := .agg #[.int .i64 0, .int .i64 0]) (by kernel_rfl) rfl rfl hA hok rfl rfl ?_
        intro p143 h143 b143 a143 gs143 fq143
        have dj143_0 := apart (q := ownP p113) fq143 (fun b hb => iq143 b (by simp [hb]))
        have ok144 := hA.ok hok
        have gg144 : Goes h140 (ownP p113 ++ S) h143 (ownP p143 ++ (ownP p113 ++ S)) := gs143 _
        replace hA := hA.trans a143
        replace ha0 := ha0.nx gg144
        replace b101 := b101.nx gg144
        replace s106 := s106.nx gg144
        replace s118 := s118.nx gg144
        replace s130 := s130.nx gg144
        replace s132 := s132.nx gg144
        replace s140 := s140.nx gg144
        replace b115 := b115.keep a143 ok144
        refine XO.nil (thenC.go ?_)
        refine XC.seq ?_
        refine XC.text ?_
        refine XO.c (.assign rfl) rfl rfl ?_
        refine XO.nil (thenC.go ?_)
        refine XC.seq ?_
        refine XC.seq ?_
        refine XC.text ?_
        refine XO.c (.move rfl) rfl rfl ?_
        refine XO.c (.eql rfl rfl) rfl rfl ?_
        refine XO.nil (thenC.go ?_)
        refine XC.condD rfl (fun c12 => ?_) (fun c12 => ?_)
        · have hX := (by first | exact absurd c12 c7 | exact exceedB_ok ((exceed_one c7 e0).trans c12) : OkE l ∧ (0 ≤ x.2.1.1 ∧ x.2.1.1 ≤ x.2.1.2 ∧ x.2.1.2 ≤ (len0 l : Nat)))
          refine XC.text ?_
          refine XO.c (.move rfl) rfl rfl ?_
          refine XO.c (.fieldAddr rfl ((b101).fa (f := 0) (k := 0) (by kernel_rfl))) rfl rfl ?_
          refine XO.r (.load rfl (((b101).base.fst').ldInt vt3)) rfl rfl ?_
          refine XO.c (.fieldAddr rfl ((b101).fa (f := 1) (k := 1) (by kernel_rfl))) rfl rfl ?_
          obtain ⟨u145, e145, r145⟩ := (((b101).base.snd' (m := 1) rfl (b101).isP).fst').ldV vt56
          obtain ⟨c146_0, c146_1, rfl, r146_0, r146_1⟩ := r145.st2 rfl rfl
          obtain rfl := r146_0.int
          obtain rfl := r146_1.int
          refine XO.r (.load rfl (e145)) rfl rfl ?_
          refine XO.call rfl rfl rfl rfl ?_
          refine EvF.mono (rExceed_ok (hA.ok hok) (b143.inS (hA.ok hok) (b115.inS (hA.ok hok) (hA.inS hS))) ha0 (s := x.2.1) hX.1 hX.2) ?_
          rintro _ _ ⟨rfl, hh⟩
          obtain rfl := hh.symm
          clear hh
          obtain ⟨h148, e148, b148, a148, n148, nn148, fr148, lw148⟩ := b143.st0 (S := (ownP p113 ++ S)) (h0 := (entry h)) (u := .agg #[.int .i64 ((exceedE l x.1 x.2.1).1), .int .i64 ((exceedE l x.1 x.2.1).2)]) vt58 rfl rfl (Nat.le_of_ble_eq_true rfl) (One.oneAll ⟨⟨rfl, rfl⟩, ⟨⟨rfl, rfl⟩, trivial⟩⟩) hA (show HOk h143 from hA.ok hok)
          refine XO.st rfl rfl e148 ?_
          have ok149 := hA.ok hok
          have gg149 : Goes h143 (ownP p143 ++ (ownP p113 ++ S)) h148 (ownP p143 ++ (ownP p113 ++ S)) := n148
          replace hA := a148
          replace ha0 := ha0.nx gg149
          replace b101 := b101.nx gg149
          replace s106 := s106.nx gg149
          replace s118 := s118.nx gg149
          replace s130 := s130.nx gg149
          replace s132 := s132.nx gg149
          replace s140 := s140.nx gg149
          replace b115 := b115.chg fun b hb => fr148 b (fun hm => dj143_0 b hm hb)
          refine XO.nil (thenC.go ?_)
          refine XC.seq ?_
          refine XC.seq ?_
          refine XC.text ?_
          refine XO.c (.move rfl) rfl rfl ?_
          refine XO.c (.eql rfl rfl) rfl rfl ?_
          refine XO.nil (thenC.go ?_)
          refine XC.condD rfl (fun c14 => ?_) (fun c14 => ?_)
          · have hY := (by first | exact absurd c14 c7 | exact quantB_ok ((quant_one c7 e0 g9_3).trans c14) | exact quantB_ok ((quant_one2 c7 e0 g9_3).trans c14) : OkQ l x.2.2.1 x.2.2.2)
            refine XC.text ?_
            refine XO.c (.move rfl) rfl rfl ?_
            refine XO.c (.fieldAddr rfl ((b101).fa (f := 2) (k := 3) (by kernel_rfl))) rfl rfl ?_
            refine XO.r (.load rfl (((((b101).base.snd' (m := 1) rfl (b101).isP).snd' (m := 3) rfl (b101).isP).fst').ldInt vt3)) rfl rfl ?_
            refine XO.c (.fieldAddr rfl ((b101).fa (f := 3) (k := 4) (by kernel_rfl))) rfl rfl ?_
            obtain ⟨u150, e150, r150⟩ := (((((b101).base.snd' (m := 1) rfl (b101).isP).snd' (m := 3) rfl (b101).isP).snd' (m := 4) rfl (b101).isP)).ldV vt58
            obtain ⟨c151_0, c151_1, rfl, r151_0, r151_1⟩ := r150.st2 rfl rfl
            obtain rfl := r151_0.int
            obtain rfl := r151_1.int
            refine XO.r (.load rfl (e150)) rfl rfl ?_
            refine XO.call rfl rfl rfl rfl ?_
            refine EvF.mono (rQuantile_ok (hA.ok hok) (b148.inS (hA.ok hok) (b115.inS (hA.ok hok) (hA.inS hS))) ha0 (s := x.2.2.2) hY) ?_
            rintro _ _ ⟨rfl, hh⟩
            obtain rfl := hh.symm
            clear hh
            refine XO.c (.assign rfl) rfl rfl ?_
            refine XO.nil (thenC.go ?_)
            refine XC.seq ?_
            refine XC.text ?_
            refine XO.c (.move rfl) rfl rfl ?_
            refine XO.call rfl rfl rfl rfl ?_
            refine EvF.mono (lCourses_ok (hA.ok hok) (b148.inS (hA.ok hok) (b115.inS (hA.ok hok) (hA.inS hS))) ha0 (by omega) hc) ?_
            rintro u153 h153 ⟨a153, s153⟩
            have ok154 := hA.ok hok
            have gg154 : Goes h148 (ownP p143 ++ (ownP p113 ++ S)) h153 (ownP p143 ++ (ownP p113 ++ S)) := a153.nx ok154
            replace hA := hA.trans a153
            replace ha0 := ha0.nx gg154
            replace b101 := b101.nx gg154
            replace s106 := s106.nx gg154
            replace s118 := s118.nx gg154
            replace s130 := s130.nx gg154
            replace s132 := s132.nx gg154
            replace s140 := s140.nx gg154
            replace b115 := b115.keep a153 ok154
            replace b148 := b148.keep a153 ok154
            refine XO.call rfl rfl rfl rfl ?_
            refine EvF.mono (sEnsemble_ok (hA.ok hok) (b148.inS (hA.ok hok) (b115.inS (hA.ok hok) (hA.inS hS))) s153 hc) ?_
            rintro _ _ ⟨rfl, hh⟩
            obtain rfl := hh.symm
            clear hh
            refine XO.c (.move rfl) rfl rfl ?_
            refine XO.c (.eql rfl rfl) rfl rfl ?_
            refine XO.c (.move rfl) rfl rfl ?_
            refine XO.splitD (x := 97) rfl (fun g16_5 => ?_) (fun g16_5 => ?_)
            · refine XO.gr rfl rfl rfl (.load rfl (b115.ldA vt58 rfl rfl)) rfl rfl ?_
              refine XO.gc rfl rfl rfl (.move rfl) rfl rfl ?_
              refine XO.gc rfl rfl rfl (.move rfl) rfl rfl ?_
              refine XO.gr rfl rfl rfl (.load rfl (b148.ldA vt58 rfl rfl)) rfl rfl ?_
              refine XO.gcall rfl rfl rfl rfl rfl rfl rfl ?_
              refine EvF.mono (lRatio_ok (hA.ok hok) (b148.inS (hA.ok hok) (b115.inS (hA.ok hok) (hA.inS hS)))  (want := ((exceedE l x.1 x.2.1).1, (exceedE l x.1 x.2.1).2)) (hv := ((if exceedB l x.1 x.2.1 = 0 then exceedE l x.1 x.2.1 else (0, 0)).1, (if exceedB l x.1 x.2.1 = 0 then exceedE l x.1 x.2.1 else (0, 0)).2)) ) ?_
              rintro _ _ ⟨rfl, hh⟩
              obtain rfl := hh.symm
              clear hh
              refine XO.c (.pickT rfl rfl) rfl rfl ?_
              refine XO.c (.move rfl) rfl rfl ?_
              refine XO.splitB (x := 104) rfl (fun g16_12 => ?_) (fun g16_12 => ?_)
              · refine XO.gc rfl rfl rfl (.move rfl) rfl rfl ?_
                refine XO.gc rfl rfl rfl (.move rfl) rfl rfl ?_
                refine XO.gc rfl rfl rfl (.move rfl) rfl rfl ?_
                refine XO.gc rfl rfl rfl (.move rfl) rfl rfl ?_
                refine XO.gcall rfl rfl rfl rfl rfl rfl rfl ?_
                refine EvF.mono (lNumber_ok (hA.ok hok) (b148.inS (hA.ok hok) (b115.inS (hA.ok hok) (hA.inS hS)))  ) ?_
                rintro _ _ ⟨rfl, hh⟩
                obtain rfl := hh.symm
                clear hh
                refine XO.c (.pickT rfl rfl) rfl rfl ?_
                refine XO.c (.move rfl) rfl rfl ?_
                refine XO.splitB (x := 111) rfl (fun g16_19 => ?_) (fun g16_19 => ?_)
                · refine XO.gcall rfl rfl rfl rfl rfl rfl rfl ?_
                  refine EvF.mono (awake_ok  ) ?_
                  rintro _ _ ⟨rfl, hh⟩
                  obtain rfl := hh.symm
                  clear hh
                  refine XO.c (.pickT rfl rfl) rfl rfl ?_
                  refine XO.c (.assign rfl) rfl rfl ?_
                  refine XO.nil (thenC.go ?_)
                  refine XC.ret fun tf htf => ?_
                  refine endF.one rfl rfl (htf 4 _ rfl) ?_
                  exact ⟨congrArg Value.bool (by first | rfl | exact absurd rfl g16_5 | exact absurd ((ratio_fin (exceed_one c7 e0) (fun _ => rfl)).symm.trans g16_12) (by decide) | exact absurd ((ratio_fin (exceed_one c7 e0) (fun h => absurd h c12)).symm.trans g16_12) (by decide) | exact absurd ((ratio_fin (exceed_no c7) (fun _ => rfl)).symm.trans g16_12) (by decide) | exact absurd ((ratio_fin (exceed_no c7) (fun h => absurd h c12)).symm.trans g16_12) (by decide) | exact absurd ((number_fin (quant_one c7 e0 g9_3) (fun _ => rfl)).symm.trans g16_19) (by decide) | exact absurd ((number_fin (quant_one c7 e0 g9_3) (fun h => absurd h c14)).symm.trans g16_19) (by decide) | exact absurd ((number_fin (quant_one2 c7 e0 g9_3) (fun _ => rfl)).symm.trans g16_19) (by decide) | exact absurd ((number_fin (quant_one2 c7 e0 g9_3) (fun h => absurd h c14)).symm.trans g16_19) (by decide) | exact absurd ((number_fin (quant_no c7) (fun _ => rfl)).symm.trans g16_19) (by decide) | exact absurd ((number_fin (quant_no c7) (fun h => absurd h c14)).symm.trans g16_19) (by decide)), hA.leftAf rfl⟩
                · refine XO.skip rfl rfl rfl rfl rfl ?_
                  refine XO.c (.pickF rfl rfl) rfl rfl ?_
                  refine XO.c (.assign rfl) rfl rfl ?_
                  refine XO.nil (thenC.go ?_)
                  refine XC.ret fun tf htf => ?_
                  refine endF.one rfl rfl (htf 4 _ rfl) ?_
                  exact ⟨congrArg Value.bool (by first | rfl | exact absurd rfl g16_5 | exact absurd ((ratio_fin (exceed_one c7 e0) (fun _ => rfl)).symm.trans g16_12) (by decide) | exact absurd ((ratio_fin (exceed_one c7 e0) (fun h => absurd h c12)).symm.trans g16_12) (by decide) | exact absurd ((ratio_fin (exceed_no c7) (fun _ => rfl)).symm.trans g16_12) (by decide) | exact absurd ((ratio_fin (exceed_no c7) (fun h => absurd h c12)).symm.trans g16_12) (by decide) | exact absurd ((number_fin (quant_one c7 e0 g9_3) (fun _ => rfl)).symm.trans g16_19) (by decide) | exact absurd ((number_fin (quant_one c7 e0 g9_3) (fun h => absurd h c14)).symm.trans g16_19) (by decide) | exact absurd ((number_fin (quant_one2 c7 e0 g9_3) (fun _ => rfl)).symm.trans g16_19) (by decide) | exact absurd ((number_fin (quant_one2 c7 e0 g9_3) (fun h => absurd h c14)).symm.trans g16_19) (by decide) | exact absurd ((number_fin (quant_no c7) (fun _ => rfl)).symm.trans g16_19) (by decide) | exact absurd ((number_fin (quant_no c7) (fun h => absurd h c14)).symm.trans g16_19) (by decide)), hA.leftAf rfl⟩
              · refine XO.skip rfl rfl rfl rfl rfl ?_
                refine XO.skip rfl rfl rfl rfl rfl ?_
                refine XO.skip rfl rfl rfl rfl rfl ?_
                refine XO.skip rfl rfl rfl rfl rfl ?_
                refine XO.skip rfl rfl rfl rfl rfl ?_
                refine XO.c (.pickF rfl rfl) rfl rfl ?_
                refine XO.c (.move rfl) rfl rfl ?_
                refine XO.skip rfl rfl rfl rfl rfl ?_
                refine XO.c (.pickF rfl rfl) rfl rfl ?_
                refine XO.c (.assign rfl) rfl rfl ?_
                refine XO.nil (thenC.go ?_)
                refine XC.ret fun tf htf => ?_
                refine endF.one rfl rfl (htf 4 _ rfl) ?_
                exact ⟨congrArg Value.bool (by first | rfl | exact absurd rfl g16_5 | exact absurd ((ratio_fin (exceed_one c7 e0) (fun _ => rfl)).symm.trans g16_12) (by decide) | exact absurd ((ratio_fin (exceed_one c7 e0) (fun h => absurd h c12)).symm.trans g16_12) (by decide) | exact absurd ((ratio_fin (exceed_no c7) (fun _ => rfl)).symm.trans g16_12) (by decide) | exact absurd ((ratio_fin (exceed_no c7) (fun h => absurd h c12)).symm.trans g16_12) (by decide) | exact absurd ((number_fin (quant_one c7 e0 g9_3) (fun _ => rfl)).symm.trans g16_19) (by decide) | exact absurd ((number_fin (quant_one c7 e0 g9_3) (fun h => absurd h c14)).symm.trans g16_19) (by decide) | exact absurd ((number_fin (quant_one2 c7 e0 g9_3) (fun _ => rfl)).symm.trans g16_19) (by decide) | exact absurd ((number_fin (quant_one2 c7 e0 g9_3) (fun h => absurd h c14)).symm.trans g16_19) (by decide) | exact absurd ((number_fin (quant_no c7) (fun _ => rfl)).symm.trans g16_19) (by decide) | exact absurd ((number_fin (quant_no c7) (fun h => absurd h c14)).symm.trans g16_19) (by decide)), hA.leftAf rfl⟩
            · refine XO.skip rfl rfl rfl rfl rfl ?_
              refine XO.skip rfl rfl rfl rfl rfl ?_
              refine XO.skip rfl rfl rfl rfl rfl ?_
              refine XO.skip rfl rfl rfl rfl rfl ?_
              refine XO.skip rfl rfl rfl rfl rfl ?_
              refine XO.c (.pickF rfl rfl) rfl rfl ?_
              refine XO.c (.move rfl) rfl rfl ?_
              refine XO.skip rfl rfl rfl rfl rfl ?_
              refine XO.skip rfl rfl rfl rfl rfl ?_
              refine XO.skip rfl rfl rfl rfl rfl ?_
              refine XO.skip rfl rfl rfl rfl rfl ?_
              refine XO.skip rfl rfl rfl rfl rfl ?_
              refine XO.c (.pickF rfl rfl) rfl rfl ?_
              refine XO.c (.move rfl) rfl rfl ?_
              refine XO.skip rfl rfl rfl rfl rfl ?_
              refine XO.c (.pickF rfl rfl) rfl rfl ?_
              refine XO.c (.assign rfl) rfl rfl ?_
              refine XO.nil (thenC.go ?_)
              refine XC.ret fun tf htf => ?_
              refine endF.one rfl rfl (htf 4 _ rfl) ?_
              exact ⟨congrArg Value.bool (by first | rfl | exact absurd rfl g16_5 | exact absurd ((ratio_fin (exceed_one c7 e0) (fun _ => rfl)).symm.trans g16_12) (by decide) | exact absurd ((ratio_fin (exceed_one c7 e0) (fun h => absurd h c12)).symm.trans g16_12) (by decide) | exact absurd ((ratio_fin (exceed_no c7) (fun _ => rfl)).symm.trans g16_12) (by decide) | exact absurd ((ratio_fin (exceed_no c7) (fun h => absurd h c12)).symm.trans g16_12) (by decide) | exact absurd ((number_fin (quant_one c7 e0 g9_3) (fun _ => rfl)).symm.trans g16_19) (by decide) | exact absurd ((number_fin (quant_one c7 e0 g9_3) (fun h => absurd h c14)).symm.trans g16_19) (by decide) | exact absurd ((number_fin (quant_one2 c7 e0 g9_3) (fun _ => rfl)).symm.trans g16_19) (by decide) | exact absurd ((number_fin (quant_one2 c7 e0 g9_3) (fun h => absurd h c14)).symm.trans g16_19) (by decide) | exact absurd ((number_fin (quant_no c7) (fun _ => rfl)).symm.trans g16_19) (by decide) | exact absurd ((number_fin (quant_no c7) (fun h => absurd h c14)).symm.trans g16_19) (by decide)), hA.leftAf rfl⟩
          · refine XC.skip (thenC.go ?_)
            refine XC.seq ?_
            refine XC.text ?_
            refine XO.c (.move rfl) rfl rfl ?_
            refine XO.call rfl rfl rfl rfl ?_
            refine EvF.mono (lCourses_ok (hA.ok hok) (b148.inS (hA.ok hok) (b115.inS (hA.ok hok) (hA.inS hS))) ha0 (by omega) hc) ?_
            rintro u159 h159 ⟨a159, s159⟩
            have ok160 := hA.ok hok
            have gg160 : Goes h148 (ownP p143 ++ (ownP p113 ++ S)) h159 (ownP p143 ++ (ownP p113 ++ S)) := a159.nx ok160
            replace hA := hA.trans a159
            replace ha0 := ha0.nx gg160
            replace b101 := b101.nx gg160
            replace s106 := s106.nx gg160
            replace s118 := s118.nx gg160
            replace s130 := s130.nx gg160
            replace s132 := s132.nx gg160
            replace s140 := s140.nx gg160
            replace b115 := b115.keep a159 ok160
            replace b148 := b148.keep a159 ok160
            refine XO.call rfl rfl rfl rfl ?_
            refine EvF.mono (sEnsemble_ok (hA.ok hok) (b148.inS (hA.ok hok) (b115.inS (hA.ok hok) (hA.inS hS))) s159 hc) ?_
            rintro _ _ ⟨rfl, hh⟩
            obtain rfl := hh.symm
            clear hh
            refine XO.c (.move rfl) rfl rfl ?_
            refine XO.c (.eql rfl rfl) rfl rfl ?_
            refine XO.c (.move rfl) rfl rfl ?_
            refine XO.splitD (x := 97) rfl (fun g16_5 => ?_) (fun g16_5 => ?_)
            · refine XO.gr rfl rfl rfl (.load rfl (b115.ldA vt58 rfl rfl)) rfl rfl ?_
              refine XO.gc rfl rfl rfl (.move rfl) rfl rfl ?_
              refine XO.gc rfl rfl rfl (.move rfl) rfl rfl ?_
              refine XO.gr rfl rfl rfl (.load rfl (b148.ldA vt58 rfl rfl)) rfl rfl ?_
              refine XO.gcall rfl rfl rfl rfl rfl rfl rfl ?_
              refine EvF.mono (lRatio_ok (hA.ok hok) (b148.inS (hA.ok hok) (b115.inS (hA.ok hok) (hA.inS hS)))  (want := ((exceedE l x.1 x.2.1).1, (exceedE l x.1 x.2.1).2)) (hv := ((if exceedB l x.1 x.2.1 = 0 then exceedE l x.1 x.2.1 else (0, 0)).1, (if exceedB l x.1 x.2.1 = 0 then exceedE l x.1 x.2.1 else (0, 0)).2)) ) ?_
              rintro _ _ ⟨rfl, hh⟩
              obtain rfl := hh.symm
              clear hh
              refine XO.c (.pickT rfl rfl) rfl rfl ?_
              refine XO.c (.move rfl) rfl rfl ?_
              refine XO.splitB (x := 104) rfl (fun g16_12 => ?_) (fun g16_12 => ?_)
              · refine XO.gc rfl rfl rfl (.move rfl) rfl rfl ?_
                refine XO.gc rfl rfl rfl (.move rfl) rfl rfl ?_
                refine XO.gc rfl rfl rfl (.move rfl) rfl rfl ?_
                refine XO.gc rfl rfl rfl (.move rfl) rfl rfl ?_
                refine XO.gcall rfl rfl rfl rfl rfl rfl rfl ?_
                refine EvF.mono (lNumber_ok (hA.ok hok) (b148.inS (hA.ok hok) (b115.inS (hA.ok hok) (hA.inS hS)))  ) ?_
                rintro _ _ ⟨rfl, hh⟩
                obtain rfl := hh.symm
                clear hh
                refine XO.c (.pickT rfl rfl) rfl rfl ?_
                refine XO.c (.move rfl) rfl rfl ?_
                refine XO.splitB (x := 111) rfl (fun g16_19 => ?_) (fun g16_19 => ?_)
                · refine XO.gcall rfl rfl rfl rfl rfl rfl rfl ?_
                  refine EvF.mono (awake_ok  ) ?_
                  rintro _ _ ⟨rfl, hh⟩
                  obtain rfl := hh.symm
                  clear hh
                  refine XO.c (.pickT rfl rfl) rfl rfl ?_
                  refine XO.c (.assign rfl) rfl rfl ?_
                  refine XO.nil (thenC.go ?_)
                  refine XC.ret fun tf htf => ?_
                  refine endF.one rfl rfl (htf 4 _ rfl) ?_
                  exact ⟨congrArg Value.bool (by first | rfl | exact absurd rfl g16_5 | exact absurd ((ratio_fin (exceed_one c7 e0) (fun _ => rfl)).symm.trans g16_12) (by decide) | exact absurd ((ratio_fin (exceed_one c7 e0) (fun h => absurd h c12)).symm.trans g16_12) (by decide) | exact absurd ((ratio_fin (exceed_no c7) (fun _ => rfl)).symm.trans g16_12) (by decide) | exact absurd ((ratio_fin (exceed_no c7) (fun h => absurd h c12)).symm.trans g16_12) (by decide) | exact absurd ((number_fin (quant_one c7 e0 g9_3) (fun _ => rfl)).symm.trans g16_19) (by decide) | exact absurd ((number_fin (quant_one c7 e0 g9_3) (fun h => absurd h c14)).symm.trans g16_19) (by decide) | exact absurd ((number_fin (quant_one2 c7 e0 g9_3) (fun _ => rfl)).symm.trans g16_19) (by decide) | exact absurd ((number_fin (quant_one2 c7 e0 g9_3) (fun h => absurd h c14)).symm.trans g16_19) (by decide) | exact absurd ((number_fin (quant_no c7) (fun _ => rfl)).symm.trans g16_19) (by decide) | exact absurd ((number_fin (quant_no c7) (fun h => absurd h c14)).symm.trans g16_19) (by decide)), hA.leftAf rfl⟩
                · refine XO.skip rfl rfl rfl rfl rfl ?_
                  refine XO.c (.pickF rfl rfl) rfl rfl ?_
                  refine XO.c (.assign rfl) rfl rfl ?_
                  refine XO.nil (thenC.go ?_)
                  refine XC.ret fun tf htf => ?_
                  refine endF.one rfl rfl (htf 4 _ rfl) ?_
                  exact ⟨congrArg Value.bool (by first | rfl | exact absurd rfl g16_5 | exact absurd ((ratio_fin (exceed_one c7 e0) (fun _ => rfl)).symm.trans g16_12) (by decide) | exact absurd ((ratio_fin (exceed_one c7 e0) (fun h => absurd h c12)).symm.trans g16_12) (by decide) | exact absurd ((ratio_fin (exceed_no c7) (fun _ => rfl)).symm.trans g16_12) (by decide) | exact absurd ((ratio_fin (exceed_no c7) (fun h => absurd h c12)).symm.trans g16_12) (by decide) | exact absurd ((number_fin (quant_one c7 e0 g9_3) (fun _ => rfl)).symm.trans g16_19) (by decide) | exact absurd ((number_fin (quant_one c7 e0 g9_3) (fun h => absurd h c14)).symm.trans g16_19) (by decide) | exact absurd ((number_fin (quant_one2 c7 e0 g9_3) (fun _ => rfl)).symm.trans g16_19) (by decide) | exact absurd ((number_fin (quant_one2 c7 e0 g9_3) (fun h => absurd h c14)).symm.trans g16_19) (by decide) | exact absurd ((number_fin (quant_no c7) (fun _ => rfl)).symm.trans g16_19) (by decide) | exact absurd ((number_fin (quant_no c7) (fun h => absurd h c14)).symm.trans g16_19) (by decide)), hA.leftAf rfl⟩
              · refine XO.skip rfl rfl rfl rfl rfl ?_
                refine XO.skip rfl rfl rfl rfl rfl ?_
                refine XO.skip rfl rfl rfl rfl rfl ?_
                refine XO.skip rfl rfl rfl rfl rfl ?_
                refine XO.skip rfl rfl rfl rfl rfl ?_
                refine XO.c (.pickF rfl rfl) rfl rfl ?_
                refine XO.c (.move rfl) rfl rfl ?_
                refine XO.skip rfl rfl rfl rfl rfl ?_
                refine XO.c (.pickF rfl rfl) rfl rfl ?_
                refine XO.c (.assign rfl) rfl rfl ?_
                refine XO.nil (thenC.go ?_)
                refine XC.ret fun tf htf => ?_
                refine endF.one rfl rfl (htf 4 _ rfl) ?_
                exact ⟨congrArg Value.bool (by first | rfl | exact absurd rfl g16_5 | exact absurd ((ratio_fin (exceed_one c7 e0) (fun _ => rfl)).symm.trans g16_12) (by decide) | exact absurd ((ratio_fin (exceed_one c7 e0) (fun h => absurd h c12)).symm.trans g16_12) (by decide) | exact absurd ((ratio_fin (exceed_no c7) (fun _ => rfl)).symm.trans g16_12) (by decide) | exact absurd ((ratio_fin (exceed_no c7) (fun h => absurd h c12)).symm.trans g16_12) (by decide) | exact absurd ((number_fin (quant_one c7 e0 g9_3) (fun _ => rfl)).symm.trans g16_19) (by decide) | exact absurd ((number_fin (quant_one c7 e0 g9_3) (fun h => absurd h c14)).symm.trans g16_19) (by decide) | exact absurd ((number_fin (quant_one2 c7 e0 g9_3) (fun _ => rfl)).symm.trans g16_19) (by decide) | exact absurd ((number_fin (quant_one2 c7 e0 g9_3) (fun h => absurd h c14)).symm.trans g16_19) (by decide) | exact absurd ((number_fin (quant_no c7) (fun _ => rfl)).symm.trans g16_19) (by decide) | exact absurd ((number_fin (quant_no c7) (fun h => absurd h c14)).symm.trans g16_19) (by decide)), hA.leftAf rfl⟩
            · refine XO.skip rfl rfl rfl rfl rfl ?_
              refine XO.skip rfl rfl rfl rfl rfl ?_
              refine XO.skip rfl rfl rfl rfl rfl ?_
              refine XO.skip rfl rfl rfl rfl rfl ?_
              refine XO.skip rfl rfl rfl rfl rfl ?_
              refine XO.c (.pickF rfl rfl) rfl rfl ?_
              refine XO.c (.move rfl) rfl rfl ?_
              refine XO.skip rfl rfl rfl rfl rfl ?_
              refine XO.skip rfl rfl rfl rfl rfl ?_
              refine XO.skip rfl rfl rfl rfl rfl ?_
              refine XO.skip rfl rfl rfl rfl rfl ?_
              refine XO.skip rfl rfl rfl rfl rfl ?_
              refine XO.c (.pickF rfl rfl) rfl rfl ?_
              refine XO.c (.move rfl) rfl rfl ?_
              refine XO.skip rfl rfl rfl rfl rfl ?_
              refine XO.c (.pickF rfl rfl) rfl rfl ?_
              refine XO.c (.assign rfl) rfl rfl ?_
              refine XO.nil (thenC.go ?_)
              refine XC.ret fun tf htf => ?_
              refine endF.one rfl rfl (htf 4 _ rfl) ?_
              exact ⟨congrArg Value.bool (by first | rfl | exact absurd rfl g16_5 | exact absurd ((ratio_fin (exceed_one c7 e0) (fun _ => rfl)).symm.trans g16_12) (by decide) | exact absurd ((ratio_fin (exceed_one c7 e0) (fun h => absurd h c12)).symm.trans g16_12) (by decide) | exact absurd ((ratio_fin (exceed_no c7) (fun _ => rfl)).symm.trans g16_12) (by decide) | exact absurd ((ratio_fin (exceed_no c7) (fun h => absurd h c12)).symm.trans g16_12) (by decide) | exact absurd ((number_fin (quant_one c7 e0 g9_3) (fun _ => rfl)).symm.trans g16_19) (by decide) | exact absurd ((number_fin (quant_one c7 e0 g9_3) (fun h => absurd h c14)).symm.trans g16_19) (by decide) | exact absurd ((number_fin (quant_one2 c7 e0 g9_3) (fun _ => rfl)).symm.trans g16_19) (by decide) | exact absurd ((number_fin (quant_one2 c7 e0 g9_3) (fun h => absurd h c14)).symm.trans g16_19) (by decide) | exact absurd ((number_fin (quant_no c7) (fun _ => rfl)).symm.trans g16_19) (by decide) | exact absurd ((number_fin (quant_no c7) (fun h => absurd h c14)).symm.trans g16_19) (by decide)), hA.leftAf rfl⟩
        · refine XC.skip (thenC.go ?_)
          refine XC.seq ?_
          refine XC.seq ?_
          refine XC.text ?_
          refine XO.c (.move rfl) rfl rfl ?_
          refine XO.c (.eql rfl rfl) rfl rfl ?_
          refine XO.nil (thenC.go ?_)
          refine XC.condD rfl (fun c14 => ?_) (fun c14 => ?_)
          · have hY := (by first | exact absurd c14 c7 | exact quantB_ok ((quant_one c7 e0 g9_3).trans c14) | exact quantB_ok ((quant_one2 c7 e0 g9_3).trans c14) : OkQ l x.2.2.1 x.2.2.2)
            refine XC.text ?_
            refine XO.c (.move rfl) rfl rfl ?_
            refine XO.c (.fieldAddr rfl ((b101).fa (f := 2) (k := 3) (by kernel_rfl))) rfl rfl ?_
            refine XO.r (.load rfl (((((b101).base.snd' (m := 1) rfl (b101).isP).snd' (m := 3) rfl (b101).isP).fst').ldInt vt3)) rfl rfl ?_
            refine XO.c (.fieldAddr rfl ((b101).fa (f := 3) (k := 4) (by kernel_rfl))) rfl rfl ?_
            obtain ⟨u165, e165, r165⟩ := (((((b101).base.snd' (m := 1) rfl (b101).isP).snd' (m := 3) rfl (b101).isP).snd' (m := 4) rfl (b101).isP)).ldV vt58
            obtain ⟨c166_0, c166_1, rfl, r166_0, r166_1⟩ := r165.st2 rfl rfl
            obtain rfl := r166_0.int
            obtain rfl := r166_1.int
            refine XO.r (.load rfl (e165)) rfl rfl ?_
            refine XO.call rfl rfl rfl rfl ?_
            refine EvF.mono (rQuantile_ok (hA.ok hok) (b143.inS (hA.ok hok) (b115.inS (hA.ok hok) (hA.inS hS))) ha0 (s := x.2.2.2) hY) ?_
            rintro _ _ ⟨rfl, hh⟩
            obtain rfl := hh.symm
            clear hh
            refine XO.c (.assign rfl) rfl rfl ?_
            refine XO.nil (thenC.go ?_)
            refine XC.seq ?_
            refine XC.text ?_
            refine XO.c (.move rfl) rfl rfl ?_
            refine XO.call rfl rfl rfl rfl ?_
            refine EvF.mono (lCourses_ok (hA.ok hok) (b143.inS (hA.ok hok) (b115.inS (hA.ok hok) (hA.inS hS))) ha0 (by omega) hc) ?_
            rintro u168 h168 ⟨a168, s168⟩
            have ok169 := hA.ok hok
            have gg169 : Goes h143 (ownP p143 ++ (ownP p113 ++ S)) h168 (ownP p143 ++ (ownP p113 ++ S)) := a168.nx ok169
            replace hA := hA.trans a168
            replace ha0 := ha0.nx gg169
            replace b101 := b101.nx gg169
            replace s106 := s106.nx gg169
            replace s118 := s118.nx gg169
            replace s130 := s130.nx gg169
            replace s132 := s132.nx gg169
            replace s140 := s140.nx gg169
            replace b115 := b115.keep a168 ok169
            replace b143 := b143.keep a168 ok169
            refine XO.call rfl rfl rfl rfl ?_
            refine EvF.mono (sEnsemble_ok (hA.ok hok) (b143.inS (hA.ok hok) (b115.inS (hA.ok hok) (hA.inS hS))) s168 hc) ?_
            rintro _ _ ⟨rfl, hh⟩
            obtain rfl := hh.symm
            clear hh
            refine XO.c (.move rfl) rfl rfl ?_
            refine XO.c (.eql rfl rfl) rfl rfl ?_
            refine XO.c (.move rfl) rfl rfl ?_
            refine XO.splitD (x := 97) rfl (fun g16_5 => ?_) (fun g16_5 => ?_)
            · refine XO.gr rfl rfl rfl (.load rfl (b115.ldA vt58 rfl rfl)) rfl rfl ?_
              refine XO.gc rfl rfl rfl (.move rfl) rfl rfl ?_
              refine XO.gc rfl rfl rfl (.move rfl) rfl rfl ?_
              refine XO.gr rfl rfl rfl (.load rfl (b143.ldA vt58 rfl rfl)) rfl rfl ?_
              refine XO.gcall rfl rfl rfl rfl rfl rfl rfl ?_
              refine EvF.mono (lRatio_ok (hA.ok hok) (b143.inS (hA.ok hok) (b115.inS (hA.ok hok) (hA.inS hS)))  (want := (0, 0)) (hv := ((if exceedB l x.1 x.2.1 = 0 then exceedE l x.1 x.2.1 else (0, 0)).1, (if exceedB l x.1 x.2.1 = 0 then exceedE l x.1 x.2.1 else (0, 0)).2)) ) ?_
              rintro _ _ ⟨rfl, hh⟩
              obtain rfl := hh.symm
              clear hh
              refine XO.c (.pickT rfl rfl) rfl rfl ?_
              refine XO.c (.move rfl) rfl rfl ?_
              refine XO.splitB (x := 104) rfl (fun g16_12 => ?_) (fun g16_12 => ?_)
              · refine XO.gc rfl rfl rfl (.move rfl) rfl rfl ?_
                refine XO.gc rfl rfl rfl (.move rfl) rfl rfl ?_
                refine XO.gc rfl rfl rfl (.move rfl) rfl rfl ?_
                refine XO.gc rfl rfl rfl (.move rfl) rfl rfl ?_
                refine XO.gcall rfl rfl rfl rfl rfl rfl rfl ?_
                refine EvF.mono (lNumber_ok (hA.ok hok) (b143.inS (hA.ok hok) (b115.inS (hA.ok hok) (hA.inS hS)))  ) ?_
                rintro _ _ ⟨rfl, hh⟩
                obtain rfl := hh.symm
                clear hh
                refine XO.c (.pickT rfl rfl) rfl rfl ?_
                refine XO.c (.move rfl) rfl rfl ?_
                refine XO.splitB (x := 111) rfl (fun g16_19 => ?_) (fun g16_19 => ?_)
                · refine XO.gcall rfl rfl rfl rfl rfl rfl rfl ?_
                  refine EvF.mono (awake_ok  ) ?_
                  rintro _ _ ⟨rfl, hh⟩
                  obtain rfl := hh.symm
                  clear hh
                  refine XO.c (.pickT rfl rfl) rfl rfl ?_
                  refine XO.c (.assign rfl) rfl rfl ?_
                  refine XO.nil (thenC.go ?_)
                  refine XC.ret fun tf htf => ?_
                  refine endF.one rfl rfl (htf 4 _ rfl) ?_
                  exact ⟨congrArg Value.bool (by first | rfl | exact absurd rfl g16_5 | exact absurd ((ratio_fin (exceed_one c7 e0) (fun _ => rfl)).symm.trans g16_12) (by decide) | exact absurd ((ratio_fin (exceed_one c7 e0) (fun h => absurd h c12)).symm.trans g16_12) (by decide) | exact absurd ((ratio_fin (exceed_no c7) (fun _ => rfl)).symm.trans g16_12) (by decide) | exact absurd ((ratio_fin (exceed_no c7) (fun h => absurd h c12)).symm.trans g16_12) (by decide) | exact absurd ((number_fin (quant_one c7 e0 g9_3) (fun _ => rfl)).symm.trans g16_19) (by decide) | exact absurd ((number_fin (quant_one c7 e0 g9_3) (fun h => absurd h c14)).symm.trans g16_19) (by decide) | exact absurd ((number_fin (quant_one2 c7 e0 g9_3) (fun _ => rfl)).symm.trans g16_19) (by decide) | exact absurd ((number_fin (quant_one2 c7 e0 g9_3) (fun h => absurd h c14)).symm.trans g16_19) (by decide) | exact absurd ((number_fin (quant_no c7) (fun _ => rfl)).symm.trans g16_19) (by decide) | exact absurd ((number_fin (quant_no c7) (fun h => absurd h c14)).symm.trans g16_19) (by decide)), hA.leftAf rfl⟩
                · refine XO.skip rfl rfl rfl rfl rfl ?_
                  refine XO.c (.pickF rfl rfl) rfl rfl ?_
                  refine XO.c (.assign rfl) rfl rfl ?_
                  refine XO.nil (thenC.go ?_)
                  refine XC.ret fun tf htf => ?_
                  refine endF.one rfl rfl (htf 4 _ rfl) ?_
                  exact ⟨congrArg Value.bool (by first | rfl | exact absurd rfl g16_5 | exact absurd ((ratio_fin (exceed_one c7 e0) (fun _ => rfl)).symm.trans g16_12) (by decide) | exact absurd ((ratio_fin (exceed_one c7 e0) (fun h => absurd h c12)).symm.trans g16_12) (by decide) | exact absurd ((ratio_fin (exceed_no c7) (fun _ => rfl)).symm.trans g16_12) (by decide) | exact absurd ((ratio_fin (exceed_no c7) (fun h => absurd h c12)).symm.trans g16_12) (by decide) | exact absurd ((number_fin (quant_one c7 e0 g9_3) (fun _ => rfl)).symm.trans g16_19) (by decide) | exact absurd ((number_fin (quant_one c7 e0 g9_3) (fun h => absurd h c14)).symm.trans g16_19) (by decide) | exact absurd ((number_fin (quant_one2 c7 e0 g9_3) (fun _ => rfl)).symm.trans g16_19) (by decide) | exact absurd ((number_fin (quant_one2 c7 e0 g9_3) (fun h => absurd h c14)).symm.trans g16_19) (by decide) | exact absurd ((number_fin (quant_no c7) (fun _ => rfl)).symm.trans g16_19) (by decide) | exact absurd ((number_fin (quant_no c7) (fun h => absurd h c14)).symm.trans g16_19) (by decide)), hA.leftAf rfl⟩
              · refine XO.skip rfl rfl rfl rfl rfl ?_
                refine XO.skip rfl rfl rfl rfl rfl ?_
                refine XO.skip rfl rfl rfl rfl rfl ?_
                refine XO.skip rfl rfl rfl rfl rfl ?_
                refine XO.skip rfl rfl rfl rfl rfl ?_
                refine XO.c (.pickF rfl rfl) rfl rfl ?_
                refine XO.c (.move rfl) rfl rfl ?_
                refine XO.skip rfl rfl rfl rfl rfl ?_
                refine XO.c (.pickF rfl rfl) rfl rfl ?_
                refine XO.c (.assign rfl) rfl rfl ?_
                refine XO.nil (thenC.go ?_)
                refine XC.ret fun tf htf => ?_
                refine endF.one rfl rfl (htf 4 _ rfl) ?_
                exact ⟨congrArg Value.bool (by first | rfl | exact absurd rfl g16_5 | exact absurd ((ratio_fin (exceed_one c7 e0) (fun _ => rfl)).symm.trans g16_12) (by decide) | exact absurd ((ratio_fin (exceed_one c7 e0) (fun h => absurd h c12)).symm.trans g16_12) (by decide) | exact absurd ((ratio_fin (exceed_no c7) (fun _ => rfl)).symm.trans g16_12) (by decide) | exact absurd ((ratio_fin (exceed_no c7) (fun h => absurd h c12)).symm.trans g16_12) (by decide) | exact absurd ((number_fin (quant_one c7 e0 g9_3) (fun _ => rfl)).symm.trans g16_19) (by decide) | exact absurd ((number_fin (quant_one c7 e0 g9_3) (fun h => absurd h c14)).symm.trans g16_19) (by decide) | exact absurd ((number_fin (quant_one2 c7 e0 g9_3) (fun _ => rfl)).symm.trans g16_19) (by decide) | exact absurd ((number_fin (quant_one2 c7 e0 g9_3) (fun h => absurd h c14)).symm.trans g16_19) (by decide) | exact absurd ((number_fin (quant_no c7) (fun _ => rfl)).symm.trans g16_19) (by decide) | exact absurd ((number_fin (quant_no c7) (fun h => absurd h c14)).symm.trans g16_19) (by decide)), hA.leftAf rfl⟩
            · refine XO.skip rfl rfl rfl rfl rfl ?_
              refine XO.skip rfl rfl rfl rfl rfl ?_
              refine XO.skip rfl rfl rfl rfl rfl ?_
              refine XO.skip rfl rfl rfl rfl rfl ?_
              refine XO.skip rfl rfl rfl rfl rfl ?_
              refine XO.c (.pickF rfl rfl) rfl rfl ?_
              refine XO.c (.move rfl) rfl rfl ?_
              refine XO.skip rfl rfl rfl rfl rfl ?_
              refine XO.skip rfl rfl rfl rfl rfl ?_
              refine XO.skip rfl rfl rfl rfl rfl ?_
              refine XO.skip rfl rfl rfl rfl rfl ?_
              refine XO.skip rfl rfl rfl rfl rfl ?_
              refine XO.c (.pickF rfl rfl) rfl rfl ?_
              refine XO.c (.move rfl) rfl rfl ?_
              refine XO.skip rfl rfl rfl rfl rfl ?_
              refine XO.c (.pickF rfl rfl) rfl rfl ?_
              refine XO.c (.assign rfl) rfl rfl ?_
              refine XO.nil (thenC.go ?_)
              refine XC.ret fun tf htf => ?_
              refine endF.one rfl rfl (htf 4 _ rfl) ?_
              exact ⟨congrArg Value.bool (by first | rfl | exact absurd rfl g16_5 | exact absurd ((ratio_fin (exceed_one c7 e0) (fun _ => rfl)).symm.trans g16_12) (by decide) | exact absurd ((ratio_fin (exceed_one c7 e0) (fun h => absurd h c12)).symm.trans g16_12) (by decide) | exact absurd ((ratio_fin (exceed_no c7) (fun _ => rfl)).symm.trans g16_12) (by decide) | exact absurd ((ratio_fin (exceed_no c7) (fun h => absurd h c12)).symm.trans g16_12) (by decide) | exact absurd ((number_fin (quant_one c7 e0 g9_3) (fun _ => rfl)).symm.trans g16_19) (by decide) | exact absurd ((number_fin (quant_one c7 e0 g9_3) (fun h => absurd h c14)).symm.trans g16_19) (by decide) | exact absurd ((number_fin (quant_one2 c7 e0 g9_3) (fun _ => rfl)).symm.trans g16_19) (by decide) | exact absurd ((number_fin (quant_one2 c7 e0 g9_3) (fun h => absurd h c14)).symm.trans g16_19) (by decide) | exact absurd ((number_fin (quant_no c7) (fun _ => rfl)).symm.trans g16_19) (by decide) | exact absurd ((number_fin (quant_no c7) (fun h => absurd h c14)).symm.trans g16_19) (by decide)), hA.leftAf rfl⟩
          · refine XC.skip (thenC.go ?_)
            refine XC.seq ?_
            refine XC.text ?_
            refine XO.c (.move rfl) rfl rfl ?_
            refine XO.call rfl rfl rfl rfl ?_
            refine EvF.mono (lCourses_ok (hA.ok hok) (b143.inS (hA.ok hok) (b115.inS (hA.ok hok) (hA.inS hS))) ha0 (by omega) hc) ?_
            rintro u174 h174 ⟨a174, s174⟩
            have ok175 := hA.ok hok
            have gg175 : Goes h143 (ownP p143 ++ (ownP p113 ++ S)) h174 (ownP p143 ++ (ownP p113 ++ S)) := a174.nx ok175
            replace hA := hA.trans a174
            replace ha0 := ha0.nx gg175
            replace b101 := b101.nx gg175
            replace s106 := s106.nx gg175
            replace s118 := s118.nx gg175
            replace s130 := s130.nx gg175
            replace s132 := s132.nx gg175
            replace s140 := s140.nx gg175
            replace b115 := b115.keep a174 ok175
            replace b143 := b143.keep a174 ok175
            refine XO.call rfl rfl rfl rfl ?_
            refine EvF.mono (sEnsemble_ok (hA.ok hok) (b143.inS (hA.ok hok) (b115.inS (hA.ok hok) (hA.inS hS))) s174 hc) ?_
            rintro _ _ ⟨rfl, hh⟩
            obtain rfl := hh.symm
            clear hh
            refine XO.c (.move rfl) rfl rfl ?_
            refine XO.c (.eql rfl rfl) rfl rfl ?_
            refine XO.c (.move rfl) rfl rfl ?_
            refine XO.splitD (x := 97) rfl (fun g16_5 => ?_) (fun g16_5 => ?_)
            · refine XO.gr rfl rfl rfl (.load rfl (b115.ldA vt58 rfl rfl)) rfl rfl ?_
              refine XO.gc rfl rfl rfl (.move rfl) rfl rfl ?_
              refine XO.gc rfl rfl rfl (.move rfl) rfl rfl ?_
              refine XO.gr rfl rfl rfl (.load rfl (b143.ldA vt58 rfl rfl)) rfl rfl ?_
              refine XO.gcall rfl rfl rfl rfl rfl rfl rfl ?_
              refine EvF.mono (lRatio_ok (hA.ok hok) (b143.inS (hA.ok hok) (b115.inS (hA.ok hok) (hA.inS hS)))  (want := (0, 0)) (hv := ((if exceedB l x.1 x.2.1 = 0 then exceedE l x.1 x.2.1 else (0, 0)).1, (if exceedB l x.1 x.2.1 = 0 then exceedE l x.1 x.2.1 else (0, 0)).2)) ) ?_
              rintro _ _ ⟨rfl, hh⟩
              obtain rfl := hh.symm
              clear hh
              refine XO.c (.pickT rfl rfl) rfl rfl ?_
              refine XO.c (.move rfl) rfl rfl ?_
              refine XO.splitB (x := 104) rfl (fun g16_12 => ?_) (fun g16_12 => ?_)
              · refine XO.gc rfl rfl rfl (.move rfl) rfl rfl ?_
                refine XO.gc rfl rfl rfl (.move rfl) rfl rfl ?_
                refine XO.gc rfl rfl rfl (.move rfl) rfl rfl ?_
                refine XO.gc rfl rfl rfl (.move rfl) rfl rfl ?_
                refine XO.gcall rfl rfl rfl rfl rfl rfl rfl ?_
                refine EvF.mono (lNumber_ok (hA.ok hok) (b143.inS (hA.ok hok) (b115.inS (hA.ok hok) (hA.inS hS)))  ) ?_
                rintro _ _ ⟨rfl, hh⟩
                obtain rfl := hh.symm
                clear hh
                refine XO.c (.pickT rfl rfl) rfl rfl ?_
                refine XO.c (.move rfl) rfl rfl ?_
                refine XO.splitB (x := 111) rfl (fun g16_19 => ?_) (fun g16_19 => ?_)
                · refine XO.gcall rfl rfl rfl rfl rfl rfl rfl ?_
                  refine EvF.mono (awake_ok  ) ?_
                  rintro _ _ ⟨rfl, hh⟩
                  obtain rfl := hh.symm
                  clear hh
                  refine XO.c (.pickT rfl rfl) rfl rfl ?_
                  refine XO.c (.assign rfl) rfl rfl ?_
                  refine XO.nil (thenC.go ?_)
                  refine XC.ret fun tf htf => ?_
                  refine endF.one rfl rfl (htf 4 _ rfl) ?_
                  exact ⟨congrArg Value.bool (by first | rfl | exact absurd rfl g16_5 | exact absurd ((ratio_fin (exceed_one c7 e0) (fun _ => rfl)).symm.trans g16_12) (by decide) | exact absurd ((ratio_fin (exceed_one c7 e0) (fun h => absurd h c12)).symm.trans g16_12) (by decide) | exact absurd ((ratio_fin (exceed_no c7) (fun _ => rfl)).symm.trans g16_12) (by decide) | exact absurd ((ratio_fin (exceed_no c7) (fun h => absurd h c12)).symm.trans g16_12) (by decide) | exact absurd ((number_fin (quant_one c7 e0 g9_3) (fun _ => rfl)).symm.trans g16_19) (by decide) | exact absurd ((number_fin (quant_one c7 e0 g9_3) (fun h => absurd h c14)).symm.trans g16_19) (by decide) | exact absurd ((number_fin (quant_one2 c7 e0 g9_3) (fun _ => rfl)).symm.trans g16_19) (by decide) | exact absurd ((number_fin (quant_one2 c7 e0 g9_3) (fun h => absurd h c14)).symm.trans g16_19) (by decide) | exact absurd ((number_fin (quant_no c7) (fun _ => rfl)).symm.trans g16_19) (by decide) | exact absurd ((number_fin (quant_no c7) (fun h => absurd h c14)).symm.trans g16_19) (by decide)), hA.leftAf rfl⟩
                · refine XO.skip rfl rfl rfl rfl rfl ?_
                  refine XO.c (.pickF rfl rfl) rfl rfl ?_
                  refine XO.c (.assign rfl) rfl rfl ?_
                  refine XO.nil (thenC.go ?_)
                  refine XC.ret fun tf htf => ?_
                  refine endF.one rfl rfl (htf 4 _ rfl) ?_
                  exact ⟨congrArg Value.bool (by first | rfl | exact absurd rfl g16_5 | exact absurd ((ratio_fin (exceed_one c7 e0) (fun _ => rfl)).symm.trans g16_12) (by decide) | exact absurd ((ratio_fin (exceed_one c7 e0) (fun h => absurd h c12)).symm.trans g16_12) (by decide) | exact absurd ((ratio_fin (exceed_no c7) (fun _ => rfl)).symm.trans g16_12) (by decide) | exact absurd ((ratio_fin (exceed_no c7) (fun h => absurd h c12)).symm.trans g16_12) (by decide) | exact absurd ((number_fin (quant_one c7 e0 g9_3) (fun _ => rfl)).symm.trans g16_19) (by decide) | exact absurd ((number_fin (quant_one c7 e0 g9_3) (fun h => absurd h c14)).symm.trans g16_19) (by decide) | exact absurd ((number_fin (quant_one2 c7 e0 g9_3) (fun _ => rfl)).symm.trans g16_19) (by decide) | exact absurd ((number_fin (quant_one2 c7 e0 g9_3) (fun h => absurd h c14)).symm.trans g16_19) (by decide) | exact absurd ((number_fin (quant_no c7) (fun _ => rfl)).symm.trans g16_19) (by decide) | exact absurd ((number_fin (quant_no c7) (fun h => absurd h c14)).symm.trans g16_19) (by decide)), hA.leftAf rfl⟩
              · refine XO.skip rfl rfl rfl rfl rfl ?_
                refine XO.skip rfl rfl rfl rfl rfl ?_
                refine XO.skip rfl rfl rfl rfl rfl ?_
                refine XO.skip rfl rfl rfl rfl rfl ?_
                refine XO.skip rfl rfl rfl rfl rfl ?_
                refine XO.c (.pickF rfl rfl) rfl rfl ?_
                refine XO.c (.move rfl) rfl rfl ?_
                refine XO.skip rfl rfl rfl rfl rfl ?_
                refine XO.c (.pickF rfl rfl) rfl rfl ?_
                refine XO.c (.assign rfl) rfl rfl ?_
                refine XO.nil (thenC.go ?_)
                refine XC.ret fun tf htf => ?_
                refine endF.one rfl rfl (htf 4 _ rfl) ?_
                exact ⟨congrArg Value.bool (by first | rfl | exact absurd rfl g16_5 | exact absurd ((ratio_fin (exceed_one c7 e0) (fun _ => rfl)).symm.trans g16_12) (by decide) | exact absurd ((ratio_fin (exceed_one c7 e0) (fun h => absurd h c12)).symm.trans g16_12) (by decide) | exact absurd ((ratio_fin (exceed_no c7) (fun _ => rfl)).symm.trans g16_12) (by decide) | exact absurd ((ratio_fin (exceed_no c7) (fun h => absurd h c12)).symm.trans g16_12) (by decide) | exact absurd ((number_fin (quant_one c7 e0 g9_3) (fun _ => rfl)).symm.trans g16_19) (by decide) | exact absurd ((number_fin (quant_one c7 e0 g9_3) (fun h => absurd h c14)).symm.trans g16_19) (by decide) | exact absurd ((number_fin (quant_one2 c7 e0 g9_3) (fun _ => rfl)).symm.trans g16_19) (by decide) | exact absurd ((number_fin (quant_one2 c7 e0 g9_3) (fun h => absurd h c14)).symm.trans g16_19) (by decide) | exact absurd ((number_fin (quant_no c7) (fun _ => rfl)).symm.trans g16_19) (by decide) | exact absurd ((number_fin (quant_no c7) (fun h => absurd h c14)).symm.trans g16_19) (by decide)), hA.leftAf rfl⟩
            · refine XO.skip rfl rfl rfl rfl rfl ?_
              refine XO.skip rfl rfl rfl rfl rfl ?_
              refine XO.skip rfl rfl rfl rfl rfl ?_
              refine XO.skip rfl rfl rfl rfl rfl ?_
              refine XO.skip rfl rfl rfl rfl rfl ?_
              refine XO.c (.pickF rfl rfl) rfl rfl ?_
              refine XO.c (.move rfl) rfl rfl ?_
              refine XO.skip rfl rfl rfl rfl rfl ?_
              refine XO.skip rfl rfl rfl rfl rfl ?_
              refine XO.skip rfl rfl rfl rfl rfl ?_
              refine XO.skip rfl rfl rfl rfl rfl ?_
              refine XO.skip rfl rfl rfl rfl rfl ?_
              refine XO.c (.pickF rfl rfl) rfl rfl ?_
              refine XO.c (.move rfl) rfl rfl ?_
              refine XO.skip rfl rfl rfl rfl rfl ?_
              refine XO.c (.pickF rfl rfl) rfl rfl ?_
              refine XO.c (.assign rfl) rfl rfl ?_
              refine XO.nil (thenC.go ?_)
              refine XC.ret fun tf htf => ?_
              refine endF.one rfl rfl (htf 4 _ rfl) ?_
              exact ⟨congrArg Value.bool (by first | rfl | exact absurd rfl g16_5 | exact absurd ((ratio_fin (exceed_one c7 e0) (fun _ => rfl)).symm.trans g16_12) (by decide) | exact absurd ((ratio_fin (exceed_one c7 e0) (fun h => absurd h c12)).symm.trans g16_12) (by decide) | exact absurd ((ratio_fin (exceed_no c7) (fun _ => rfl)).symm.trans g16_12) (by decide) | exact absurd ((ratio_fin (exceed_no c7) (fun h => absurd h c12)).symm.trans g16_12) (by decide) | exact absurd ((number_fin (quant_one c7 e0 g9_3) (fun _ => rfl)).symm.trans g16_19) (by decide) | exact absurd ((number_fin (quant_one c7 e0 g9_3) (fun h => absurd h c14)).symm.trans g16_19) (by decide) | exact absurd ((number_fin (quant_one2 c7 e0 g9_3) (fun _ => rfl)).symm.trans g16_19) (by decide) | exact absurd ((number_fin (quant_one2 c7 e0 g9_3) (fun h => absurd h c14)).symm.trans g16_19) (by decide) | exact absurd ((number_fin (quant_no c7) (fun _ => rfl)).symm.trans g16_19) (by decide) | exact absurd ((number_fin (quant_no c7) (fun h => absurd h c14)).symm.trans g16_19) (by decide)), hA.leftAf rfl⟩
      · refine XD.gc (b := 15) rfl rfl rfl (.fieldAddr rfl ((b101).fa (f := 2) (k := 3) (by kernel_rfl))) rfl rfl rfl ?_
        refine XD.gld (b := 31) rfl rfl rfl (After.refl _) (SegsOk.cons ((After.refl _)).next SegsOk.nil) hkr135 rfl (((((b101).base.snd' (m := 1) rfl (b101).isP).snd' (m := 3) rfl (b101).isP).fst').ldInt vt3) rfl rfl rfl rfl ?_
        refine XD.gc (b := 15) rfl rfl rfl (.move rfl) rfl rfl rfl ?_
        refine XD.gc (b := 79) rfl rfl rfl (.indexAddr rfl rfl rfl (ha0.ix (j := 0) el54 (by omega))) rfl rfl rfl ?_
        refine XD.gc (b := 207) rfl rfl rfl (.fieldAddr rfl (((ha0.at (j := 0) (by omega))).fa (f := 1) (k := 1) (by kernel_rfl))) rfl rfl rfl ?_
        obtain ⟨u180, e180, s180⟩ := ((((ha0.at (j := 0) (by omega))).base.snd' (m := 1) rfl ((ha0.at (j := 0) (by omega))).isP)).ldSl vt22
        refine XD.gld (b := 463) rfl rfl rfl (After.refl _) (SegsOk.cons ((After.refl _)).next (SegsOk.cons ((After.refl _)).next SegsOk.nil)) hkr135 rfl (e180) rfl rfl rfl rfl ?_
        refine XD.ga (b := 975) rfl rfl rfl rfl (.len rfl (s180.len el22)) rfl rfl rfl rfl ?_
        refine XD.gc (b := 2047) rfl rfl rfl (.geq rfl rfl) rfl rfl rfl ?_
        refine XD.c (b := 4095) (.pickF rfl rfl) rfl rfl rfl ?_
        refine XD.callV (bb := 8191) (After.refl _) (SegsOk.cons ((After.refl _)).next (SegsOk.cons ((After.refl _)).next (SegsOk.cons ((After.refl _)).next (SegsOk.cons ((After.refl _)).next SegsOk.nil)))) rfl rfl rfl rfl rfl rfl ?_
        intro M181 aM181 oM181
        refine EvF.mono (lWhen_ok (aM181.ok hkr135) (aM181.inS hSr135)  ) ?_
        rintro _ _ ⟨rfl, hh⟩
        refine ⟨hh, ?_⟩
        clear hh
        refine XD.c (b := 0) (.fieldAddr rfl ((b101).fa (f := 3) (k := 4) (by kernel_rfl))) rfl rfl rfl ?_
        obtain ⟨u182, e182, r182⟩ := (((((b101).base.snd' (m := 1) rfl (b101).isP).snd' (m := 3) rfl (b101).isP).snd' (m := 4) rfl (b101).isP)).ldV vt58
        obtain ⟨c183_0, c183_1, rfl, r183_0, r183_1⟩ := r182.st2 rfl rfl
        obtain rfl := r183_0.int
        obtain rfl := r183_1.int
        refine XD.ld (b := 16384) (After.refl _) (SegsOk.cons ((After.refl _)).next (SegsOk.cons ((After.refl _)).next (SegsOk.cons ((After.refl _)).next (SegsOk.cons ((After.refl _)).next (SegsOk.cons ((After.refl _)).next SegsOk.nil))))) hkr135 rfl (e182) rfl rfl rfl rfl ?_
        refine XD.callV (bb := 65535) (After.refl _) (SegsOk.cons ((After.refl _)).next (SegsOk.cons ((After.refl _)).next (SegsOk.cons ((After.refl _)).next (SegsOk.cons ((After.refl _)).next (SegsOk.cons ((After.refl _)).next (SegsOk.cons ((After.refl _)).next SegsOk.nil)))))) rfl rfl rfl rfl rfl rfl ?_
        intro M184 aM184 oM184
        refine EvF.mono (rShare_ok (aM184.ok hkr135) (aM184.inS hSr135)  (q := x.2.2.2) ) ?_
        rintro _ _ ⟨rfl, hh⟩
        refine ⟨hh, ?_⟩
        clear hh
        refine XD.lit (b := 131071) (h := h132) (S := (ownP p113 ++ S)) (τ := (.int .i64)) (vsC (RepV.ofInt .i64 _) (vs1 (RepV.ofInt .i64 _))) el22 rfl rfl rfl (by simp) (by simp) (by decide) (hA.ok hok) (b115.inS (hA.ok hok) (hA.inS hS)) rfl rfl rfl rfl ?_
        intro w185 h185 s185 a185
        have ha0o := ha0
        have b101o := b101
        have s106o := s106
        have s118o := s118
        have s130o := s130
        have s132o := s132
        have s180o := s180
        have rg135 : Goes h132 (ownP p113 ++ S) h132 (ownP p113 ++ S) := Goes.refl
        have ra135 := After.refl h132
        have ok186 := hA.ok hok
        have gg186 : Goes h132 (ownP p113 ++ S) h185 (ownP p113 ++ S) := a185.nx ok186
        replace hA := hA.trans a185
        replace ha0 := ha0.nx gg186
        replace b101 := b101.nx gg186
        replace s106 := s106.nx gg186
        replace s118 := s118.nx gg186
        replace s130 := s130.nx gg186
        replace s132 := s132.nx gg186
        replace s180 := s180.nx gg186
        replace b115 := b115.keep a185 ok186
        replace rg135 := rg135.trans gg186
        have ra135_185 := ra135.trans a185
        refine XD.callV (bb := 262143) ra135_185 (SegsOk.cons (ra135).next (SegsOk.cons ((After.refl _)).next (SegsOk.cons ((After.refl _)).next (SegsOk.cons ((After.refl _)).next (SegsOk.cons ((After.refl _)).next (SegsOk.cons ((After.refl _)).next (SegsOk.cons ((After.refl _)).next (SegsOk.cons ((After.refl _)).next SegsOk.nil)))))))) rfl rfl rfl rfl rfl rfl ?_
        intro M187 aM187 oM187
        obtain rfl := oM187 rfl
        refine EvF.mono (lFirst_ok (hA.ok hok) (b115.inS (hA.ok hok) (hA.inS hS)) (s185).entry (by simp)) ?_
        rintro _ _ ⟨rfl, hh⟩
        refine ⟨hh, ?_⟩
        clear hh
        refine XD.c (b := 524287) (.assign rfl) rfl rfl rfl ?_
        refine XD.nil (thenC.go ?_)
        refine XC.seq ?_
        refine XC.text ?_
        have iq188 := (b115.inS (hA.ok hok) (hA.inS hS))
        refine XO.allocF (z := .agg #[.int .i64 0, .int .i64 0]) (by kernel_rfl) rfl rfl hA hok rfl rfl ?_
        intro p188 h188 b188 a188 gs188 fq188
        have dj188_0 := apart (q := ownP p113) fq188 (fun b hb => iq188 b (by simp [hb]))
        have ok189 := hA.ok hok
        have gg189 : Goes h185 (ownP p113 ++ S) h188 (ownP p188 ++ (ownP p113 ++ S)) := gs188 _
        replace hA := hA.trans a188
        replace ha0 := ha0.nx gg189
        replace b101 := b101.nx gg189
        replace s106 := s106.nx gg189
        replace s118 := s118.nx gg189
        replace s130 := s130.nx gg189
        replace s132 := s132.nx gg189
        replace s180 := s180.nx gg189
        replace s185 := s185.nx gg189
        replace b115 := b115.keep a188 ok189
        refine XO.nil (thenC.go ?_)
        refine XC.seq ?_
        refine XC.text ?_
        refine XO.c (.assign rfl) rfl rfl ?_
        refine XO.nil (thenC.go ?_)
        refine XC.seq ?_
        refine XC.seq ?_
        refine XC.text ?_
        refine XO.c (.move rfl) rfl rfl ?_
        refine XO.c (.eql rfl rfl) rfl rfl ?_
        refine XO.nil (thenC.go ?_)
        refine XC.condD rfl (fun c12 => ?_) (fun c12 => ?_)
        · have hX := (by first | exact absurd c12 c7 | exact exceedB_ok ((exceed_one c7 e0).trans c12) : OkE l ∧ (0 ≤ x.2.1.1 ∧ x.2.1.1 ≤ x.2.1.2 ∧ x.2.1.2 ≤ (len0 l : Nat)))
          refine XC.text ?_
          refine XO.c (.move rfl) rfl rfl ?_
          refine XO.c (.fieldAddr rfl ((b101).fa (f := 0) (k := 0) (by kernel_rfl))) rfl rfl ?_
          refine XO.r (.load rfl (((b101).base.fst').ldInt vt3)) rfl rfl ?_
          refine XO.c (.fieldAddr rfl ((b101).fa (f := 1) (k := 1) (by kernel_rfl))) rfl rfl ?_
          obtain ⟨u190, e190, r190⟩ := (((b101).base.snd' (m := 1) rfl (b101).isP).fst').ldV vt56
          obtain ⟨c191_0, c191_1, rfl, r191_0, r191_1⟩ := r190.st2 rfl rfl
          obtain rfl := r191_0.int
          obtain rfl := r191_1.int
          refine XO.r (.load rfl (e190)) rfl rfl ?_
          refine XO.call rfl rfl rfl rfl ?_
          refine EvF.mono (rExceed_ok (hA.ok hok) (b188.inS (hA.ok hok) (b115.inS (hA.ok hok) (hA.inS hS))) ha0 (s := x.2.1) hX.1 hX.2) ?_
          rintro _ _ ⟨rfl, hh⟩
          obtain rfl := hh.symm
          clear hh
          obtain ⟨h193, e193, b193, a193, n193, nn193, fr193, lw193⟩ := b188.st0 (S := (ownP p113 ++ S)) (h0 := (entry h)) (u := .agg #[.int .i64 ((exceedE l x.1 x.2.1).1), .int .i64 ((exceedE l x.1 x.2.1).2)]) vt58 rfl rfl (Nat.le_of_ble_eq_true rfl) (One.oneAll ⟨⟨rfl, rfl⟩, ⟨⟨rfl, rfl⟩, trivial⟩⟩) hA (show HOk h188 from hA.ok hok)
          refine XO.st rfl rfl e193 ?_
          have ok194 := hA.ok hok
          have gg194 : Goes h188 (ownP p188 ++ (ownP p113 ++ S)) h193 (ownP p188 ++ (ownP p113 ++ S)) := n193
          replace hA := a193
          replace ha0 := ha0.nx gg194
          replace b101 := b101.nx gg194
          replace s106 := s106.nx gg194
          replace s118 := s118.nx gg194
          replace s130 := s130.nx gg194
          replace s132 := s132.nx gg194
          replace s180 := s180.nx gg194
          replace s185 := s185.nx gg194
          replace b115 := b115.chg fun b hb => fr193 b (fun hm => dj188_0 b hm hb)
          refine XO.nil (thenC.go ?_)
          refine XC.seq ?_
          refine XC.seq ?_
          refine XC.text ?_
          refine XO.c (.move rfl) rfl rfl ?_
          refine XO.c (.eql rfl rfl) rfl rfl ?_
          refine XO.nil (thenC.go ?_)
          refine XC.condD rfl (fun c14 => ?_) (fun c14 => ?_)
          · have hY := (by first | exact absurd c14 c7 | exact quantB_ok ((quant_one c7 e0 g9_3).trans c14) | exact quantB_ok ((quant_one2 c7 e0 g9_3).trans c14) : OkQ l x.2.2.1 x.2.2.2)
            refine XC.text ?_
            refine XO.c (.move rfl) rfl rfl ?_
            refine XO.c (.fieldAddr rfl ((b101).fa (f := 2) (k := 3) (by kernel_rfl))) rfl rfl ?_
            refine XO.r (.load rfl (((((b101).base.snd' (m := 1) rfl (b101).isP).snd' (m := 3) rfl (b101).isP).fst').ldInt vt3)) rfl rfl ?_
            refine XO.c (.fieldAddr rfl ((b101).fa (f := 3) (k := 4) (by kernel_rfl))) rfl rfl ?_
            obtain ⟨u195, e195, r195⟩ := (((((b101).base.snd' (m := 1) rfl (b101).isP).snd' (m := 3) rfl (b101).isP).snd' (m := 4) rfl (b101).isP)).ldV vt58
            obtain ⟨c196_0, c196_1, rfl, r196_0, r196_1⟩ := r195.st2 rfl rfl
            obtain rfl := r196_0.int
            obtain rfl := r196_1.int
            refine XO.r (.load rfl (e195)) rfl rfl ?_
            refine XO.call rfl rfl rfl rfl ?_
            refine EvF.mono (rQuantile_ok (hA.ok hok) (b193.inS (hA.ok hok) (b115.inS (hA.ok hok) (hA.inS hS))) ha0 (s := x.2.2.2) hY) ?_
            rintro _ _ ⟨rfl, hh⟩
            obtain rfl := hh.symm
            clear hh
            refine XO.c (.assign rfl) rfl rfl ?_
            refine XO.nil (thenC.go ?_)
            refine XC.seq ?_
            refine XC.text ?_
            refine XO.c (.move rfl) rfl rfl ?_
            refine XO.call rfl rfl rfl rfl ?_
            refine EvF.mono (lCourses_ok (hA.ok hok) (b193.inS (hA.ok hok) (b115.inS (hA.ok hok) (hA.inS hS))) ha0 (by omega) hc) ?_
            rintro u198 h198 ⟨a198, s198⟩
            have ok199 := hA.ok hok
            have gg199 : Goes h193 (ownP p188 ++ (ownP p113 ++ S)) h198 (ownP p188 ++ (ownP p113 ++ S)) := a198.nx ok199
            replace hA := hA.trans a198
            replace ha0 := ha0.nx gg199
            replace b101 := b101.nx gg199
            replace s106 := s106.nx gg199
            replace s118 := s118.nx gg199
            replace s130 := s130.nx gg199
            replace s132 := s132.nx gg199
            replace s180 := s180.nx gg199
            replace s185 := s185.nx gg199
            replace b115 := b115.keep a198 ok199
            replace b193 := b193.keep a198 ok199
            refine XO.call rfl rfl rfl rfl ?_
            refine EvF.mono (sEnsemble_ok (hA.ok hok) (b193.inS (hA.ok hok) (b115.inS (hA.ok hok) (hA.inS hS))) s198 hc) ?_
            rintro _ _ ⟨rfl, hh⟩
            obtain rfl := hh.symm
            clear hh
            refine XO.c (.move rfl) rfl rfl ?_
            refine XO.c (.eql rfl rfl) rfl rfl ?_
            refine XO.c (.move rfl) rfl rfl ?_
            refine XO.splitD (x := 97) rfl (fun g16_5 => ?_) (fun g16_5 => ?_)
            · refine XO.gr rfl rfl rfl (.load rfl (b115.ldA vt58 rfl rfl)) rfl rfl ?_
              refine XO.gc rfl rfl rfl (.move rfl) rfl rfl ?_
              refine XO.gc rfl rfl rfl (.move rfl) rfl rfl ?_
              refine XO.gr rfl rfl rfl (.load rfl (b193.ldA vt58 rfl rfl)) rfl rfl ?_
              refine XO.gcall rfl rfl rfl rfl rfl rfl rfl ?_
              refine EvF.mono (lRatio_ok (hA.ok hok) (b193.inS (hA.ok hok) (b115.inS (hA.ok hok) (hA.inS hS)))  (want := ((exceedE l x.1 x.2.1).1, (exceedE l x.1 x.2.1).2)) (hv := ((if exceedB l x.1 x.2.1 = 0 then exceedE l x.1 x.2.1 else (0, 0)).1, (if exceedB l x.1 x.2.1 = 0 then exceedE l x.1 x.2.1 else (0, 0)).2)) ) ?_
              rintro _ _ ⟨rfl, hh⟩
              obtain rfl := hh.symm
              clear hh
              refine XO.c (.pickT rfl rfl) rfl rfl ?_
              refine XO.c (.move rfl) rfl rfl ?_
              refine XO.splitB (x := 104) rfl (fun g16_12 => ?_) (fun g16_12 => ?_)
              · refine XO.gc rfl rfl rfl (.move rfl) rfl rfl ?_
                refine XO.gc rfl rfl rfl (.move rfl) rfl rfl ?_
                refine XO.gc rfl rfl rfl (.move rfl) rfl rfl ?_
                refine XO.gc rfl rfl rfl (.move rfl) rfl rfl ?_
                refine XO.gcall rfl rfl rfl rfl rfl rfl rfl ?_
                refine EvF.mono (lNumber_ok (hA.ok hok) (b193.inS (hA.ok hok) (b115.inS (hA.ok hok) (hA.inS hS)))  ) ?_
                rintro _ _ ⟨rfl, hh⟩
                obtain rfl := hh.symm
                clear hh
                refine XO.c (.pickT rfl rfl) rfl rfl ?_
                refine XO.c (.move rfl) rfl rfl ?_
                refine XO.splitB (x := 111) rfl (fun g16_19 => ?_) (fun g16_19 => ?_)
                · refine XO.gcall rfl rfl rfl rfl rfl rfl rfl ?_
                  refine EvF.mono (awake_ok  ) ?_
                  rintro _ _ ⟨rfl, hh⟩
                  obtain rfl := hh.symm
                  clear hh
                  refine XO.c (.pickT rfl rfl) rfl rfl ?_
                  refine XO.c (.assign rfl) rfl rfl ?_
                  refine XO.nil (thenC.go ?_)
                  refine XC.ret fun tf htf => ?_
                  refine endF.one rfl rfl (htf 4 _ rfl) ?_
                  exact ⟨congrArg Value.bool (by first | rfl | exact absurd rfl g16_5 | exact absurd ((ratio_fin (exceed_one c7 e0) (fun _ => rfl)).symm.trans g16_12) (by decide) | exact absurd ((ratio_fin (exceed_one c7 e0) (fun h => absurd h c12)).symm.trans g16_12) (by decide) | exact absurd ((ratio_fin (exceed_no c7) (fun _ => rfl)).symm.trans g16_12) (by decide) | exact absurd ((ratio_fin (exceed_no c7) (fun h => absurd h c12)).symm.trans g16_12) (by decide) | exact absurd ((number_fin (quant_one c7 e0 g9_3) (fun _ => rfl)).symm.trans g16_19) (by decide) | exact absurd ((number_fin (quant_one c7 e0 g9_3) (fun h => absurd h c14)).symm.trans g16_19) (by decide) | exact absurd ((number_fin (quant_one2 c7 e0 g9_3) (fun _ => rfl)).symm.trans g16_19) (by decide) | exact absurd ((number_fin (quant_one2 c7 e0 g9_3) (fun h => absurd h c14)).symm.trans g16_19) (by decide) | exact absurd ((number_fin (quant_no c7) (fun _ => rfl)).symm.trans g16_19) (by decide) | exact absurd ((number_fin (quant_no c7) (fun h => absurd h c14)).symm.trans g16_19) (by decide)), hA.leftAf rfl⟩
                · refine XO.skip rfl rfl rfl rfl rfl ?_
                  refine XO.c (.pickF rfl rfl) rfl rfl ?_
                  refine XO.c (.assign rfl) rfl rfl ?_
                  refine XO.nil (thenC.go ?_)
                  refine XC.ret fun tf htf => ?_
                  refine endF.one rfl rfl (htf 4 _ rfl) ?_
                  exact ⟨congrArg Value.bool (by first | rfl | exact absurd rfl g16_5 | exact absurd ((ratio_fin (exceed_one c7 e0) (fun _ => rfl)).symm.trans g16_12) (by decide) | exact absurd ((ratio_fin (exceed_one c7 e0) (fun h => absurd h c12)).symm.trans g16_12) (by decide) | exact absurd ((ratio_fin (exceed_no c7) (fun _ => rfl)).symm.trans g16_12) (by decide) | exact absurd ((ratio_fin (exceed_no c7) (fun h => absurd h c12)).symm.trans g16_12) (by decide) | exact absurd ((number_fin (quant_one c7 e0 g9_3) (fun _ => rfl)).symm.trans g16_19) (by decide) | exact absurd ((number_fin (quant_one c7 e0 g9_3) (fun h => absurd h c14)).symm.trans g16_19) (by decide) | exact absurd ((number_fin (quant_one2 c7 e0 g9_3) (fun _ => rfl)).symm.trans g16_19) (by decide) | exact absurd ((number_fin (quant_one2 c7 e0 g9_3) (fun h => absurd h c14)).symm.trans g16_19) (by decide) | exact absurd ((number_fin (quant_no c7) (fun _ => rfl)).symm.trans g16_19) (by decide) | exact absurd ((number_fin (quant_no c7) (fun h => absurd h c14)).symm.trans g16_19) (by decide)), hA.leftAf rfl⟩
              · refine XO.skip rfl rfl rfl rfl rfl ?_
                refine XO.skip rfl rfl rfl rfl rfl ?_
                refine XO.skip rfl rfl rfl rfl rfl ?_
                refine XO.skip rfl rfl rfl rfl rfl ?_
                refine XO.skip rfl rfl rfl rfl rfl ?_
                refine XO.c (.pickF rfl rfl) rfl rfl ?_
                refine XO.c (.move rfl) rfl rfl ?_
                refine XO.skip rfl rfl rfl rfl rfl ?_
                refine XO.c (.pickF rfl rfl) rfl rfl ?_
                refine XO.c (.assign rfl) rfl rfl ?_
                refine XO.nil (thenC.go ?_)
                refine XC.ret fun tf htf => ?_
                refine endF.one rfl rfl (htf 4 _ rfl) ?_
                exact ⟨congrArg Value.bool (by first | rfl | exact absurd rfl g16_5 | exact absurd ((ratio_fin (exceed_one c7 e0) (fun _ => rfl)).symm.trans g16_12) (by decide) | exact absurd ((ratio_fin (exceed_one c7 e0) (fun h => absurd h c12)).symm.trans g16_12) (by decide) | exact absurd ((ratio_fin (exceed_no c7) (fun _ => rfl)).symm.trans g16_12) (by decide) | exact absurd ((ratio_fin (exceed_no c7) (fun h => absurd h c12)).symm.trans g16_12) (by decide) | exact absurd ((number_fin (quant_one c7 e0 g9_3) (fun _ => rfl)).symm.trans g16_19) (by decide) | exact absurd ((number_fin (quant_one c7 e0 g9_3) (fun h => absurd h c14)).symm.trans g16_19) (by decide) | exact absurd ((number_fin (quant_one2 c7 e0 g9_3) (fun _ => rfl)).symm.trans g16_19) (by decide) | exact absurd ((number_fin (quant_one2 c7 e0 g9_3) (fun h => absurd h c14)).symm.trans g16_19) (by decide) | exact absurd ((number_fin (quant_no c7) (fun _ => rfl)).symm.trans g16_19) (by decide) | exact absurd ((number_fin (quant_no c7) (fun h => absurd h c14)).symm.trans g16_19) (by decide)), hA.leftAf rfl⟩
            · refine XO.skip rfl rfl rfl rfl rfl ?_
              refine XO.skip rfl rfl rfl rfl rfl ?_
              refine XO.skip rfl rfl rfl rfl rfl ?_
              refine XO.skip rfl rfl rfl rfl rfl ?_
              refine XO.skip rfl rfl rfl rfl rfl ?_
              refine XO.c (.pickF rfl rfl) rfl rfl ?_
              refine XO.c (.move rfl) rfl rfl ?_
              refine XO.skip rfl rfl rfl rfl rfl ?_
              refine XO.skip rfl rfl rfl rfl rfl ?_
              refine XO.skip rfl rfl rfl rfl rfl ?_
              refine XO.skip rfl rfl rfl rfl rfl ?_
              refine XO.skip rfl rfl rfl rfl rfl ?_
              refine XO.c (.pickF rfl rfl) rfl rfl ?_
              refine XO.c (.move rfl) rfl rfl ?_
              refine XO.skip rfl rfl rfl rfl rfl ?_
              refine XO.c (.pickF rfl rfl) rfl rfl ?_
              refine XO.c (.assign rfl) rfl rfl ?_
              refine XO.nil (thenC.go ?_)
              refine XC.ret fun tf htf => ?_
              refine endF.one rfl rfl (htf 4 _ rfl) ?_
              exact ⟨congrArg Value.bool (by first | rfl | exact absurd rfl g16_5 | exact absurd ((ratio_fin (exceed_one c7 e0) (fun _ => rfl)).symm.trans g16_12) (by decide) | exact absurd ((ratio_fin (exceed_one c7 e0) (fun h => absurd h c12)).symm.trans g16_12) (by decide) | exact absurd ((ratio_fin (exceed_no c7) (fun _ => rfl)).symm.trans g16_12) (by decide) | exact absurd ((ratio_fin (exceed_no c7) (fun h => absurd h c12)).symm.trans g16_12) (by decide) | exact absurd ((number_fin (quant_one c7 e0 g9_3) (fun _ => rfl)).symm.trans g16_19) (by decide) | exact absurd ((number_fin (quant_one c7 e0 g9_3) (fun h => absurd h c14)).symm.trans g16_19) (by decide) | exact absurd ((number_fin (quant_one2 c7 e0 g9_3) (fun _ => rfl)).symm.trans g16_19) (by decide) | exact absurd ((number_fin (quant_one2 c7 e0 g9_3) (fun h => absurd h c14)).symm.trans g16_19) (by decide) | exact absurd ((number_fin (quant_no c7) (fun _ => rfl)).symm.trans g16_19) (by decide) | exact absurd ((number_fin (quant_no c7) (fun h => absurd h c14)).symm.trans g16_19) (by decide)), hA.leftAf rfl⟩
          · refine XC.skip (thenC.go ?_)
            refine XC.seq ?_
            refine XC.text ?_
            refine XO.c (.move rfl) rfl rfl ?_
            refine XO.call rfl rfl rfl rfl ?_
            refine EvF.mono (lCourses_ok (hA.ok hok) (b193.inS (hA.ok hok) (b115.inS (hA.ok hok) (hA.inS hS))) ha0 (by omega) hc) ?_
            rintro u204 h204 ⟨a204, s204⟩
            have ok205 := hA.ok hok
            have gg205 : Goes h193 (ownP p188 ++ (ownP p113 ++ S)) h204 (ownP p188 ++ (ownP p113 ++ S)) := a204.nx ok205
            replace hA := hA.trans a204
            replace ha0 := ha0.nx gg205
            replace b101 := b101.nx gg205
            replace s106 := s106.nx gg205
            replace s118 := s118.nx gg205
            replace s130 := s130.nx gg205
            replace s132 := s132.nx gg205
            replace s180 := s180.nx gg205
            replace s185 := s185.nx gg205
            replace b115 := b115.keep a204 ok205
            replace b193 := b193.keep a204 ok205
            refine XO.call rfl rfl rfl rfl ?_
            refine EvF.mono (sEnsemble_ok (hA.ok hok) (b193.inS (hA.ok hok) (b115.inS (hA.ok hok) (hA.inS hS))) s204 hc) ?_
            rintro _ _ ⟨rfl, hh⟩
            obtain rfl := hh.symm
            clear hh
            refine XO.c (.move rfl) rfl rfl ?_
            refine XO.c (.eql rfl rfl) rfl rfl ?_
            refine XO.c (.move rfl) rfl rfl ?_
            refine XO.splitD (x := 97) rfl (fun g16_5 => ?_) (fun g16_5 => ?_)
            · refine XO.gr rfl rfl rfl (.load rfl (b115.ldA vt58 rfl rfl)) rfl rfl ?_
              refine XO.gc rfl rfl rfl (.move rfl) rfl rfl ?_
              refine XO.gc rfl rfl rfl (.move rfl) rfl rfl ?_
              refine XO.gr rfl rfl rfl (.load rfl (b193.ldA vt58 rfl rfl)) rfl rfl ?_
              refine XO.gcall rfl rfl rfl rfl rfl rfl rfl ?_
              refine EvF.mono (lRatio_ok (hA.ok hok) (b193.inS (hA.ok hok) (b115.inS (hA.ok hok) (hA.inS hS)))  (want := ((exceedE l x.1 x.2.1).1, (exceedE l x.1 x.2.1).2)) (hv := ((if exceedB l x.1 x.2.1 = 0 then exceedE l x.1 x.2.1 else (0, 0)).1, (if exceedB l x.1 x.2.1 = 0 then exceedE l x.1 x.2.1 else (0, 0)).2)) ) ?_
              rintro _ _ ⟨rfl, hh⟩
              obtain rfl := hh.symm
              clear hh
              refine XO.c (.pickT rfl rfl) rfl rfl ?_
              refine XO.c (.move rfl) rfl rfl ?_
              refine XO.splitB (x := 104) rfl (fun g16_12 => ?_) (fun g16_12 => ?_)
              · refine XO.gc rfl rfl rfl (.move rfl) rfl rfl ?_
                refine XO.gc rfl rfl rfl (.move rfl) rfl rfl ?_
                refine XO.gc rfl rfl rfl (.move rfl) rfl rfl ?_
                refine XO.gc rfl rfl rfl (.move rfl) rfl rfl ?_
                refine XO.gcall rfl rfl rfl rfl rfl rfl rfl ?_
                refine EvF.mono (lNumber_ok (hA.ok hok) (b193.inS (hA.ok hok) (b115.inS (hA.ok hok) (hA.inS hS)))  ) ?_
                rintro _ _ ⟨rfl, hh⟩
                obtain rfl := hh.symm
                clear hh
                refine XO.c (.pickT rfl rfl) rfl rfl ?_
                refine XO.c (.move rfl) rfl rfl ?_
                refine XO.splitB (x := 111) rfl (fun g16_19 => ?_) (fun g16_19 => ?_)
                · refine XO.gcall rfl rfl rfl rfl rfl rfl rfl ?_
                  refine EvF.mono (awake_ok  ) ?_
                  rintro _ _ ⟨rfl, hh⟩
                  obtain rfl := hh.symm
                  clear hh
                  refine XO.c (.pickT rfl rfl) rfl rfl ?_
                  refine XO.c (.assign rfl) rfl rfl ?_
                  refine XO.nil (thenC.go ?_)
                  refine XC.ret fun tf htf => ?_
                  refine endF.one rfl rfl (htf 4 _ rfl) ?_
                  exact ⟨congrArg Value.bool (by first | rfl | exact absurd rfl g16_5 | exact absurd ((ratio_fin (exceed_one c7 e0) (fun _ => rfl)).symm.trans g16_12) (by decide) | exact absurd ((ratio_fin (exceed_one c7 e0) (fun h => absurd h c12)).symm.trans g16_12) (by decide) | exact absurd ((ratio_fin (exceed_no c7) (fun _ => rfl)).symm.trans g16_12) (by decide) | exact absurd ((ratio_fin (exceed_no c7) (fun h => absurd h c12)).symm.trans g16_12) (by decide) | exact absurd ((number_fin (quant_one c7 e0 g9_3) (fun _ => rfl)).symm.trans g16_19) (by decide) | exact absurd ((number_fin (quant_one c7 e0 g9_3) (fun h => absurd h c14)).symm.trans g16_19) (by decide) | exact absurd ((number_fin (quant_one2 c7 e0 g9_3) (fun _ => rfl)).symm.trans g16_19) (by decide) | exact absurd ((number_fin (quant_one2 c7 e0 g9_3) (fun h => absurd h c14)).symm.trans g16_19) (by decide) | exact absurd ((number_fin (quant_no c7) (fun _ => rfl)).symm.trans g16_19) (by decide) | exact absurd ((number_fin (quant_no c7) (fun h => absurd h c14)).symm.trans g16_19) (by decide)), hA.leftAf rfl⟩
                · refine XO.skip rfl rfl rfl rfl rfl ?_
                  refine XO.c (.pickF rfl rfl) rfl rfl ?_
                  refine XO.c (.assign rfl) rfl rfl ?_
                  refine XO.nil (thenC.go ?_)
                  refine XC.ret fun tf htf => ?_
                  refine endF.one rfl rfl (htf 4 _ rfl) ?_
                  exact ⟨congrArg Value.bool (by first | rfl | exact absurd rfl g16_5 | exact absurd ((ratio_fin (exceed_one c7 e0) (fun _ => rfl)).symm.trans g16_12) (by decide) | exact absurd ((ratio_fin (exceed_one c7 e0) (fun h => absurd h c12)).symm.trans g16_12) (by decide) | exact absurd ((ratio_fin (exceed_no c7) (fun _ => rfl)).symm.trans g16_12) (by decide) | exact absurd ((ratio_fin (exceed_no c7) (fun h => absurd h c12)).symm.trans g16_12) (by decide) | exact absurd ((number_fin (quant_one c7 e0 g9_3) (fun _ => rfl)).symm.trans g16_19) (by decide) | exact absurd ((number_fin (quant_one c7 e0 g9_3) (fun h => absurd h c14)).symm.trans g16_19) (by decide) | exact absurd ((number_fin (quant_one2 c7 e0 g9_3) (fun _ => rfl)).symm.trans g16_19) (by decide) | exact absurd ((number_fin (quant_one2 c7 e0 g9_3) (fun h => absurd h c14)).symm.trans g16_19) (by decide) | exact absurd ((number_fin (quant_no c7) (fun _ => rfl)).symm.trans g16_19) (by decide) | exact absurd ((number_fin (quant_no c7) (fun h => absurd h c14)).symm.trans g16_19) (by decide)), hA.leftAf rfl⟩
              · refine XO.skip rfl rfl rfl rfl rfl ?_
                refine XO.skip rfl rfl rfl rfl rfl ?_
                refine XO.skip rfl rfl rfl rfl rfl ?_
                refine XO.skip rfl rfl rfl rfl rfl ?_
                refine XO.skip rfl rfl rfl rfl rfl ?_
                refine XO.c (.pickF rfl rfl) rfl rfl ?_
                refine XO.c (.move rfl) rfl rfl ?_
                refine XO.skip rfl rfl rfl rfl rfl ?_
                refine XO.c (.pickF rfl rfl) rfl rfl ?_
                refine XO.c (.assign rfl) rfl rfl ?_
                refine XO.nil (thenC.go ?_)
                refine XC.ret fun tf htf => ?_
                refine endF.one rfl rfl (htf 4 _ rfl) ?_
                exact ⟨congrArg Value.bool (by first | rfl | exact absurd rfl g16_5 | exact absurd ((ratio_fin (exceed_one c7 e0) (fun _ => rfl)).symm.trans g16_12) (by decide) | exact absurd ((ratio_fin (exceed_one c7 e0) (fun h => absurd h c12)).symm.trans g16_12) (by decide) | exact absurd ((ratio_fin (exceed_no c7) (fun _ => rfl)).symm.trans g16_12) (by decide) | exact absurd ((ratio_fin (exceed_no c7) (fun h => absurd h c12)).symm.trans g16_12) (by decide) | exact absurd ((number_fin (quant_one c7 e0 g9_3) (fun _ => rfl)).symm.trans g16_19) (by decide) | exact absurd ((number_fin (quant_one c7 e0 g9_3) (fun h => absurd h c14)).symm.trans g16_19) (by decide) | exact absurd ((number_fin (quant_one2 c7 e0 g9_3) (fun _ => rfl)).symm.trans g16_19) (by decide) | exact absurd ((number_fin (quant_one2 c7 e0 g9_3) (fun h => absurd h c14)).symm.trans g16_19) (by decide) | exact absurd ((number_fin (quant_no c7) (fun _ => rfl)).symm.trans g16_19) (by decide) | exact absurd ((number_fin (quant_no c7) (fun h => absurd h c14)).symm.trans g16_19) (by decide)), hA.leftAf rfl⟩
            · refine XO.skip rfl rfl rfl rfl rfl ?_
              refine XO.skip rfl rfl rfl rfl rfl ?_
              refine XO.skip rfl rfl rfl rfl rfl ?_
              refine XO.skip rfl rfl rfl rfl rfl ?_
              refine XO.skip rfl rfl rfl rfl rfl ?_
              refine XO.c (.pickF rfl rfl) rfl rfl ?_
              refine XO.c (.move rfl) rfl rfl ?_
              refine XO.skip rfl rfl rfl rfl rfl ?_
              refine XO.skip rfl rfl rfl rfl rfl ?_
              refine XO.skip rfl rfl rfl rfl rfl ?_
              refine XO.skip rfl rfl rfl rfl rfl ?_
              refine XO.skip rfl rfl rfl rfl rfl ?_
              refine XO.c (.pickF rfl rfl) rfl rfl ?_
              refine XO.c (.move rfl) rfl rfl ?_
              refine XO.skip rfl rfl rfl rfl rfl ?_
              refine XO.c (.pickF rfl rfl) rfl rfl ?_
              refine XO.c (.assign rfl) rfl rfl ?_
              refine XO.nil (thenC.go ?_)
              refine XC.ret fun tf htf => ?_
              refine endF.one rfl rfl (htf 4 _ rfl) ?_
              exact ⟨congrArg Value.bool (by first | rfl | exact absurd rfl g16_5 | exact absurd ((ratio_fin (exceed_one c7 e0) (fun _ => rfl)).symm.trans g16_12) (by decide) | exact absurd ((ratio_fin (exceed_one c7 e0) (fun h => absurd h c12)).symm.trans g16_12) (by decide) | exact absurd ((ratio_fin (exceed_no c7) (fun _ => rfl)).symm.trans g16_12) (by decide) | exact absurd ((ratio_fin (exceed_no c7) (fun h => absurd h c12)).symm.trans g16_12) (by decide) | exact absurd ((number_fin (quant_one c7 e0 g9_3) (fun _ => rfl)).symm.trans g16_19) (by decide) | exact absurd ((number_fin (quant_one c7 e0 g9_3) (fun h => absurd h c14)).symm.trans g16_19) (by decide) | exact absurd ((number_fin (quant_one2 c7 e0 g9_3) (fun _ => rfl)).symm.trans g16_19) (by decide) | exact absurd ((number_fin (quant_one2 c7 e0 g9_3) (fun h => absurd h c14)).symm.trans g16_19) (by decide) | exact absurd ((number_fin (quant_no c7) (fun _ => rfl)).symm.trans g16_19) (by decide) | exact absurd ((number_fin (quant_no c7) (fun h => absurd h c14)).symm.trans g16_19) (by decide)), hA.leftAf rfl⟩
        · refine XC.skip (thenC.go ?_)
          refine XC.seq ?_
          refine XC.seq ?_
          refine XC.text ?_
          refine XO.c (.move rfl) rfl rfl ?_
          refine XO.c (.eql rfl rfl) rfl rfl ?_
          refine XO.nil (thenC.go ?_)
          refine XC.condD rfl (fun c14 => ?_) (fun c14 => ?_)
          · have hY := (by first | exact absurd c14 c7 | exact quantB_ok ((quant_one c7 e0 g9_3).trans c14) | exact quantB_ok ((quant_one2 c7 e0 g9_3).trans c14) : OkQ l x.2.2.1 x.2.2.2)
            refine XC.text ?_
            refine XO.c (.move rfl) rfl rfl ?_
            refine XO.c (.fieldAddr rfl ((b101).fa (f := 2) (k := 3) (by kernel_rfl))) rfl rfl ?_
            refine XO.r (.load rfl (((((b101).base.snd' (m := 1) rfl (b101).isP).snd' (m := 3) rfl (b101).isP).fst').ldInt vt3)) rfl rfl ?_
            refine XO.c (.fieldAddr rfl ((b101).fa (f := 3) (k := 4) (by kernel_rfl))) rfl rfl ?_
            obtain ⟨u210, e210, r210⟩ := (((((b101).base.snd' (m := 1) rfl (b101).isP).snd' (m := 3) rfl (b101).isP).snd' (m := 4) rfl (b101).isP)).ldV vt58
            obtain ⟨c211_0, c211_1, rfl, r211_0, r211_1⟩ := r210.st2 rfl rfl
            obtain rfl := r211_0.int
            obtain rfl := r211_1.int
            refine XO.r (.load rfl (e210)) rfl rfl ?_
            refine XO.call rfl rfl rfl rfl ?_
            refine EvF.mono (rQuantile_ok (hA.ok hok) (b188.inS (hA.ok hok) (b115.inS (hA.ok hok) (hA.inS hS))) ha0 (s := x.2.2.2) hY) ?_
            rintro _ _ ⟨rfl, hh⟩
            obtain rfl := hh.symm
            clear hh
            refine XO.c (.assign rfl) rfl rfl ?_
            refine XO.nil (thenC.go ?_)
            refine XC.seq ?_
            refine XC.text ?_
            refine XO.c (.move rfl) rfl rfl ?_
            refine XO.call rfl rfl rfl rfl ?_
            refine EvF.mono (lCourses_ok (hA.ok hok) (b188.inS (hA.ok hok) (b115.inS (hA.ok hok) (hA.inS hS))) ha0 (by omega) hc) ?_
            rintro u213 h213 ⟨a213, s213⟩
            have ok214 := hA.ok hok
            have gg214 : Goes h188 (ownP p188 ++ (ownP p113 ++ S)) h213 (ownP p188 ++ (ownP p113 ++ S)) := a213.nx ok214
            replace hA := hA.trans a213
            replace ha0 := ha0.nx gg214
            replace b101 := b101.nx gg214
            replace s106 := s106.nx gg214
            replace s118 := s118.nx gg214
            replace s130 := s130.nx gg214
            replace s132 := s132.nx gg214
            replace s180 := s180.nx gg214
            replace s185 := s185.nx gg214
            replace b115 := b115.keep a213 ok214
            replace b188 := b188.keep a213 ok214
            refine XO.call rfl rfl rfl rfl ?_
            refine EvF.mono (sEnsemble_ok (hA.ok hok) (b188.inS (hA.ok hok) (b115.inS (hA.ok hok) (hA.inS hS))) s213 hc) ?_
            rintro _ _ ⟨rfl, hh⟩
            obtain rfl := hh.symm
            clear hh
            refine XO.c (.move rfl) rfl rfl ?_
            refine XO.c (.eql rfl rfl) rfl rfl ?_
            refine XO.c (.move rfl) rfl rfl ?_
            refine XO.splitD (x := 97) rfl (fun g16_5 => ?_) (fun g16_5 => ?_)
            · refine XO.gr rfl rfl rfl (.load rfl (b115.ldA vt58 rfl rfl)) rfl rfl ?_
              refine XO.gc rfl rfl rfl (.move rfl) rfl rfl ?_
              refine XO.gc rfl rfl rfl (.move rfl) rfl rfl ?_
              refine XO.gr rfl rfl rfl (.load rfl (b188.ldA vt58 rfl rfl)) rfl rfl ?_
              refine XO.gcall rfl rfl rfl rfl rfl rfl rfl ?_
              refine EvF.mono (lRatio_ok (hA.ok hok) (b188.inS (hA.ok hok) (b115.inS (hA.ok hok) (hA.inS hS)))  (want := (0, 0)) (hv := ((if exceedB l x.1 x.2.1 = 0 then exceedE l x.1 x.2.1 else (0, 0)).1, (if exceedB l x.1 x.2.1 = 0 then exceedE l x.1 x.2.1 else (0, 0)).2)) ) ?_
              rintro _ _ ⟨rfl, hh⟩
              obtain rfl := hh.symm
              clear hh
              refine XO.c (.pickT rfl rfl) rfl rfl ?_
              refine XO.c (.move rfl) rfl rfl ?_
              refine XO.splitB (x := 104) rfl (fun g16_12 => ?_) (fun g16_12 => ?_)
              · refine XO.gc rfl rfl rfl (.move rfl) rfl rfl ?_
                refine XO.gc rfl rfl rfl (.move rfl) rfl rfl ?_
                refine XO.gc rfl rfl rfl (.move rfl) rfl rfl ?_
                refine XO.gc rfl rfl rfl (.move rfl) rfl rfl ?_
                refine XO.gcall rfl rfl rfl rfl rfl rfl rfl ?_
                refine EvF.mono (lNumber_ok (hA.ok hok) (b188.inS (hA.ok hok) (b115.inS (hA.ok hok) (hA.inS hS)))  ) ?_
                rintro _ _ ⟨rfl, hh⟩
                obtain rfl := hh.symm
                clear hh
                refine XO.c (.pickT rfl rfl) rfl rfl ?_
                refine XO.c (.move rfl) rfl rfl ?_
                refine XO.splitB (x := 111) rfl (fun g16_19 => ?_) (fun g16_19 => ?_)
                · refine XO.gcall rfl rfl rfl rfl rfl rfl rfl ?_
                  refine EvF.mono (awake_ok  ) ?_
                  rintro _ _ ⟨rfl, hh⟩
                  obtain rfl := hh.symm
                  clear hh
                  refine XO.c (.pickT rfl rfl) rfl rfl ?_
                  refine XO.c (.assign rfl) rfl rfl ?_
                  refine XO.nil (thenC.go ?_)
                  refine XC.ret fun tf htf => ?_
                  refine endF.one rfl rfl (htf 4 _ rfl) ?_
                  exact ⟨congrArg Value.bool (by first | rfl | exact absurd rfl g16_5 | exact absurd ((ratio_fin (exceed_one c7 e0) (fun _ => rfl)).symm.trans g16_12) (by decide) | exact absurd ((ratio_fin (exceed_one c7 e0) (fun h => absurd h c12)).symm.trans g16_12) (by decide) | exact absurd ((ratio_fin (exceed_no c7) (fun _ => rfl)).symm.trans g16_12) (by decide) | exact absurd ((ratio_fin (exceed_no c7) (fun h => absurd h c12)).symm.trans g16_12) (by decide) | exact absurd ((number_fin (quant_one c7 e0 g9_3) (fun _ => rfl)).symm.trans g16_19) (by decide) | exact absurd ((number_fin (quant_one c7 e0 g9_3) (fun h => absurd h c14)).symm.trans g16_19) (by decide) | exact absurd ((number_fin (quant_one2 c7 e0 g9_3) (fun _ => rfl)).symm.trans g16_19) (by decide) | exact absurd ((number_fin (quant_one2 c7 e0 g9_3) (fun h => absurd h c14)).symm.trans g16_19) (by decide) | exact absurd ((number_fin (quant_no c7) (fun _ => rfl)).symm.trans g16_19) (by decide) | exact absurd ((number_fin (quant_no c7) (fun h => absurd h c14)).symm.trans g16_19) (by decide)), hA.leftAf rfl⟩
                · refine XO.skip rfl rfl rfl rfl rfl ?_
                  refine XO.c (.pickF rfl rfl) rfl rfl ?_
                  refine XO.c (.assign rfl) rfl rfl ?_
                  refine XO.nil (thenC.go ?_)
                  refine XC.ret fun tf htf => ?_
                  refine endF.one rfl rfl (htf 4 _ rfl) ?_
                  exact ⟨congrArg Value.bool (by first | rfl | exact absurd rfl g16_5 | exact absurd ((ratio_fin (exceed_one c7 e0) (fun _ => rfl)).symm.trans g16_12) (by decide) | exact absurd ((ratio_fin (exceed_one c7 e0) (fun h => absurd h c12)).symm.trans g16_12) (by decide) | exact absurd ((ratio_fin (exceed_no c7) (fun _ => rfl)).symm.trans g16_12) (by decide) | exact absurd ((ratio_fin (exceed_no c7) (fun h => absurd h c12)).symm.trans g16_12) (by decide) | exact absurd ((number_fin (quant_one c7 e0 g9_3) (fun _ => rfl)).symm.trans g16_19) (by decide) | exact absurd ((number_fin (quant_one c7 e0 g9_3) (fun h => absurd h c14)).symm.trans g16_19) (by decide) | exact absurd ((number_fin (quant_one2 c7 e0 g9_3) (fun _ => rfl)).symm.trans g16_19) (by decide) | exact absurd ((number_fin (quant_one2 c7 e0 g9_3) (fun h => absurd h c14)).symm.trans g16_19) (by decide) | exact absurd ((number_fin (quant_no c7) (fun _ => rfl)).symm.trans g16_19) (by decide) | exact absurd ((number_fin (quant_no c7) (fun h => absurd h c14)).symm.trans g16_19) (by decide)), hA.leftAf rfl⟩
              · refine XO.skip rfl rfl rfl rfl rfl ?_
                refine XO.skip rfl rfl rfl rfl rfl ?_
                refine XO.skip rfl rfl rfl rfl rfl ?_
                refine XO.skip rfl rfl rfl rfl rfl ?_
                refine XO.skip rfl rfl rfl rfl rfl ?_
                refine XO.c (.pickF rfl rfl) rfl rfl ?_
                refine XO.c (.move rfl) rfl rfl ?_
                refine XO.skip rfl rfl rfl rfl rfl ?_
                refine XO.c (.pickF rfl rfl) rfl rfl ?_
                refine XO.c (.assign rfl) rfl rfl ?_
                refine XO.nil (thenC.go ?_)
                refine XC.ret fun tf htf => ?_
                refine endF.one rfl rfl (htf 4 _ rfl) ?_
                exact ⟨congrArg Value.bool (by first | rfl | exact absurd rfl g16_5 | exact absurd ((ratio_fin (exceed_one c7 e0) (fun _ => rfl)).symm.trans g16_12) (by decide) | exact absurd ((ratio_fin (exceed_one c7 e0) (fun h => absurd h c12)).symm.trans g16_12) (by decide) | exact absurd ((ratio_fin (exceed_no c7) (fun _ => rfl)).symm.trans g16_12) (by decide) | exact absurd ((ratio_fin (exceed_no c7) (fun h => absurd h c12)).symm.trans g16_12) (by decide) | exact absurd ((number_fin (quant_one c7 e0 g9_3) (fun _ => rfl)).symm.trans g16_19) (by decide) | exact absurd ((number_fin (quant_one c7 e0 g9_3) (fun h => absurd h c14)).symm.trans g16_19) (by decide) | exact absurd ((number_fin (quant_one2 c7 e0 g9_3) (fun _ => rfl)).symm.trans g16_19) (by decide) | exact absurd ((number_fin (quant_one2 c7 e0 g9_3) (fun h => absurd h c14)).symm.trans g16_19) (by decide) | exact absurd ((number_fin (quant_no c7) (fun _ => rfl)).symm.trans g16_19) (by decide) | exact absurd ((number_fin (quant_no c7) (fun h => absurd h c14)).symm.trans g16_19) (by decide)), hA.leftAf rfl⟩
            · refine XO.skip rfl rfl rfl rfl rfl ?_
              refine XO.skip rfl rfl rfl rfl rfl ?_
              refine XO.skip rfl rfl rfl rfl rfl ?_
              refine XO.skip rfl rfl rfl rfl rfl ?_
              refine XO.skip rfl rfl rfl rfl rfl ?_
              refine XO.c (.pickF rfl rfl) rfl rfl ?_
              refine XO.c (.move rfl) rfl rfl ?_
              refine XO.skip rfl rfl rfl rfl rfl ?_
              refine XO.skip rfl rfl rfl rfl rfl ?_
              refine XO.skip rfl rfl rfl rfl rfl ?_
              refine XO.skip rfl rfl rfl rfl rfl ?_
              refine XO.skip rfl rfl rfl rfl rfl ?_
              refine XO.c (.pickF rfl rfl) rfl rfl ?_
              refine XO.c (.move rfl) rfl rfl ?_
              refine XO.skip rfl rfl rfl rfl rfl ?_
              refine XO.c (.pickF rfl rfl) rfl rfl ?_
              refine XO.c (.assign rfl) rfl rfl ?_
              refine XO.nil (thenC.go ?_)
              refine XC.ret fun tf htf => ?_
              refine endF.one rfl rfl (htf 4 _ rfl) ?_
              exact ⟨congrArg Value.bool (by first | rfl | exact absurd rfl g16_5 | exact absurd ((ratio_fin (exceed_one c7 e0) (fun _ => rfl)).symm.trans g16_12) (by decide) | exact absurd ((ratio_fin (exceed_one c7 e0) (fun h => absurd h c12)).symm.trans g16_12) (by decide) | exact absurd ((ratio_fin (exceed_no c7) (fun _ => rfl)).symm.trans g16_12) (by decide) | exact absurd ((ratio_fin (exceed_no c7) (fun h => absurd h c12)).symm.trans g16_12) (by decide) | exact absurd ((number_fin (quant_one c7 e0 g9_3) (fun _ => rfl)).symm.trans g16_19) (by decide) | exact absurd ((number_fin (quant_one c7 e0 g9_3) (fun h => absurd h c14)).symm.trans g16_19) (by decide) | exact absurd ((number_fin (quant_one2 c7 e0 g9_3) (fun _ => rfl)).symm.trans g16_19) (by decide) | exact absurd ((number_fin (quant_one2 c7 e0 g9_3) (fun h => absurd h c14)).symm.trans g16_19) (by decide) | exact absurd ((number_fin (quant_no c7) (fun _ => rfl)).symm.trans g16_19) (by decide) | exact absurd ((number_fin (quant_no c7) (fun h => absurd h c14)).symm.trans g16_19) (by decide)), hA.leftAf rfl⟩
          · refine XC.skip (thenC.go ?_)
            refine XC.seq ?_
            refine XC.text ?_
            refine XO.c (.move rfl) rfl rfl ?_
            refine XO.call rfl rfl rfl rfl ?_
            refine EvF.mono (lCourses_ok (hA.ok hok) (b188.inS (hA.ok hok) (b115.inS (hA.ok hok) (hA.inS hS))) ha0 (by omega) hc) ?_
            rintro u219 h219 ⟨a219, s219⟩
            have ok220 := hA.ok hok
            have gg220 : Goes h188 (ownP p188 ++ (ownP p113 ++ S)) h219 (ownP p188 ++ (ownP p113 ++ S)) := a219.nx ok220
            replace hA := hA.trans a219
            replace ha0 := ha0.nx gg220
            replace b101 := b101.nx gg220
            replace s106 := s106.nx gg220
            replace s118 := s118.nx gg220
            replace s130 := s130.nx gg220
            replace s132 := s132.nx gg220
            replace s180 := s180.nx gg220
            replace s185 := s185.nx gg220
            replace b115 := b115.keep a219 ok220
            replace b188 := b188.keep a219 ok220
            refine XO.call rfl rfl rfl rfl ?_
            refine EvF.mono (sEnsemble_ok (hA.ok hok) (b188.inS (hA.ok hok) (b115.inS (hA.ok hok) (hA.inS hS))) s219 hc) ?_
            rintro _ _ ⟨rfl, hh⟩
            obtain rfl := hh.symm
            clear hh
            refine XO.c (.move rfl) rfl rfl ?_
            refine XO.c (.eql rfl rfl) rfl rfl ?_
            refine XO.c (.move rfl) rfl rfl ?_
            refine XO.splitD (x := 97) rfl (fun g16_5 => ?_) (fun g16_5 => ?_)
            · refine XO.gr rfl rfl rfl (.load rfl (b115.ldA vt58 rfl rfl)) rfl rfl ?_
              refine XO.gc rfl rfl rfl (.move rfl) rfl rfl ?_
              refine XO.gc rfl rfl rfl (.move rfl) rfl rfl ?_
              refine XO.gr rfl rfl rfl (.load rfl (b188.ldA vt58 rfl rfl)) rfl rfl ?_
              refine XO.gcall rfl rfl rfl rfl rfl rfl rfl ?_
              refine EvF.mono (lRatio_ok (hA.ok hok) (b188.inS (hA.ok hok) (b115.inS (hA.ok hok) (hA.inS hS)))  (want := (0, 0)) (hv := ((if exceedB l x.1 x.2.1 = 0 then exceedE l x.1 x.2.1 else (0, 0)).1, (if exceedB l x.1 x.2.1 = 0 then exceedE l x.1 x.2.1 else (0, 0)).2)) ) ?_
              rintro _ _ ⟨rfl, hh⟩
              obtain rfl := hh.symm
              clear hh
              refine XO.c (.pickT rfl rfl) rfl rfl ?_
              refine XO.c (.move rfl) rfl rfl ?_
              refine XO.splitB (x := 104) rfl (fun g16_12 => ?_) (fun g16_12 => ?_)
              · refine XO.gc rfl rfl rfl (.move rfl) rfl rfl ?_
                refine XO.gc rfl rfl rfl (.move rfl) rfl rfl ?_
                refine XO.gc rfl rfl rfl (.move rfl) rfl rfl ?_
                refine XO.gc rfl rfl rfl (.move rfl) rfl rfl ?_
                refine XO.gcall rfl rfl rfl rfl rfl rfl rfl ?_
                refine EvF.mono (lNumber_ok (hA.ok hok) (b188.inS (hA.ok hok) (b115.inS (hA.ok hok) (hA.inS hS)))  ) ?_
                rintro _ _ ⟨rfl, hh⟩
                obtain rfl := hh.symm
                clear hh
                refine XO.c (.pickT rfl rfl) rfl rfl ?_
                refine XO.c (.move rfl) rfl rfl ?_
                refine XO.splitB (x := 111) rfl (fun g16_19 => ?_) (fun g16_19 => ?_)
                · refine XO.gcall rfl rfl rfl rfl rfl rfl rfl ?_
                  refine EvF.mono (awake_ok  ) ?_
                  rintro _ _ ⟨rfl, hh⟩
                  obtain rfl := hh.symm
                  clear hh
                  refine XO.c (.pickT rfl rfl) rfl rfl ?_
                  refine XO.c (.assign rfl) rfl rfl ?_
                  refine XO.nil (thenC.go ?_)
                  refine XC.ret fun tf htf => ?_
                  refine endF.one rfl rfl (htf 4 _ rfl) ?_
                  exact ⟨congrArg Value.bool (by first | rfl | exact absurd rfl g16_5 | exact absurd ((ratio_fin (exceed_one c7 e0) (fun _ => rfl)).symm.trans g16_12) (by decide) | exact absurd ((ratio_fin (exceed_one c7 e0) (fun h => absurd h c12)).symm.trans g16_12) (by decide) | exact absurd ((ratio_fin (exceed_no c7) (fun _ => rfl)).symm.trans g16_12) (by decide) | exact absurd ((ratio_fin (exceed_no c7) (fun h => absurd h c12)).symm.trans g16_12) (by decide) | exact absurd ((number_fin (quant_one c7 e0 g9_3) (fun _ => rfl)).symm.trans g16_19) (by decide) | exact absurd ((number_fin (quant_one c7 e0 g9_3) (fun h => absurd h c14)).symm.trans g16_19) (by decide) | exact absurd ((number_fin (quant_one2 c7 e0 g9_3) (fun _ => rfl)).symm.trans g16_19) (by decide) | exact absurd ((number_fin (quant_one2 c7 e0 g9_3) (fun h => absurd h c14)).symm.trans g16_19) (by decide) | exact absurd ((number_fin (quant_no c7) (fun _ => rfl)).symm.trans g16_19) (by decide) | exact absurd ((number_fin (quant_no c7) (fun h => absurd h c14)).symm.trans g16_19) (by decide)), hA.leftAf rfl⟩
                · refine XO.skip rfl rfl rfl rfl rfl ?_
                  refine XO.c (.pickF rfl rfl) rfl rfl ?_
                  refine XO.c (.assign rfl) rfl rfl ?_
                  refine XO.nil (thenC.go ?_)
                  refine XC.ret fun tf htf => ?_
                  refine endF.one rfl rfl (htf 4 _ rfl) ?_
                  exact ⟨congrArg Value.bool (by first | rfl | exact absurd rfl g16_5 | exact absurd ((ratio_fin (exceed_one c7 e0) (fun _ => rfl)).symm.trans g16_12) (by decide) | exact absurd ((ratio_fin (exceed_one c7 e0) (fun h => absurd h c12)).symm.trans g16_12) (by decide) | exact absurd ((ratio_fin (exceed_no c7) (fun _ => rfl)).symm.trans g16_12) (by decide) | exact absurd ((ratio_fin (exceed_no c7) (fun h => absurd h c12)).symm.trans g16_12) (by decide) | exact absurd ((number_fin (quant_one c7 e0 g9_3) (fun _ => rfl)).symm.trans g16_19) (by decide) | exact absurd ((number_fin (quant_one c7 e0 g9_3) (fun h => absurd h c14)).symm.trans g16_19) (by decide) | exact absurd ((number_fin (quant_one2 c7 e0 g9_3) (fun _ => rfl)).symm.trans g16_19) (by decide) | exact absurd ((number_fin (quant_one2 c7 e0 g9_3) (fun h => absurd h c14)).symm.trans g16_19) (by decide) | exact absurd ((number_fin (quant_no c7) (fun _ => rfl)).symm.trans g16_19) (by decide) | exact absurd ((number_fin (quant_no c7) (fun h => absurd h c14)).symm.trans g16_19) (by decide)), hA.leftAf rfl⟩
              · refine XO.skip rfl rfl rfl rfl rfl ?_
                refine XO.skip rfl rfl rfl rfl rfl ?_
                refine XO.skip rfl rfl rfl rfl rfl ?_
                refine XO.skip rfl rfl rfl rfl rfl ?_
                refine XO.skip rfl rfl rfl rfl rfl ?_
                refine XO.c (.pickF rfl rfl) rfl rfl ?_
                refine XO.c (.move rfl) rfl rfl ?_
                refine XO.skip rfl rfl rfl rfl rfl ?_
                refine XO.c (.pickF rfl rfl) rfl rfl ?_
                refine XO.c (.assign rfl) rfl rfl ?_
                refine XO.nil (thenC.go ?_)
                refine XC.ret fun tf htf => ?_
                refine endF.one rfl rfl (htf 4 _ rfl) ?_
                exact ⟨congrArg Value.bool (by first | rfl | exact absurd rfl g16_5 | exact absurd ((ratio_fin (exceed_one c7 e0) (fun _ => rfl)).symm.trans g16_12) (by decide) | exact absurd ((ratio_fin (exceed_one c7 e0) (fun h => absurd h c12)).symm.trans g16_12) (by decide) | exact absurd ((ratio_fin (exceed_no c7) (fun _ => rfl)).symm.trans g16_12) (by decide) | exact absurd ((ratio_fin (exceed_no c7) (fun h => absurd h c12)).symm.trans g16_12) (by decide) | exact absurd ((number_fin (quant_one c7 e0 g9_3) (fun _ => rfl)).symm.trans g16_19) (by decide) | exact absurd ((number_fin (quant_one c7 e0 g9_3) (fun h => absurd h c14)).symm.trans g16_19) (by decide) | exact absurd ((number_fin (quant_one2 c7 e0 g9_3) (fun _ => rfl)).symm.trans g16_19) (by decide) | exact absurd ((number_fin (quant_one2 c7 e0 g9_3) (fun h => absurd h c14)).symm.trans g16_19) (by decide) | exact absurd ((number_fin (quant_no c7) (fun _ => rfl)).symm.trans g16_19) (by decide) | exact absurd ((number_fin (quant_no c7) (fun h => absurd h c14)).symm.trans g16_19) (by decide)), hA.leftAf rfl⟩
            · refine XO.skip rfl rfl rfl rfl rfl ?_
              refine XO.skip rfl rfl rfl rfl rfl ?_
              refine XO.skip rfl rfl rfl rfl rfl ?_
              refine XO.skip rfl rfl rfl rfl rfl ?_
              refine XO.skip rfl rfl rfl rfl rfl ?_
              refine XO.c (.pickF rfl rfl) rfl rfl ?_
              refine XO.c (.move rfl) rfl rfl ?_
              refine XO.skip rfl rfl rfl rfl rfl ?_
              refine XO.skip rfl rfl rfl rfl rfl ?_
              refine XO.skip rfl rfl rfl rfl rfl ?_
              refine XO.skip rfl rfl rfl rfl rfl ?_
              refine XO.skip rfl rfl rfl rfl rfl ?_
              refine XO.c (.pickF rfl rfl) rfl rfl ?_
              refine XO.c (.move rfl) rfl rfl ?_
              refine XO.skip rfl rfl rfl rfl rfl ?_
              refine XO.c (.pickF rfl rfl) rfl rfl ?_
              refine XO.c (.assign rfl) rfl rfl ?_
              refine XO.nil (thenC.go ?_)
              refine XC.ret fun tf htf => ?_
              refine endF.one rfl rfl (htf 4 _ rfl) ?_
              exact ⟨congrArg Value.bool (by first | rfl | exact absurd rfl g16_5 | exact absurd ((ratio_fin (exceed_one c7 e0) (fun _ => rfl)).symm.trans g16_12) (by decide) | exact absurd ((ratio_fin (exceed_one c7 e0) (fun h => absurd h c12)).symm.trans g16_12) (by decide) | exact absurd ((ratio_fin (exceed_no c7) (fun _ => rfl)).symm.trans g16_12) (by decide) | exact absurd ((ratio_fin (exceed_no c7) (fun h => absurd h c12)).symm.trans g16_12) (by decide) | exact absurd ((number_fin (quant_one c7 e0 g9_3) (fun _ => rfl)).symm.trans g16_19) (by decide) | exact absurd ((number_fin (quant_one c7 e0 g9_3) (fun h => absurd h c14)).symm.trans g16_19) (by decide) | exact absurd ((number_fin (quant_one2 c7 e0 g9_3) (fun _ => rfl)).symm.trans g16_19) (by decide) | exact absurd ((number_fin (quant_one2 c7 e0 g9_3) (fun h => absurd h c14)).symm.trans g16_19) (by decide) | exact absurd ((number_fin (quant_no c7) (fun _ => rfl)).symm.trans g16_19) (by decide) | exact absurd ((number_fin (quant_no c7) (fun h => absurd h c14)).symm.trans g16_19) (by decide)), hA.leftAf rfl⟩
    · refine XC.skip (thenC.go ?_)
      refine XC.seq ?_
      refine XC.text ?_
      have iq225 := (b115.inS (hA.ok hok) (hA.inS hS))
      refine XO.allocF (z := .agg #[.int .i64 0, .int .i64 0]) (by kernel_rfl) rfl rfl hA hok rfl rfl ?_
      intro p225 h225 b225 a225 gs225 fq225
      have dj225_0 := apart (q := ownP p113) fq225 (fun b hb => iq225 b (by simp [hb]))
      have ok226 := hA.ok hok
      have gg226 : Goes h118 (ownP p113 ++ S) h225 (ownP p225 ++ (ownP p113 ++ S)) := gs225 _
      replace hA := hA.trans a225
      replace ha0 := ha0.nx gg226
      replace b101 := b101.nx gg226
      replace s106 := s106.nx gg226
      replace s118 := s118.nx gg226
      replace b115 := b115.keep a225 ok226
      refine XO.nil (thenC.go ?_)
      refine XC.seq ?_
      refine XC.text ?_
      refine XO.c (.assign rfl) rfl rfl ?_
      refine XO.nil (thenC.go ?_)
      refine XC.seq ?_
      refine XC.seq ?_
      refine XC.text ?_
      refine XO.c (.move rfl) rfl rfl ?_
      refine XO.c (.eql rfl rfl) rfl rfl ?_
      refine XO.nil (thenC.go ?_)
      refine XC.condD rfl (fun c12 => ?_) (fun c12 => ?_)
      · have hX := (by first | exact absurd c12 c7 | exact exceedB_ok ((exceed_one c7 e0).trans c12) : OkE l ∧ (0 ≤ x.2.1.1 ∧ x.2.1.1 ≤ x.2.1.2 ∧ x.2.1.2 ≤ (len0 l : Nat)))
        refine XC.text ?_
        refine XO.c (.move rfl) rfl rfl ?_
        refine XO.c (.fieldAddr rfl ((b101).fa (f := 0) (k := 0) (by kernel_rfl))) rfl rfl ?_
        refine XO.r (.load rfl (((b101).base.fst').ldInt vt3)) rfl rfl ?_
        refine XO.c (.fieldAddr rfl ((b101).fa (f := 1) (k := 1) (by kernel_rfl))) rfl rfl ?_
        obtain ⟨u227, e227, r227⟩ := (((b101).base.snd' (m := 1) rfl (b101).isP).fst').ldV vt56
        obtain ⟨c228_0, c228_1, rfl, r228_0, r228_1⟩ := r227.st2 rfl rfl
        obtain rfl := r228_0.int
        obtain rfl := r228_1.int
        refine XO.r (.load rfl (e227)) rfl rfl ?_
        refine XO.call rfl rfl rfl rfl ?_
        refine EvF.mono (rExceed_ok (hA.ok hok) (b225.inS (hA.ok hok) (b115.inS (hA.ok hok) (hA.inS hS))) ha0 (s := x.2.1) hX.1 hX.2) ?_
        rintro _ _ ⟨rfl, hh⟩
        obtain rfl := hh.symm
        clear hh
        obtain ⟨h230, e230, b230, a230, n230, nn230, fr230, lw230⟩ := b225.st0 (S := (ownP p113 ++ S)) (h0 := (entry h)) (u := .agg #[.int .i64 ((exceedE l x.1 x.2.1).1), .int .i64 ((exceedE l x.1 x.2.1).2)]) vt58 rfl rfl (Nat.le_of_ble_eq_true rfl) (One.oneAll ⟨⟨rfl, rfl⟩, ⟨⟨rfl, rfl⟩, trivial⟩⟩) hA (show HOk h225 from hA.ok hok)
        refine XO.st rfl rfl e230 ?_
        have ok231 := hA.ok hok
        have gg231 : Goes h225 (ownP p225 ++ (ownP p113 ++ S)) h230 (ownP p225 ++ (ownP p113 ++ S)) := n230
        replace hA := a230
        replace ha0 := ha0.nx gg231
        replace b101 := b101.nx gg231
        replace s106 := s106.nx gg231
        replace s118 := s118.nx gg231
        replace b115 := b115.chg fun b hb => fr230 b (fun hm => dj225_0 b hm hb)
        refine XO.nil (thenC.go ?_)
        refine XC.seq ?_
        refine XC.seq ?_
        refine XC.text ?_
        refine XO.c (.move rfl) rfl rfl ?_
        refine XO.c (.eql rfl rfl) rfl rfl ?_
        refine XO.nil (thenC.go ?_)
        refine XC.condD rfl (fun c14 => ?_) (fun c14 => ?_)
        · have hY := (by first | exact absurd c14 c7 | exact quantB_ok ((quant_one c7 e0 g9_3).trans c14) | exact quantB_ok ((quant_one2 c7 e0 g9_3).trans c14) : OkQ l x.2.2.1 x.2.2.2)
          refine XC.text ?_
          refine XO.c (.move rfl) rfl rfl ?_
          refine XO.c (.fieldAddr rfl ((b101).fa (f := 2) (k := 3) (by kernel_rfl))) rfl rfl ?_
          refine XO.r (.load rfl (((((b101).base.snd' (m := 1) rfl (b101).isP).snd' (m := 3) rfl (b101).isP).fst').ldInt vt3)) rfl rfl ?_
          refine XO.c (.fieldAddr rfl ((b101).fa (f := 3) (k := 4) (by kernel_rfl))) rfl rfl ?_
          obtain ⟨u232, e232, r232⟩ := (((((b101).base.snd' (m := 1) rfl (b101).isP).snd' (m := 3) rfl (b101).isP).snd' (m := 4) rfl (b101).isP)).ldV vt58
          obtain ⟨c233_0, c233_1, rfl, r233_0, r233_1⟩ := r232.st2 rfl rfl
          obtain rfl := r233_0.int
          obtain rfl := r233_1.int
          refine XO.r (.load rfl (e232)) rfl rfl ?_
          refine XO.call rfl rfl rfl rfl ?_
          refine EvF.mono (rQuantile_ok (hA.ok hok) (b230.inS (hA.ok hok) (b115.inS (hA.ok hok) (hA.inS hS))) ha0 (s := x.2.2.2) hY) ?_
          rintro _ _ ⟨rfl, hh⟩
          obtain rfl := hh.symm
          clear hh
          refine XO.c (.assign rfl) rfl rfl ?_
          refine XO.nil (thenC.go ?_)
          refine XC.seq ?_
          refine XC.text ?_
          refine XO.c (.move rfl) rfl rfl ?_
          refine XO.call rfl rfl rfl rfl ?_
          refine EvF.mono (lCourses_ok (hA.ok hok) (b230.inS (hA.ok hok) (b115.inS (hA.ok hok) (hA.inS hS))) ha0 (by omega) hc) ?_
          rintro u235 h235 ⟨a235, s235⟩
          have ok236 := hA.ok hok
          have gg236 : Goes h230 (ownP p225 ++ (ownP p113 ++ S)) h235 (ownP p225 ++ (ownP p113 ++ S)) := a235.nx ok236
          replace hA := hA.trans a235
          replace ha0 := ha0.nx gg236
          replace b101 := b101.nx gg236
          replace s106 := s106.nx gg236
          replace s118 := s118.nx gg236
          replace b115 := b115.keep a235 ok236
          replace b230 := b230.keep a235 ok236
          refine XO.call rfl rfl rfl rfl ?_
          refine EvF.mono (sEnsemble_ok (hA.ok hok) (b230.inS (hA.ok hok) (b115.inS (hA.ok hok) (hA.inS hS))) s235 hc) ?_
          rintro _ _ ⟨rfl, hh⟩
          obtain rfl := hh.symm
          clear hh
          refine XO.c (.move rfl) rfl rfl ?_
          refine XO.c (.eql rfl rfl) rfl rfl ?_
          refine XO.c (.move rfl) rfl rfl ?_
          refine XO.splitD (x := 97) rfl (fun g16_5 => ?_) (fun g16_5 => ?_)
          · refine XO.gr rfl rfl rfl (.load rfl (b115.ldA vt58 rfl rfl)) rfl rfl ?_
            refine XO.gc rfl rfl rfl (.move rfl) rfl rfl ?_
            refine XO.gc rfl rfl rfl (.move rfl) rfl rfl ?_
            refine XO.gr rfl rfl rfl (.load rfl (b230.ldA vt58 rfl rfl)) rfl rfl ?_
            refine XO.gcall rfl rfl rfl rfl rfl rfl rfl ?_
            refine EvF.mono (lRatio_ok (hA.ok hok) (b230.inS (hA.ok hok) (b115.inS (hA.ok hok) (hA.inS hS)))  (want := ((exceedE l x.1 x.2.1).1, (exceedE l x.1 x.2.1).2)) (hv := ((if exceedB l x.1 x.2.1 = 0 then exceedE l x.1 x.2.1 else (0, 0)).1, (if exceedB l x.1 x.2.1 = 0 then exceedE l x.1 x.2.1 else (0, 0)).2)) ) ?_
            rintro _ _ ⟨rfl, hh⟩
            obtain rfl := hh.symm
            clear hh
            refine XO.c (.pickT rfl rfl) rfl rfl ?_
            refine XO.c (.move rfl) rfl rfl ?_
            refine XO.splitB (x := 104) rfl (fun g16_12 => ?_) (fun g16_12 => ?_)
            · refine XO.gc rfl rfl rfl (.move rfl) rfl rfl ?_
              refine XO.gc rfl rfl rfl (.move rfl) rfl rfl ?_
              refine XO.gc rfl rfl rfl (.move rfl) rfl rfl ?_
              refine XO.gc rfl rfl rfl (.move rfl) rfl rfl ?_
              refine XO.gcall rfl rfl rfl rfl rfl rfl rfl ?_
              refine EvF.mono (lNumber_ok (hA.ok hok) (b230.inS (hA.ok hok) (b115.inS (hA.ok hok) (hA.inS hS)))  ) ?_
              rintro _ _ ⟨rfl, hh⟩
              obtain rfl := hh.symm
              clear hh
              refine XO.c (.pickT rfl rfl) rfl rfl ?_
              refine XO.c (.move rfl) rfl rfl ?_
              refine XO.splitB (x := 111) rfl (fun g16_19 => ?_) (fun g16_19 => ?_)
              · refine XO.gcall rfl rfl rfl rfl rfl rfl rfl ?_
                refine EvF.mono (awake_ok  ) ?_
                rintro _ _ ⟨rfl, hh⟩
                obtain rfl := hh.symm
                clear hh
                refine XO.c (.pickT rfl rfl) rfl rfl ?_
                refine XO.c (.assign rfl) rfl rfl ?_
                refine XO.nil (thenC.go ?_)
                refine XC.ret fun tf htf => ?_
                refine endF.one rfl rfl (htf 4 _ rfl) ?_
                exact ⟨congrArg Value.bool (by first | rfl | exact absurd rfl g16_5 | exact absurd ((ratio_fin (exceed_one c7 e0) (fun _ => rfl)).symm.trans g16_12) (by decide) | exact absurd ((ratio_fin (exceed_one c7 e0) (fun h => absurd h c12)).symm.trans g16_12) (by decide) | exact absurd ((ratio_fin (exceed_no c7) (fun _ => rfl)).symm.trans g16_12) (by decide) | exact absurd ((ratio_fin (exceed_no c7) (fun h => absurd h c12)).symm.trans g16_12) (by decide) | exact absurd ((number_fin (quant_one c7 e0 g9_3) (fun _ => rfl)).symm.trans g16_19) (by decide) | exact absurd ((number_fin (quant_one c7 e0 g9_3) (fun h => absurd h c14)).symm.trans g16_19) (by decide) | exact absurd ((number_fin (quant_one2 c7 e0 g9_3) (fun _ => rfl)).symm.trans g16_19) (by decide) | exact absurd ((number_fin (quant_one2 c7 e0 g9_3) (fun h => absurd h c14)).symm.trans g16_19) (by decide) | exact absurd ((number_fin (quant_no c7) (fun _ => rfl)).symm.trans g16_19) (by decide) | exact absurd ((number_fin (quant_no c7) (fun h => absurd h c14)).symm.trans g16_19) (by decide)), hA.leftAf rfl⟩
              · refine XO.skip rfl rfl rfl rfl rfl ?_
                refine XO.c (.pickF rfl rfl) rfl rfl ?_
                refine XO.c (.assign rfl) rfl rfl ?_
                refine XO.nil (thenC.go ?_)
                refine XC.ret fun tf htf => ?_
                refine endF.one rfl rfl (htf 4 _ rfl) ?_
                exact ⟨congrArg Value.bool (by first | rfl | exact absurd rfl g16_5 | exact absurd ((ratio_fin (exceed_one c7 e0) (fun _ => rfl)).symm.trans g16_12) (by decide) | exact absurd ((ratio_fin (exceed_one c7 e0) (fun h => absurd h c12)).symm.trans g16_12) (by decide) | exact absurd ((ratio_fin (exceed_no c7) (fun _ => rfl)).symm.trans g16_12) (by decide) | exact absurd ((ratio_fin (exceed_no c7) (fun h => absurd h c12)).symm.trans g16_12) (by decide) | exact absurd ((number_fin (quant_one c7 e0 g9_3) (fun _ => rfl)).symm.trans g16_19) (by decide) | exact absurd ((number_fin (quant_one c7 e0 g9_3) (fun h => absurd h c14)).symm.trans g16_19) (by decide) | exact absurd ((number_fin (quant_one2 c7 e0 g9_3) (fun _ => rfl)).symm.trans g16_19) (by decide) | exact absurd ((number_fin (quant_one2 c7 e0 g9_3) (fun h => absurd h c14)).symm.trans g16_19) (by decide) | exact absurd ((number_fin (quant_no c7) (fun _ => rfl)).symm.trans g16_19) (by decide) | exact absurd ((number_fin (quant_no c7) (fun h => absurd h c14)).symm.trans g16_19) (by decide)), hA.leftAf rfl⟩
            · refine XO.skip rfl rfl rfl rfl rfl ?_
              refine XO.skip rfl rfl rfl rfl rfl ?_
              refine XO.skip rfl rfl rfl rfl rfl ?_
              refine XO.skip rfl rfl rfl rfl rfl ?_
              refine XO.skip rfl rfl rfl rfl rfl ?_
              refine XO.c (.pickF rfl rfl) rfl rfl ?_
              refine XO.c (.move rfl) rfl rfl ?_
              refine XO.skip rfl rfl rfl rfl rfl ?_
              refine XO.c (.pickF rfl rfl) rfl rfl ?_
              refine XO.c (.assign rfl) rfl rfl ?_
              refine XO.nil (thenC.go ?_)
              refine XC.ret fun tf htf => ?_
              refine endF.one rfl rfl (htf 4 _ rfl) ?_
              exact ⟨congrArg Value.bool (by first | rfl | exact absurd rfl g16_5 | exact absurd ((ratio_fin (exceed_one c7 e0) (fun _ => rfl)).symm.trans g16_12) (by decide) | exact absurd ((ratio_fin (exceed_one c7 e0) (fun h => absurd h c12)).symm.trans g16_12) (by decide) | exact absurd ((ratio_fin (exceed_no c7) (fun _ => rfl)).symm.trans g16_12) (by decide) | exact absurd ((ratio_fin (exceed_no c7) (fun h => absurd h c12)).symm.trans g16_12) (by decide) | exact absurd ((number_fin (quant_one c7 e0 g9_3) (fun _ => rfl)).symm.trans g16_19) (by decide) | exact absurd ((number_fin (quant_one c7 e0 g9_3) (fun h => absurd h c14)).symm.trans g16_19) (by decide) | exact absurd ((number_fin (quant_one2 c7 e0 g9_3) (fun _ => rfl)).symm.trans g16_19) (by decide) | exact absurd ((number_fin (quant_one2 c7 e0 g9_3) (fun h => absurd h c14)).symm.trans g16_19) (by decide) | exact absurd ((number_fin (quant_no c7) (fun _ => rfl)).symm.trans g16_19) (by decide) | exact absurd ((number_fin (quant_no c7) (fun h => absurd h c14)).symm.trans g16_19) (by decide)), hA.leftAf rfl⟩
          · refine XO.skip rfl rfl rfl rfl rfl ?_
            refine XO.skip rfl rfl rfl rfl rfl ?_
            refine XO.skip rfl rfl rfl rfl rfl ?_
            refine XO.skip rfl rfl rfl rfl rfl ?_
            refine XO.skip rfl rfl rfl rfl rfl ?_
            refine XO.c (.pickF rfl rfl) rfl rfl ?_
            refine XO.c (.move rfl) rfl rfl ?_
            refine XO.skip rfl rfl rfl rfl rfl ?_
            refine XO.skip rfl rfl rfl rfl rfl ?_
            refine XO.skip rfl rfl rfl rfl rfl ?_
            refine XO.skip rfl rfl rfl rfl rfl ?_
            refine XO.skip rfl rfl rfl rfl rfl ?_
            refine XO.c (.pickF rfl rfl) rfl rfl ?_
            refine XO.c (.move rfl) rfl rfl ?_
            refine XO.skip rfl rfl rfl rfl rfl ?_
            refine XO.c (.pickF rfl rfl) rfl rfl ?_
            refine XO.c (.assign rfl) rfl rfl ?_
            refine XO.nil (thenC.go ?_)
            refine XC.ret fun tf htf => ?_
            refine endF.one rfl rfl (htf 4 _ rfl) ?_
            exact ⟨congrArg Value.bool (by first | rfl | exact absurd rfl g16_5 | exact absurd ((ratio_fin (exceed_one c7 e0) (fun _ => rfl)).symm.trans g16_12) (by decide) | exact absurd ((ratio_fin (exceed_one c7 e0) (fun h => absurd h c12)).symm.trans g16_12) (by decide) | exact absurd ((ratio_fin (exceed_no c7) (fun _ => rfl)).symm.trans g16_12) (by decide) | exact absurd ((ratio_fin (exceed_no c7) (fun h => absurd h c12)).symm.trans g16_12) (by decide) | exact absurd ((number_fin (quant_one c7 e0 g9_3) (fun _ => rfl)).symm.trans g16_19) (by decide) | exact absurd ((number_fin (quant_one c7 e0 g9_3) (fun h => absurd h c14)).symm.trans g16_19) (by decide) | exact absurd ((number_fin (quant_one2 c7 e0 g9_3) (fun _ => rfl)).symm.trans g16_19) (by decide) | exact absurd ((number_fin (quant_one2 c7 e0 g9_3) (fun h => absurd h c14)).symm.trans g16_19) (by decide) | exact absurd ((number_fin (quant_no c7) (fun _ => rfl)).symm.trans g16_19) (by decide) | exact absurd ((number_fin (quant_no c7) (fun h => absurd h c14)).symm.trans g16_19) (by decide)), hA.leftAf rfl⟩
        · refine XC.skip (thenC.go ?_)
          refine XC.seq ?_
          refine XC.text ?_
          refine XO.c (.move rfl) rfl rfl ?_
          refine XO.call rfl rfl rfl rfl ?_
          refine EvF.mono (lCourses_ok (hA.ok hok) (b230.inS (hA.ok hok) (b115.inS (hA.ok hok) (hA.inS hS))) ha0 (by omega) hc) ?_
          rintro u241 h241 ⟨a241, s241⟩
          have ok242 := hA.ok hok
          have gg242 : Goes h230 (ownP p225 ++ (ownP p113 ++ S)) h241 (ownP p225 ++ (ownP p113 ++ S)) := a241.nx ok242
          replace hA := hA.trans a241
          replace ha0 := ha0.nx gg242
          replace b101 := b101.nx gg242
          replace s106 := s106.nx gg242
          replace s118 := s118.nx gg242
          replace b115 := b115.keep a241 ok242
          replace b230 := b230.keep a241 ok242
          refine XO.call rfl rfl rfl rfl ?_
          refine EvF.mono (sEnsemble_ok (hA.ok hok) (b230.inS (hA.ok hok) (b115.inS (hA.ok hok) (hA.inS hS))) s241 hc) ?_
          rintro _ _ ⟨rfl, hh⟩
          obtain rfl := hh.symm
          clear hh
          refine XO.c (.move rfl) rfl rfl ?_
          refine XO.c (.eql rfl rfl) rfl rfl ?_
          refine XO.c (.move rfl) rfl rfl ?_
          refine XO.splitD (x := 97) rfl (fun g16_5 => ?_) (fun g16_5 => ?_)
          · refine XO.gr rfl rfl rfl (.load rfl (b115.ldA vt58 rfl rfl)) rfl rfl ?_
            refine XO.gc rfl rfl rfl (.move rfl) rfl rfl ?_
            refine XO.gc rfl rfl rfl (.move rfl) rfl rfl ?_
            refine XO.gr rfl rfl rfl (.load rfl (b230.ldA vt58 rfl rfl)) rfl rfl ?_
            refine XO.gcall rfl rfl rfl rfl rfl rfl rfl ?_
            refine EvF.mono (lRatio_ok (hA.ok hok) (b230.inS (hA.ok hok) (b115.inS (hA.ok hok) (hA.inS hS)))  (want := ((exceedE l x.1 x.2.1).1, (exceedE l x.1 x.2.1).2)) (hv := ((if exceedB l x.1 x.2.1 = 0 then exceedE l x.1 x.2.1 else (0, 0)).1, (if exceedB l x.1 x.2.1 = 0 then exceedE l x.1 x.2.1 else (0, 0)).2)) ) ?_
            rintro _ _ ⟨rfl, hh⟩
            obtain rfl := hh.symm
            clear hh
            refine XO.c (.pickT rfl rfl) rfl rfl ?_
            refine XO.c (.move rfl) rfl rfl ?_
            refine XO.splitB (x := 104) rfl (fun g16_12 => ?_) (fun g16_12 => ?_)
            · refine XO.gc rfl rfl rfl (.move rfl) rfl rfl ?_
              refine XO.gc rfl rfl rfl (.move rfl) rfl rfl ?_
              refine XO.gc rfl rfl rfl (.move rfl) rfl rfl ?_
              refine XO.gc rfl rfl rfl (.move rfl) rfl rfl ?_
              refine XO.gcall rfl rfl rfl rfl rfl rfl rfl ?_
              refine EvF.mono (lNumber_ok (hA.ok hok) (b230.inS (hA.ok hok) (b115.inS (hA.ok hok) (hA.inS hS)))  ) ?_
              rintro _ _ ⟨rfl, hh⟩
              obtain rfl := hh.symm
              clear hh
              refine XO.c (.pickT rfl rfl) rfl rfl ?_
              refine XO.c (.move rfl) rfl rfl ?_
              refine XO.splitB (x := 111) rfl (fun g16_19 => ?_) (fun g16_19 => ?_)
              · refine XO.gcall rfl rfl rfl rfl rfl rfl rfl ?_
                refine EvF.mono (awake_ok  ) ?_
                rintro _ _ ⟨rfl, hh⟩
                obtain rfl := hh.symm
                clear hh
                refine XO.c (.pickT rfl rfl) rfl rfl ?_
                refine XO.c (.assign rfl) rfl rfl ?_
                refine XO.nil (thenC.go ?_)
                refine XC.ret fun tf htf => ?_
                refine endF.one rfl rfl (htf 4 _ rfl) ?_
                exact ⟨congrArg Value.bool (by first | rfl | exact absurd rfl g16_5 | exact absurd ((ratio_fin (exceed_one c7 e0) (fun _ => rfl)).symm.trans g16_12) (by decide) | exact absurd ((ratio_fin (exceed_one c7 e0) (fun h => absurd h c12)).symm.trans g16_12) (by decide) | exact absurd ((ratio_fin (exceed_no c7) (fun _ => rfl)).symm.trans g16_12) (by decide) | exact absurd ((ratio_fin (exceed_no c7) (fun h => absurd h c12)).symm.trans g16_12) (by decide) | exact absurd ((number_fin (quant_one c7 e0 g9_3) (fun _ => rfl)).symm.trans g16_19) (by decide) | exact absurd ((number_fin (quant_one c7 e0 g9_3) (fun h => absurd h c14)).symm.trans g16_19) (by decide) | exact absurd ((number_fin (quant_one2 c7 e0 g9_3) (fun _ => rfl)).symm.trans g16_19) (by decide) | exact absurd ((number_fin (quant_one2 c7 e0 g9_3) (fun h => absurd h c14)).symm.trans g16_19) (by decide) | exact absurd ((number_fin (quant_no c7) (fun _ => rfl)).symm.trans g16_19) (by decide) | exact absurd ((number_fin (quant_no c7) (fun h => absurd h c14)).symm.trans g16_19) (by decide)), hA.leftAf rfl⟩
              · refine XO.skip rfl rfl rfl rfl rfl ?_
                refine XO.c (.pickF rfl rfl) rfl rfl ?_
                refine XO.c (.assign rfl) rfl rfl ?_
                refine XO.nil (thenC.go ?_)
                refine XC.ret fun tf htf => ?_
                refine endF.one rfl rfl (htf 4 _ rfl) ?_
                exact ⟨congrArg Value.bool (by first | rfl | exact absurd rfl g16_5 | exact absurd ((ratio_fin (exceed_one c7 e0) (fun _ => rfl)).symm.trans g16_12) (by decide) | exact absurd ((ratio_fin (exceed_one c7 e0) (fun h => absurd h c12)).symm.trans g16_12) (by decide) | exact absurd ((ratio_fin (exceed_no c7) (fun _ => rfl)).symm.trans g16_12) (by decide) | exact absurd ((ratio_fin (exceed_no c7) (fun h => absurd h c12)).symm.trans g16_12) (by decide) | exact absurd ((number_fin (quant_one c7 e0 g9_3) (fun _ => rfl)).symm.trans g16_19) (by decide) | exact absurd ((number_fin (quant_one c7 e0 g9_3) (fun h => absurd h c14)).symm.trans g16_19) (by decide) | exact absurd ((number_fin (quant_one2 c7 e0 g9_3) (fun _ => rfl)).symm.trans g16_19) (by decide) | exact absurd ((number_fin (quant_one2 c7 e0 g9_3) (fun h => absurd h c14)).symm.trans g16_19) (by decide) | exact absurd ((number_fin (quant_no c7) (fun _ => rfl)).symm.trans g16_19) (by decide) | exact absurd ((number_fin (quant_no c7) (fun h => absurd h c14)).symm.trans g16_19) (by decide)), hA.leftAf rfl⟩
            · refine XO.skip rfl rfl rfl rfl rfl ?_
              refine XO.skip rfl rfl rfl rfl rfl ?_
              refine XO.skip rfl rfl rfl rfl rfl ?_
              refine XO.skip rfl rfl rfl rfl rfl ?_
              refine XO.skip rfl rfl rfl rfl rfl ?_
              refine XO.c (.pickF rfl rfl) rfl rfl ?_
              refine XO.c (.move rfl) rfl rfl ?_
              refine XO.skip rfl rfl rfl rfl rfl ?_
              refine XO.c (.pickF rfl rfl) rfl rfl ?_
              refine XO.c (.assign rfl) rfl rfl ?_
              refine XO.nil (thenC.go ?_)
              refine XC.ret fun tf htf => ?_
              refine endF.one rfl rfl (htf 4 _ rfl) ?_
              exact ⟨congrArg Value.bool (by first | rfl | exact absurd rfl g16_5 | exact absurd ((ratio_fin (exceed_one c7 e0) (fun _ => rfl)).symm.trans g16_12) (by decide) | exact absurd ((ratio_fin (exceed_one c7 e0) (fun h => absurd h c12)).symm.trans g16_12) (by decide) | exact absurd ((ratio_fin (exceed_no c7) (fun _ => rfl)).symm.trans g16_12) (by decide) | exact absurd ((ratio_fin (exceed_no c7) (fun h => absurd h c12)).symm.trans g16_12) (by decide) | exact absurd ((number_fin (quant_one c7 e0 g9_3) (fun _ => rfl)).symm.trans g16_19) (by decide) | exact absurd ((number_fin (quant_one c7 e0 g9_3) (fun h => absurd h c14)).symm.trans g16_19) (by decide) | exact absurd ((number_fin (quant_one2 c7 e0 g9_3) (fun _ => rfl)).symm.trans g16_19) (by decide) | exact absurd ((number_fin (quant_one2 c7 e0 g9_3) (fun h => absurd h c14)).symm.trans g16_19) (by decide) | exact absurd ((number_fin (quant_no c7) (fun _ => rfl)).symm.trans g16_19) (by decide) | exact absurd ((number_fin (quant_no c7) (fun h => absurd h c14)).symm.trans g16_19) (by decide)), hA.leftAf rfl⟩
          · refine XO.skip rfl rfl rfl rfl rfl ?_
            refine XO.skip rfl rfl rfl rfl rfl ?_
            refine XO.skip rfl rfl rfl rfl rfl ?_
            refine XO.skip rfl rfl rfl rfl rfl ?_
            refine XO.skip rfl rfl rfl rfl rfl ?_
            refine XO.c (.pickF rfl rfl) rfl rfl ?_
            refine XO.c (.move rfl) rfl rfl ?_
            refine XO.skip rfl rfl rfl rfl rfl ?_
            refine XO.skip rfl rfl rfl rfl rfl ?_
            refine XO.skip rfl rfl rfl rfl rfl ?_
            refine XO.skip rfl rfl rfl rfl rfl ?_
            refine XO.skip rfl rfl rfl rfl rfl ?_
            refine XO.c (.pickF rfl rfl) rfl rfl ?_
            refine XO.c (.move rfl) rfl rfl ?_
            refine XO.skip rfl rfl rfl rfl rfl ?_
            refine XO.c (.pickF rfl rfl) rfl rfl ?_
            refine XO.c (.assign rfl) rfl rfl ?_
            refine XO.nil (thenC.go ?_)
            refine XC.ret fun tf htf => ?_
            refine endF.one rfl rfl (htf 4 _ rfl) ?_
            exact ⟨congrArg Value.bool (by first | rfl | exact absurd rfl g16_5 | exact absurd ((ratio_fin (exceed_one c7 e0) (fun _ => rfl)).symm.trans g16_12) (by decide) | exact absurd ((ratio_fin (exceed_one c7 e0) (fun h => absurd h c12)).symm.trans g16_12) (by decide) | exact absurd ((ratio_fin (exceed_no c7) (fun _ => rfl)).symm.trans g16_12) (by decide) | exact absurd ((ratio_fin (exceed_no c7) (fun h => absurd h c12)).symm.trans g16_12) (by decide) | exact absurd ((number_fin (quant_one c7 e0 g9_3) (fun _ => rfl)).symm.trans g16_19) (by decide) | exact absurd ((number_fin (quant_one c7 e0 g9_3) (fun h => absurd h c14)).symm.trans g16_19) (by decide) | exact absurd ((number_fin (quant_one2 c7 e0 g9_3) (fun _ => rfl)).symm.trans g16_19) (by decide) | exact absurd ((number_fin (quant_one2 c7 e0 g9_3) (fun h => absurd h c14)).symm.trans g16_19) (by decide) | exact absurd ((number_fin (quant_no c7) (fun _ => rfl)).symm.trans g16_19) (by decide) | exact absurd ((number_fin (quant_no c7) (fun h => absurd h c14)).symm.trans g16_19) (by decide)), hA.leftAf rfl⟩
      · refine XC.skip (thenC.go ?_)
        refine XC.seq ?_
        refine XC.seq ?_
        refine XC.text ?_
        refine XO.c (.move rfl) rfl rfl ?_
        refine XO.c (.eql rfl rfl) rfl rfl ?_
        refine XO.nil (thenC.go ?_)
        refine XC.condD rfl (fun c14 => ?_) (fun c14 => ?_)
        · have hY := (by first | exact absurd c14 c7 | exact quantB_ok ((quant_one c7 e0 g9_3).trans c14) | exact quantB_ok ((quant_one2 c7 e0 g9_3).trans c14) : OkQ l x.2.2.1 x.2.2.2)
          refine XC.text ?_
          refine XO.c (.move rfl) rfl rfl ?_
          refine XO.c (.fieldAddr rfl ((b101).fa (f := 2) (k := 3) (by kernel_rfl))) rfl rfl ?_
          refine XO.r (.load rfl (((((b101).base.snd' (m := 1) rfl (b101).isP).snd' (m := 3) rfl (b101).isP).fst').ldInt vt3)) rfl rfl ?_
          refine XO.c (.fieldAddr rfl ((b101).fa (f := 3) (k := 4) (by kernel_rfl))) rfl rfl ?_
          obtain ⟨u247, e247, r247⟩ := (((((b101).base.snd' (m := 1) rfl (b101).isP).snd' (m := 3) rfl (b101).isP).snd' (m := 4) rfl (b101).isP)).ldV vt58
          obtain ⟨c248_0, c248_1, rfl, r248_0, r248_1⟩ := r247.st2 rfl rfl
          obtain rfl := r248_0.int
          obtain rfl := r248_1.int
          refine XO.r (.load rfl (e247)) rfl rfl ?_
          refine XO.call rfl rfl rfl rfl ?_
          refine EvF.mono (rQuantile_ok (hA.ok hok) (b225.inS (hA.ok hok) (b115.inS (hA.ok hok) (hA.inS hS))) ha0 (s := x.2.2.2) hY) ?_
          rintro _ _ ⟨rfl, hh⟩
          obtain rfl := hh.symm
          clear hh
          refine XO.c (.assign rfl) rfl rfl ?_
          refine XO.nil (thenC.go ?_)
          refine XC.seq ?_
          refine XC.text ?_
          refine XO.c (.move rfl) rfl rfl ?_
          refine XO.call rfl rfl rfl rfl ?_
          refine EvF.mono (lCourses_ok (hA.ok hok) (b225.inS (hA.ok hok) (b115.inS (hA.ok hok) (hA.inS hS))) ha0 (by omega) hc) ?_
          rintro u250 h250 ⟨a250, s250⟩
          have ok251 := hA.ok hok
          have gg251 : Goes h225 (ownP p225 ++ (ownP p113 ++ S)) h250 (ownP p225 ++ (ownP p113 ++ S)) := a250.nx ok251
          replace hA := hA.trans a250
          replace ha0 := ha0.nx gg251
          replace b101 := b101.nx gg251
          replace s106 := s106.nx gg251
          replace s118 := s118.nx gg251
          replace b115 := b115.keep a250 ok251
          replace b225 := b225.keep a250 ok251
          refine XO.call rfl rfl rfl rfl ?_
          refine EvF.mono (sEnsemble_ok (hA.ok hok) (b225.inS (hA.ok hok) (b115.inS (hA.ok hok) (hA.inS hS))) s250 hc) ?_
          rintro _ _ ⟨rfl, hh⟩
          obtain rfl := hh.symm
          clear hh
          refine XO.c (.move rfl) rfl rfl ?_
          refine XO.c (.eql rfl rfl) rfl rfl ?_
          refine XO.c (.move rfl) rfl rfl ?_
          refine XO.splitD (x := 97) rfl (fun g16_5 => ?_) (fun g16_5 => ?_)
          · refine XO.gr rfl rfl rfl (.load rfl (b115.ldA vt58 rfl rfl)) rfl rfl ?_
            refine XO.gc rfl rfl rfl (.move rfl) rfl rfl ?_
            refine XO.gc rfl rfl rfl (.move rfl) rfl rfl ?_
            refine XO.gr rfl rfl rfl (.load rfl (b225.ldA vt58 rfl rfl)) rfl rfl ?_
            refine XO.gcall rfl rfl rfl rfl rfl rfl rfl ?_
            refine EvF.mono (lRatio_ok (hA.ok hok) (b225.inS (hA.ok hok) (b115.inS (hA.ok hok) (hA.inS hS)))  (want := (0, 0)) (hv := ((if exceedB l x.1 x.2.1 = 0 then exceedE l x.1 x.2.1 else (0, 0)).1, (if exceedB l x.1 x.2.1 = 0 then exceedE l x.1 x.2.1 else (0, 0)).2)) ) ?_
            rintro _ _ ⟨rfl, hh⟩
            obtain rfl := hh.symm
            clear hh
            refine XO.c (.pickT rfl rfl) rfl rfl ?_
            refine XO.c (.move rfl) rfl rfl ?_
            refine XO.splitB (x := 104) rfl (fun g16_12 => ?_) (fun g16_12 => ?_)
            · refine XO.gc rfl rfl rfl (.move rfl) rfl rfl ?_
              refine XO.gc rfl rfl rfl (.move rfl) rfl rfl ?_
              refine XO.gc rfl rfl rfl (.move rfl) rfl rfl ?_
              refine XO.gc rfl rfl rfl (.move rfl) rfl rfl ?_
              refine XO.gcall rfl rfl rfl rfl rfl rfl rfl ?_
              refine EvF.mono (lNumber_ok (hA.ok hok) (b225.inS (hA.ok hok) (b115.inS (hA.ok hok) (hA.inS hS)))  ) ?_
              rintro _ _ ⟨rfl, hh⟩
              obtain rfl := hh.symm
              clear hh
              refine XO.c (.pickT rfl rfl) rfl rfl ?_
              refine XO.c (.move rfl) rfl rfl ?_
              refine XO.splitB (x := 111) rfl (fun g16_19 => ?_) (fun g16_19 => ?_)
              · refine XO.gcall rfl rfl rfl rfl rfl rfl rfl ?_
                refine EvF.mono (awake_ok  ) ?_
                rintro _ _ ⟨rfl, hh⟩
                obtain rfl := hh.symm
                clear hh
                refine XO.c (.pickT rfl rfl) rfl rfl ?_
                refine XO.c (.assign rfl) rfl rfl ?_
                refine XO.nil (thenC.go ?_)
                refine XC.ret fun tf htf => ?_
                refine endF.one rfl rfl (htf 4 _ rfl) ?_
                exact ⟨congrArg Value.bool (by first | rfl | exact absurd rfl g16_5 | exact absurd ((ratio_fin (exceed_one c7 e0) (fun _ => rfl)).symm.trans g16_12) (by decide) | exact absurd ((ratio_fin (exceed_one c7 e0) (fun h => absurd h c12)).symm.trans g16_12) (by decide) | exact absurd ((ratio_fin (exceed_no c7) (fun _ => rfl)).symm.trans g16_12) (by decide) | exact absurd ((ratio_fin (exceed_no c7) (fun h => absurd h c12)).symm.trans g16_12) (by decide) | exact absurd ((number_fin (quant_one c7 e0 g9_3) (fun _ => rfl)).symm.trans g16_19) (by decide) | exact absurd ((number_fin (quant_one c7 e0 g9_3) (fun h => absurd h c14)).symm.trans g16_19) (by decide) | exact absurd ((number_fin (quant_one2 c7 e0 g9_3) (fun _ => rfl)).symm.trans g16_19) (by decide) | exact absurd ((number_fin (quant_one2 c7 e0 g9_3) (fun h => absurd h c14)).symm.trans g16_19) (by decide) | exact absurd ((number_fin (quant_no c7) (fun _ => rfl)).symm.trans g16_19) (by decide) | exact absurd ((number_fin (quant_no c7) (fun h => absurd h c14)).symm.trans g16_19) (by decide)), hA.leftAf rfl⟩
              · refine XO.skip rfl rfl rfl rfl rfl ?_
                refine XO.c (.pickF rfl rfl) rfl rfl ?_
                refine XO.c (.assign rfl) rfl rfl ?_
                refine XO.nil (thenC.go ?_)
                refine XC.ret fun tf htf => ?_
                refine endF.one rfl rfl (htf 4 _ rfl) ?_
                exact ⟨congrArg Value.bool (by first | rfl | exact absurd rfl g16_5 | exact absurd ((ratio_fin (exceed_one c7 e0) (fun _ => rfl)).symm.trans g16_12) (by decide) | exact absurd ((ratio_fin (exceed_one c7 e0) (fun h => absurd h c12)).symm.trans g16_12) (by decide) | exact absurd ((ratio_fin (exceed_no c7) (fun _ => rfl)).symm.trans g16_12) (by decide) | exact absurd ((ratio_fin (exceed_no c7) (fun h => absurd h c12)).symm.trans g16_12) (by decide) | exact absurd ((number_fin (quant_one c7 e0 g9_3) (fun _ => rfl)).symm.trans g16_19) (by decide) | exact absurd ((number_fin (quant_one c7 e0 g9_3) (fun h => absurd h c14)).symm.trans g16_19) (by decide) | exact absurd ((number_fin (quant_one2 c7 e0 g9_3) (fun _ => rfl)).symm.trans g16_19) (by decide) | exact absurd ((number_fin (quant_one2 c7 e0 g9_3) (fun h => absurd h c14)).symm.trans g16_19) (by decide) | exact absurd ((number_fin (quant_no c7) (fun _ => rfl)).symm.trans g16_19) (by decide) | exact absurd ((number_fin (quant_no c7) (fun h => absurd h c14)).symm.trans g16_19) (by decide)), hA.leftAf rfl⟩
            · refine XO.skip rfl rfl rfl rfl rfl ?_
              refine XO.skip rfl rfl rfl rfl rfl ?_
              refine XO.skip rfl rfl rfl rfl rfl ?_
              refine XO.skip rfl rfl rfl rfl rfl ?_
              refine XO.skip rfl rfl rfl rfl rfl ?_
              refine XO.c (.pickF rfl rfl) rfl rfl ?_
              refine XO.c (.move rfl) rfl rfl ?_
              refine XO.skip rfl rfl rfl rfl rfl ?_
              refine XO.c (.pickF rfl rfl) rfl rfl ?_
              refine XO.c (.assign rfl) rfl rfl ?_
              refine XO.nil (thenC.go ?_)
              refine XC.ret fun tf htf => ?_
              refine endF.one rfl rfl (htf 4 _ rfl) ?_
              exact ⟨congrArg Value.bool (by first | rfl | exact absurd rfl g16_5 | exact absurd ((ratio_fin (exceed_one c7 e0) (fun _ => rfl)).symm.trans g16_12) (by decide) | exact absurd ((ratio_fin (exceed_one c7 e0) (fun h => absurd h c12)).symm.trans g16_12) (by decide) | exact absurd ((ratio_fin (exceed_no c7) (fun _ => rfl)).symm.trans g16_12) (by decide) | exact absurd ((ratio_fin (exceed_no c7) (fun h => absurd h c12)).symm.trans g16_12) (by decide) | exact absurd ((number_fin (quant_one c7 e0 g9_3) (fun _ => rfl)).symm.trans g16_19) (by decide) | exact absurd ((number_fin (quant_one c7 e0 g9_3) (fun h => absurd h c14)).symm.trans g16_19) (by decide) | exact absurd ((number_fin (quant_one2 c7 e0 g9_3) (fun _ => rfl)).symm.trans g16_19) (by decide) | exact absurd ((number_fin (quant_one2 c7 e0 g9_3) (fun h => absurd h c14)).symm.trans g16_19) (by decide) | exact absurd ((number_fin (quant_no c7) (fun _ => rfl)).symm.trans g16_19) (by decide) | exact absurd ((number_fin (quant_no c7) (fun h => absurd h c14)).symm.trans g16_19) (by decide)), hA.leftAf rfl⟩
          · refine XO.skip rfl rfl rfl rfl rfl ?_
            refine XO.skip rfl rfl rfl rfl rfl ?_
            refine XO.skip rfl rfl rfl rfl rfl ?_
            refine XO.skip rfl rfl rfl rfl rfl ?_
            refine XO.skip rfl rfl rfl rfl rfl ?_
            refine XO.c (.pickF rfl rfl) rfl rfl ?_
            refine XO.c (.move rfl) rfl rfl ?_
            refine XO.skip rfl rfl rfl rfl rfl ?_
            refine XO.skip rfl rfl rfl rfl rfl ?_
            refine XO.skip rfl rfl rfl rfl rfl ?_
            refine XO.skip rfl rfl rfl rfl rfl ?_
            refine XO.skip rfl rfl rfl rfl rfl ?_
            refine XO.c (.pickF rfl rfl) rfl rfl ?_
            refine XO.c (.move rfl) rfl rfl ?_
            refine XO.skip rfl rfl rfl rfl rfl ?_
            refine XO.c (.pickF rfl rfl) rfl rfl ?_
            refine XO.c (.assign rfl) rfl rfl ?_
            refine XO.nil (thenC.go ?_)
            refine XC.ret fun tf htf => ?_
            refine endF.one rfl rfl (htf 4 _ rfl) ?_
            exact ⟨congrArg Value.bool (by first | rfl | exact absurd rfl g16_5 | exact absurd ((ratio_fin (exceed_one c7 e0) (fun _ => rfl)).symm.trans g16_12) (by decide) | exact absurd ((ratio_fin (exceed_one c7 e0) (fun h => absurd h c12)).symm.trans g16_12) (by decide) | exact absurd ((ratio_fin (exceed_no c7) (fun _ => rfl)).symm.trans g16_12) (by decide) | exact absurd ((ratio_fin (exceed_no c7) (fun h => absurd h c12)).symm.trans g16_12) (by decide) | exact absurd ((number_fin (quant_one c7 e0 g9_3) (fun _ => rfl)).symm.trans g16_19) (by decide) | exact absurd ((number_fin (quant_one c7 e0 g9_3) (fun h => absurd h c14)).symm.trans g16_19) (by decide) | exact absurd ((number_fin (quant_one2 c7 e0 g9_3) (fun _ => rfl)).symm.trans g16_19) (by decide) | exact absurd ((number_fin (quant_one2 c7 e0 g9_3) (fun h => absurd h c14)).symm.trans g16_19) (by decide) | exact absurd ((number_fin (quant_no c7) (fun _ => rfl)).symm.trans g16_19) (by decide) | exact absurd ((number_fin (quant_no c7) (fun h => absurd h c14)).symm.trans g16_19) (by decide)), hA.leftAf rfl⟩
        · refine XC.skip (thenC.go ?_)
          refine XC.seq ?_
          refine XC.text ?_
          refine XO.c (.move rfl) rfl rfl ?_
          refine XO.call rfl rfl rfl rfl ?_
          refine EvF.mono (lCourses_ok (hA.ok hok) (b225.inS (hA.ok hok) (b115.inS (hA.ok hok) (hA.inS hS))) ha0 (by omega) hc) ?_
          rintro u256 h256 ⟨a256, s256⟩
          have ok257 := hA.ok hok
          have gg257 : Goes h225 (ownP p225 ++ (ownP p113 ++ S)) h256 (ownP p225 ++ (ownP p113 ++ S)) := a256.nx ok257
          replace hA := hA.trans a256
          replace ha0 := ha0.nx gg257
          replace b101 := b101.nx gg257
          replace s106 := s106.nx gg257
          replace s118 := s118.nx gg257
          replace b115 := b115.keep a256 ok257
          replace b225 := b225.keep a256 ok257
          refine XO.call rfl rfl rfl rfl ?_
          refine EvF.mono (sEnsemble_ok (hA.ok hok) (b225.inS (hA.ok hok) (b115.inS (hA.ok hok) (hA.inS hS))) s256 hc) ?_
          rintro _ _ ⟨rfl, hh⟩
          obtain rfl := hh.symm
          clear hh
          refine XO.c (.move rfl) rfl rfl ?_
          refine XO.c (.eql rfl rfl) rfl rfl ?_
          refine XO.c (.move rfl) rfl rfl ?_
          refine XO.splitD (x := 97) rfl (fun g16_5 => ?_) (fun g16_5 => ?_)
          · refine XO.gr rfl rfl rfl (.load rfl (b115.ldA vt58 rfl rfl)) rfl rfl ?_
            refine XO.gc rfl rfl rfl (.move rfl) rfl rfl ?_
            refine XO.gc rfl rfl rfl (.move rfl) rfl rfl ?_
            refine XO.gr rfl rfl rfl (.load rfl (b225.ldA vt58 rfl rfl)) rfl rfl ?_
            refine XO.gcall rfl rfl rfl rfl rfl rfl rfl ?_
            refine EvF.mono (lRatio_ok (hA.ok hok) (b225.inS (hA.ok hok) (b115.inS (hA.ok hok) (hA.inS hS)))  (want := (0, 0)) (hv := ((if exceedB l x.1 x.2.1 = 0 then exceedE l x.1 x.2.1 else (0, 0)).1, (if exceedB l x.1 x.2.1 = 0 then exceedE l x.1 x.2.1 else (0, 0)).2)) ) ?_
            rintro _ _ ⟨rfl, hh⟩
            obtain rfl := hh.symm
            clear hh
            refine XO.c (.pickT rfl rfl) rfl rfl ?_
            refine XO.c (.move rfl) rfl rfl ?_
            refine XO.splitB (x := 104) rfl (fun g16_12 => ?_) (fun g16_12 => ?_)
            · refine XO.gc rfl rfl rfl (.move rfl) rfl rfl ?_
              refine XO.gc rfl rfl rfl (.move rfl) rfl rfl ?_
              refine XO.gc rfl rfl rfl (.move rfl) rfl rfl ?_
              refine XO.gc rfl rfl rfl (.move rfl) rfl rfl ?_
              refine XO.gcall rfl rfl rfl rfl rfl rfl rfl ?_
              refine EvF.mono (lNumber_ok (hA.ok hok) (b225.inS (hA.ok hok) (b115.inS (hA.ok hok) (hA.inS hS)))  ) ?_
              rintro _ _ ⟨rfl, hh⟩
              obtain rfl := hh.symm
              clear hh
              refine XO.c (.pickT rfl rfl) rfl rfl ?_
              refine XO.c (.move rfl) rfl rfl ?_
              refine XO.splitB (x := 111) rfl (fun g16_19 => ?_) (fun g16_19 => ?_)
              · refine XO.gcall rfl rfl rfl rfl rfl rfl rfl ?_
                refine EvF.mono (awake_ok  ) ?_
                rintro _ _ ⟨rfl, hh⟩
                obtain rfl := hh.symm
                clear hh
                refine XO.c (.pickT rfl rfl) rfl rfl ?_
                refine XO.c (.assign rfl) rfl rfl ?_
                refine XO.nil (thenC.go ?_)
                refine XC.ret fun tf htf => ?_
                refine endF.one rfl rfl (htf 4 _ rfl) ?_
                exact ⟨congrArg Value.bool (by first | rfl | exact absurd rfl g16_5 | exact absurd ((ratio_fin (exceed_one c7 e0) (fun _ => rfl)).symm.trans g16_12) (by decide) | exact absurd ((ratio_fin (exceed_one c7 e0) (fun h => absurd h c12)).symm.trans g16_12) (by decide) | exact absurd ((ratio_fin (exceed_no c7) (fun _ => rfl)).symm.trans g16_12) (by decide) | exact absurd ((ratio_fin (exceed_no c7) (fun h => absurd h c12)).symm.trans g16_12) (by decide) | exact absurd ((number_fin (quant_one c7 e0 g9_3) (fun _ => rfl)).symm.trans g16_19) (by decide) | exact absurd ((number_fin (quant_one c7 e0 g9_3) (fun h => absurd h c14)).symm.trans g16_19) (by decide) | exact absurd ((number_fin (quant_one2 c7 e0 g9_3) (fun _ => rfl)).symm.trans g16_19) (by decide) | exact absurd ((number_fin (quant_one2 c7 e0 g9_3) (fun h => absurd h c14)).symm.trans g16_19) (by decide) | exact absurd ((number_fin (quant_no c7) (fun _ => rfl)).symm.trans g16_19) (by decide) | exact absurd ((number_fin (quant_no c7) (fun h => absurd h c14)).symm.trans g16_19) (by decide)), hA.leftAf rfl⟩
              · refine XO.skip rfl rfl rfl rfl rfl ?_
                refine XO.c (.pickF rfl rfl) rfl rfl ?_
                refine XO.c (.assign rfl) rfl rfl ?_
                refine XO.nil (thenC.go ?_)
                refine XC.ret fun tf htf => ?_
                refine endF.one rfl rfl (htf 4 _ rfl) ?_
                exact ⟨congrArg Value.bool (by first | rfl | exact absurd rfl g16_5 | exact absurd ((ratio_fin (exceed_one c7 e0) (fun _ => rfl)).symm.trans g16_12) (by decide) | exact absurd ((ratio_fin (exceed_one c7 e0) (fun h => absurd h c12)).symm.trans g16_12) (by decide) | exact absurd ((ratio_fin (exceed_no c7) (fun _ => rfl)).symm.trans g16_12) (by decide) | exact absurd ((ratio_fin (exceed_no c7) (fun h => absurd h c12)).symm.trans g16_12) (by decide) | exact absurd ((number_fin (quant_one c7 e0 g9_3) (fun _ => rfl)).symm.trans g16_19) (by decide) | exact absurd ((number_fin (quant_one c7 e0 g9_3) (fun h => absurd h c14)).symm.trans g16_19) (by decide) | exact absurd ((number_fin (quant_one2 c7 e0 g9_3) (fun _ => rfl)).symm.trans g16_19) (by decide) | exact absurd ((number_fin (quant_one2 c7 e0 g9_3) (fun h => absurd h c14)).symm.trans g16_19) (by decide) | exact absurd ((number_fin (quant_no c7) (fun _ => rfl)).symm.trans g16_19) (by decide) | exact absurd ((number_fin (quant_no c7) (fun h => absurd h c14)).symm.trans g16_19) (by decide)), hA.leftAf rfl⟩
            · refine XO.skip rfl rfl rfl rfl rfl ?_
              refine XO.skip rfl rfl rfl rfl rfl ?_
              refine XO.skip rfl rfl rfl rfl rfl ?_
              refine XO.skip rfl rfl rfl rfl rfl ?_
              refine XO.skip rfl rfl rfl rfl rfl ?_
              refine XO.c (.pickF rfl rfl) rfl rfl ?_
              refine XO.c (.move rfl) rfl rfl ?_
              refine XO.skip rfl rfl rfl rfl rfl ?_
              refine XO.c (.pickF rfl rfl) rfl rfl ?_
              refine XO.c (.assign rfl) rfl rfl ?_
              refine XO.nil (thenC.go ?_)
              refine XC.ret fun tf htf => ?_
              refine endF.one rfl rfl (htf 4 _ rfl) ?_
              exact ⟨congrArg Value.bool (by first | rfl | exact absurd rfl g16_5 | exact absurd ((ratio_fin (exceed_one c7 e0) (fun _ => rfl)).symm.trans g16_12) (by decide) | exact absurd ((ratio_fin (exceed_one c7 e0) (fun h => absurd h c12)).symm.trans g16_12) (by decide) | exact absurd ((ratio_fin (exceed_no c7) (fun _ => rfl)).symm.trans g16_12) (by decide) | exact absurd ((ratio_fin (exceed_no c7) (fun h => absurd h c12)).symm.trans g16_12) (by decide) | exact absurd ((number_fin (quant_one c7 e0 g9_3) (fun _ => rfl)).symm.trans g16_19) (by decide) | exact absurd ((number_fin (quant_one c7 e0 g9_3) (fun h => absurd h c14)).symm.trans g16_19) (by decide) | exact absurd ((number_fin (quant_one2 c7 e0 g9_3) (fun _ => rfl)).symm.trans g16_19) (by decide) | exact absurd ((number_fin (quant_one2 c7 e0 g9_3) (fun h => absurd h c14)).symm.trans g16_19) (by decide) | exact absurd ((number_fin (quant_no c7) (fun _ => rfl)).symm.trans g16_19) (by decide) | exact absurd ((number_fin (quant_no c7) (fun h => absurd h c14)).symm.trans g16_19) (by decide)), hA.leftAf rfl⟩
          · refine XO.skip rfl rfl rfl rfl rfl ?_
            refine XO.skip rfl rfl rfl rfl rfl ?_
            refine XO.skip rfl rfl rfl rfl rfl ?_
            refine XO.skip rfl rfl rfl rfl rfl ?_
            refine XO.skip rfl rfl rfl rfl rfl ?_
            refine XO.c (.pickF rfl rfl) rfl rfl ?_
            refine XO.c (.move rfl) rfl rfl ?_
            refine XO.skip rfl rfl rfl rfl rfl ?_
            refine XO.skip rfl rfl rfl rfl rfl ?_
            refine XO.skip rfl rfl rfl rfl rfl ?_
            refine XO.skip rfl rfl rfl rfl rfl ?_
            refine XO.skip rfl rfl rfl rfl rfl ?_
            refine XO.c (.pickF rfl rfl) rfl rfl ?_
            refine XO.c (.move rfl) rfl rfl ?_
            refine XO.skip rfl rfl rfl rfl rfl ?_
            refine XO.c (.pickF rfl rfl) rfl rfl ?_
            refine XO.c (.assign rfl) rfl rfl ?_
            refine XO.nil (thenC.go ?_)
            refine XC.ret fun tf htf => ?_
            refine endF.one rfl rfl (htf 4 _ rfl) ?_
            exact ⟨congrArg Value.bool (by first | rfl | exact absurd rfl g16_5 | exact absurd ((ratio_fin (exceed_one c7 e0) (fun _ => rfl)).symm.trans g16_12) (by decide) | exact absurd ((ratio_fin (exceed_one c7 e0) (fun h => absurd h c12)).symm.trans g16_12) (by decide) | exact absurd ((ratio_fin (exceed_no c7) (fun _ => rfl)).symm.trans g16_12) (by decide) | exact absurd ((ratio_fin (exceed_no c7) (fun h => absurd h c12)).symm.trans g16_12) (by decide) | exact absurd ((number_fin (quant_one c7 e0 g9_3) (fun _ => rfl)).symm.trans g16_19) (by decide) | exact absurd ((number_fin (quant_one c7 e0 g9_3) (fun h => absurd h c14)).symm.trans g16_19) (by decide) | exact absurd ((number_fin (quant_one2 c7 e0 g9_3) (fun _ => rfl)).symm.trans g16_19) (by decide) | exact absurd ((number_fin (quant_one2 c7 e0 g9_3) (fun h => absurd h c14)).symm.trans g16_19) (by decide) | exact absurd ((number_fin (quant_no c7) (fun _ => rfl)).symm.trans g16_19) (by decide) | exact absurd ((number_fin (quant_no c7) (fun h => absurd h c14)).symm.trans g16_19) (by decide)), hA.leftAf rfl⟩
end Go.Proofs
