/- Contracts of functions of the program, over the evaluator: what each answers. Conditions: those in each statement. -/
import Derived.Test.YtednnfllcafliaaGreatDoorP5
set_option linter.all false
namespace Go.Proofs
open Go.Fs
set_option linter.unusedVariables false

theorem nlist_fin1 {l : List (List Int × List Int)} {b : Int × Int} : listE (if verB l b = 0 then verE l b l.length else []) (verB l b) (firstE [nightsE l, boundsE b]) (verE l b l.length) = true := decide_eq_true ⟨rfl, rfl⟩
theorem nlist_fin2 {l : List (List Int × List Int)} {b : Int × Int} (h : ¬ firstE [nightsE l, boundsE b] = 0) : listE (if verB l b = 0 then verE l b l.length else []) (verB l b) (firstE [nightsE l, boundsE b]) [] = true :=
  decide_eq_true ⟨rfl, by rw [if_neg (show ¬ verB l b = 0 from h), if_neg h]⟩
theorem law2_ok {h : Heap} {S : List Nat} {v0 : Value} {l : List ((List Int) × (List Int))} {b : Int × Int} (hok : HOk h) (hS : ∀ b ∈ S, b < h.next) (ha0 : SlV h S (.pair (.sl (.int .i64)) (.sl (.int .i64))) v0 l) : EvF Tryz.prog OA 4 [v0, .agg #[.int .i64 b.1, .int .i64 b.2]] h fun r h' => r = .bool true ∧ h' = h := by
  refine XF.enter Tryz.func4 rfl rfl rfl ?_
  have hok : HOk (entry h) := hok
  have hA := After.refl (entry h)
  replace ha0 := ha0.entry
  show XC Tryz.prog OA none _ _ [] [(0, v0), (1, .agg #[.int .i64 b.1, .int .i64 b.2])] (entry h) _
  refine XC.seq ?_
  refine XC.text ?_
  refine XO.boxR rfl (RepV.mk2 (a := (.int .i64)) (b := (.int .i64)) (x := b) (RepV.ofInt .i64 _) (RepV.ofInt .i64 _) rfl rfl) (hA.ok hok) (hA.inS hS) rfl rfl ?_
  intro p101 h101 b101 a101
  have ok102 := hA.ok hok
  have gg102 : Goes (entry h) S h101 S := a101.nx ok102
  replace hA := hA.trans a101
  replace ha0 := ha0.nx gg102
  refine XO.c (.assign rfl) rfl rfl ?_
  refine XO.nil (thenC.go ?_)
  refine XC.seq ?_
  refine XC.seq ?_
  refine XC.text ?_
  refine XO.c (.move rfl) rfl rfl ?_
  refine XO.call rfl rfl rfl rfl ?_
  refine EvF.mono (rShortN_ok (hA.ok hok) (hA.inS hS) ha0 ) ?_
  rintro _ _ ⟨rfl, hh⟩
  obtain rfl := hh.symm
  clear hh
  refine XO.c (.not rfl) rfl rfl ?_
  refine XO.nil (thenC.go ?_)
  refine XC.condB rfl (fun c1 => ?_) (fun c1 => ?_)
  · refine XC.seq ?_
    refine XC.text ?_
    refine XO.call rfl rfl rfl rfl ?_
    refine EvF.mono (awake_ok  ) ?_
    rintro _ _ ⟨rfl, hh⟩
    obtain rfl := hh.symm
    clear hh
    refine XO.c (.assign rfl) rfl rfl ?_
    refine XO.nil (thenC.go ?_)
    refine XC.ret fun tf htf => ?_
    refine thenC_ret ?_
    refine endF.one rfl rfl (htf 4 _ rfl) ?_
    exact ⟨congrArg Value.bool (by first | rfl | exact absurd rfl g13_5 | exact absurd (by rw [if_pos c9]) g13_10 | exact absurd (by rw [if_neg c9]) g13_10 | exact absurd rfl g13_15 | exact absurd (nlist_fin1.symm.trans g13_22) (by decide) | exact absurd ((nlist_fin2 c11).symm.trans g13_22) (by decide)), hA.leftAf rfl⟩
  · have hs : shortNE l = true := by simpa using c1
    have hs1 := of_decide_eq_true hs
    have hs2 := hs1.1
    have hc : ∀ c ∈ l, c.1.length < 100000 ∧ c.2.length < 100000 := fun c hc => by have := hs1.2 c hc; omega
    refine XC.skip (thenC.go ?_)
    refine XC.seq ?_
    refine XC.text ?_
    refine XO.c (.move rfl) rfl rfl ?_
    refine XO.call rfl rfl rfl rfl ?_
    refine EvF.mono (lNights_ok (hA.ok hok) (hA.inS hS) ha0 (by omega) hc) ?_
    rintro u105 h105 ⟨a105, s105⟩
    have ok106 := hA.ok hok
    have gg106 : Goes h101 S h105 S := a105.nx ok106
    replace hA := hA.trans a105
    replace ha0 := ha0.nx gg106
    replace b101 := b101.nx gg106
    refine XO.call rfl rfl rfl rfl ?_
    refine EvF.mono (sLearn_ok (hA.ok hok) (hA.inS hS) s105 hc) ?_
    rintro _ _ ⟨rfl, hh⟩
    obtain rfl := hh.symm
    clear hh
    refine XO.c (.move rfl) rfl rfl ?_
    refine XO.c (.extract rfl (junk2 _ _) rfl) rfl rfl ?_
    refine XO.c (.extract rfl (junk2 _ _) rfl) rfl rfl ?_
    refine XO.allocP (S := S) (z := .agg #[.int .i64 0, .int .i64 0]) (by kernel_rfl) rfl rfl hA hok (hA.inS hS) rfl rfl ?_
    intro p108 h108 b108 a108 gs108
    have ok109 := hA.ok hok
    have gg109 : Goes h105 S h108 (ownP p108 ++ S) := gs108
    replace hA := hA.trans a108
    replace ha0 := ha0.nx gg109
    replace b101 := b101.nx gg109
    replace s105 := s105.nx gg109
    refine XO.stP (S := S) (h0 := (entry h)) (τ := (.pair (.int .i64) (.int .i64))) rfl rfl b108 (RepV.mk2 (a := (.int .i64)) (b := (.int .i64)) (x := if nightsE l = 0 then learnE l else (0, 0)) (RepV.ofInt .i64 _) (RepV.ofInt .i64 _) rfl rfl) vt41 hA ?_
    intro h110 b110 a110 gs110 nx110 fr110
    have ok111 := hA.ok hok
    have gg111 : Goes h108 (ownP p108 ++ S) h110 S := gs110
    replace hA := a110
    replace ha0 := ha0.nx gg111
    replace b101 := b101.nx gg111
    replace s105 := s105.nx gg111
    refine XO.c (.assign rfl) rfl rfl ?_
    refine XO.nil (thenC.go ?_)
    refine XC.seq ?_
    refine XC.drawn ?_
    have hkr112 := hA.ok hok
    have hSr112 := (hA.inS hS)
    refine XD.c (b := 0) (.move rfl) rfl rfl rfl ?_
    refine XD.callU (bb := 1) (After.refl _) SegsOk.nil hkr112 rfl rfl rfl rfl rfl rfl ?_
    intro M113 aM113 kM113 nM113 sM113 oM113
    refine EvF.mono (lNights_ok kM113 (by first | exact aM113.inS hSr112 | exact (hA.inS hS)) (ha0.nx (aM113.nx hkr112)) (by omega) hc) ?_
    rintro u113 hM113 ⟨a113, s113⟩
    refine ⟨a113, ?_⟩
    clear a113
    intro h113 a113 gM113
    replace s113 := s113.nx (gM113 _)
    have ha0o := ha0
    have b101o := b101
    have s105o := s105
    have b110o := b110
    have rg112 : Goes h110 S h110 S := Goes.refl
    have ra112 := After.refl h110
    have ok114 := hA.ok hok
    have gg114 : Goes h110 S h113 S := a113.nx ok114
    replace hA := hA.trans a113
    replace ha0 := ha0.nx gg114
    replace b101 := b101.nx gg114
    replace s105 := s105.nx gg114
    replace b110 := b110.nx gg114
    replace rg112 := rg112.trans gg114
    have ra112_113 := ra112.trans a113
    obtain ⟨u115, e115, r115⟩ := (b101).ldV vt41
    obtain ⟨c116_0, c116_1, rfl, r116_0, r116_1⟩ := r115.st2 rfl rfl
    obtain rfl := r116_0.int
    obtain rfl := r116_1.int
    obtain ⟨u117, e117, r117⟩ := (b101o).ldV vt41
    obtain ⟨c118_0, c118_1, rfl, r118_0, r118_1⟩ := r117.st2 rfl rfl
    obtain rfl := r118_0.int
    obtain rfl := r118_1.int
    refine XD.ld (b := 0) ra112_113 (SegsOk.cons (ra112).next SegsOk.nil) hkr112 rfl (e117) rfl rfl rfl rfl ?_
    refine XD.callU (bb := 7) ra112_113 (SegsOk.cons (ra112_113).next (SegsOk.cons (ra112).next SegsOk.nil)) hkr112 rfl rfl rfl rfl rfl rfl ?_
    intro M119 aM119 kM119 nM119 sM119 oM119
    obtain rfl := oM119 rfl
    refine EvF.mono (sVerify_ok kM119 (by first | exact aM119.inS hSr112 | exact (hA.inS hS)) (s113).entry hc) ?_
    rintro _ hM119 ⟨a119, u119_0, rfl, s119_0⟩
    refine ⟨a119, ?_⟩
    clear a119
    intro h119 a119 gM119
    replace s119_0 := s119_0.nx (gM119 _)
    have ok120 := hA.ok hok
    have gg120 : Goes h113 S h119 S := a119.nx ok120
    replace hA := hA.trans a119
    replace ha0 := ha0.nx gg120
    replace b101 := b101.nx gg120
    replace s105 := s105.nx gg120
    replace b110 := b110.nx gg120
    replace s113 := s113.nx gg120
    replace rg112 := rg112.trans gg120
    have ra112_119 := ra112_113.trans a119
    refine XD.c (b := 15) (.move rfl) rfl rfl rfl ?_
    refine XD.c (b := 31) (.extract rfl (junk2 _ _) rfl) rfl rfl rfl ?_
    refine XD.c (b := 31) (.extract rfl (junk2 _ _) rfl) rfl rfl rfl ?_
    refine XD.c (b := 63) (.assign rfl) rfl rfl rfl ?_
    refine XD.c (b := 255) (.assign rfl) rfl rfl rfl ?_
    refine XD.nil (thenC.go ?_)
    refine XC.seq ?_
    refine XC.text ?_
    refine XO.c (.move rfl) rfl rfl ?_
    refine XO.call rfl rfl rfl rfl ?_
    refine EvF.mono (rNights_ok (hA.ok hok) (hA.inS hS) ha0 hc) ?_
    rintro _ _ ⟨rfl, hh⟩
    obtain rfl := hh.symm
    clear hh
    refine XO.c (.assign rfl) rfl rfl ?_
    refine XO.nil (thenC.go ?_)
    refine XC.seq ?_
    refine XC.text ?_
    refine XO.c (.move rfl) rfl rfl ?_
    obtain ⟨u122, e122, r122⟩ := (b101).ldV vt41
    obtain ⟨c123_0, c123_1, rfl, r123_0, r123_1⟩ := r122.st2 rfl rfl
    obtain rfl := r123_0.int
    obtain rfl := r123_1.int
    refine XO.r (.load rfl (e122)) rfl rfl ?_
    refine XO.call rfl rfl rfl rfl ?_
    refine EvF.mono (rInterval_ok (hA.ok hok) (hA.inS hS)  ) ?_
    rintro _ _ ⟨rfl, hh⟩
    obtain rfl := hh.symm
    clear hh
    refine XO.lit (h := h119) (S := S) (τ := (.int .i64)) (vsC (RepV.ofInt .i64 _) (vs1 (RepV.ofInt .i64 _))) el22 rfl rfl rfl (by simp) (by simp) (by decide) (hA.ok hok) (hA.inS hS) rfl rfl ?_
    intro w125 h125 s125 a125
    have ok126 := hA.ok hok
    have gg126 : Goes h119 S h125 S := a125.nx ok126
    replace hA := hA.trans a125
    replace ha0 := ha0.nx gg126
    replace b101 := b101.nx gg126
    replace s105 := s105.nx gg126
    replace b110 := b110.nx gg126
    replace s113 := s113.nx gg126
    replace s119_0 := s119_0.nx gg126
    refine XO.call rfl rfl rfl rfl ?_
    refine EvF.mono (lFirst_ok (hA.ok hok) (hA.inS hS) s125 (by simp)) ?_
    rintro _ _ ⟨rfl, hh⟩
    obtain rfl := hh.symm
    clear hh
    refine XO.c (.assign rfl) rfl rfl ?_
    refine XO.nil (thenC.go ?_)
    refine XC.seq ?_
    refine XC.text ?_
    refine XO.allocB (z := .agg #[.int .i64 0, .int .i64 0]) (by kernel_rfl) rfl rfl hA hok rfl rfl ?_
    intro p128 h128 b128 a128 gs128
    have ok129 := hA.ok hok
    have gg129 : Goes h125 S h128 (ownP p128 ++ S) := gs128 _
    replace hA := hA.trans a128
    replace ha0 := ha0.nx gg129
    replace b101 := b101.nx gg129
    replace s105 := s105.nx gg129
    replace b110 := b110.nx gg129
    replace s113 := s113.nx gg129
    replace s119_0 := s119_0.nx gg129
    replace s125 := s125.nx gg129
    refine XO.nil (thenC.go ?_)
    refine XC.seq ?_
    refine XC.text ?_
    refine XO.c (.assign rfl) rfl rfl ?_
    refine XO.nil (thenC.go ?_)
    refine XC.seq ?_
    refine XC.seq ?_
    refine XC.text ?_
    refine XO.c (.move rfl) rfl rfl ?_
    refine XO.c (.eql rfl rfl) rfl rfl ?_
    refine XO.nil (thenC.go ?_)
    refine XC.condD rfl (fun c9 => ?_) (fun c9 => ?_)
    · refine XC.text ?_
      refine XO.c (.move rfl) rfl rfl ?_
      refine XO.call rfl rfl rfl rfl ?_
      refine EvF.mono (rLearn_ok (hA.ok hok) (b128.inS (hA.ok hok) (hA.inS hS)) ha0 (nightsE_ok c9)) ?_
      rintro _ _ ⟨rfl, hh⟩
      obtain rfl := hh.symm
      clear hh
      obtain ⟨h131, e131, b131, a131, n131, nn131, fr131, lw131⟩ := b128.st0 (S := S) (h0 := entry h) (u := .agg #[.int .i64 ((learnE l).1), .int .i64 ((learnE l).2)]) vt41 rfl rfl (Nat.le_of_ble_eq_true rfl) (One.oneAll ⟨⟨rfl, rfl⟩, ⟨⟨rfl, rfl⟩, trivial⟩⟩) hA (show HOk h128 from hA.ok hok)
      refine XO.st rfl rfl e131 ?_
      have ok132 := hA.ok hok
      have gg132 : Goes h128 (ownP p128 ++ S) h131 (ownP p128 ++ S) := n131
      replace hA := a131
      replace ha0 := ha0.nx gg132
      replace b101 := b101.nx gg132
      replace s105 := s105.nx gg132
      replace b110 := b110.nx gg132
      replace s113 := s113.nx gg132
      replace s119_0 := s119_0.nx gg132
      replace s125 := s125.nx gg132
      refine XO.nil (thenC.go ?_)
      refine XC.seq ?_
      refine XC.seq ?_
      refine XC.text ?_
      refine XO.c (.move rfl) rfl rfl ?_
      refine XO.c (.eql rfl rfl) rfl rfl ?_
      refine XO.nil (thenC.go ?_)
      refine XC.condD rfl (fun c11 => ?_) (fun c11 => ?_)
      · refine XC.text ?_
        refine XO.c (.move rfl) rfl rfl ?_
        obtain ⟨u133, e133, r133⟩ := (b101).ldV vt41
        obtain ⟨c134_0, c134_1, rfl, r134_0, r134_1⟩ := r133.st2 rfl rfl
        obtain rfl := r134_0.int
        obtain rfl := r134_1.int
        refine XO.r (.load rfl (e133)) rfl rfl ?_
        refine XO.call rfl rfl rfl rfl ?_
        refine EvF.mono (rVerify_ok (hA.ok hok) (b131.inS (hA.ok hok) (hA.inS hS)) ha0 (verB_ok (show verB l b = 0 from c11)).1) ?_
        rintro u135 h135 ⟨a135, s135⟩
        have ok136 := hA.ok hok
        have gg136 : Goes h131 (ownP p128 ++ S) h135 (ownP p128 ++ S) := a135.nx ok136
        replace hA := hA.trans a135
        replace ha0 := ha0.nx gg136
        replace b101 := b101.nx gg136
        replace s105 := s105.nx gg136
        replace b110 := b110.nx gg136
        replace s113 := s113.nx gg136
        replace s119_0 := s119_0.nx gg136
        replace s125 := s125.nx gg136
        replace b131 := b131.keep a135 ok136
        refine XO.c (.assign rfl) rfl rfl ?_
        refine XO.nil (thenC.go ?_)
        refine XC.seq ?_
        refine XC.text ?_
        refine XO.c (.move rfl) rfl rfl ?_
        refine XO.call rfl rfl rfl rfl ?_
        refine EvF.mono (lNights_ok (hA.ok hok) (b131.inS (hA.ok hok) (hA.inS hS)) ha0 (by omega) hc) ?_
        rintro u137 h137 ⟨a137, s137⟩
        have ok138 := hA.ok hok
        have gg138 : Goes h135 (ownP p128 ++ S) h137 (ownP p128 ++ S) := a137.nx ok138
        replace hA := hA.trans a137
        replace ha0 := ha0.nx gg138
        replace b101 := b101.nx gg138
        replace s105 := s105.nx gg138
        replace b110 := b110.nx gg138
        replace s113 := s113.nx gg138
        replace s119_0 := s119_0.nx gg138
        replace s125 := s125.nx gg138
        replace s135 := s135.nx gg138
        replace b131 := b131.keep a137 ok138
        refine XO.call rfl rfl rfl rfl ?_
        refine EvF.mono (sNights_ok (hA.ok hok) (b131.inS (hA.ok hok) (hA.inS hS)) s137 hc) ?_
        rintro _ _ ⟨rfl, hh⟩
        obtain rfl := hh.symm
        clear hh
        refine XO.c (.move rfl) rfl rfl ?_
        refine XO.c (.eql rfl rfl) rfl rfl ?_
        refine XO.c (.move rfl) rfl rfl ?_
        refine XO.splitD (x := 51) rfl (fun g13_5 => ?_) (fun g13_5 => ?_)
        · obtain ⟨u140, e140, r140⟩ := (b110).ldV vt41
          obtain ⟨c141_0, c141_1, rfl, r141_0, r141_1⟩ := r140.st2 rfl rfl
          obtain rfl := r141_0.int
          obtain rfl := r141_1.int
          refine XO.gr rfl rfl rfl (.load rfl (e140)) rfl rfl ?_
          refine XO.gr rfl rfl rfl (.load rfl (b131.ldA vt41 rfl rfl)) rfl rfl ?_
          refine XO.gc rfl rfl rfl (.eqII (by kernel_rfl) rfl rfl) rfl rfl ?_
          refine XO.c (.pickT rfl rfl) rfl rfl ?_
          refine XO.c (.move rfl) rfl rfl ?_
          refine XO.splitD (x := 56) rfl (fun g13_10 => ?_) (fun g13_10 => ?_)
          · refine XO.gc rfl rfl rfl (.move rfl) rfl rfl ?_
            refine XO.gc rfl rfl rfl (.move rfl) rfl rfl ?_
            refine XO.gc rfl rfl rfl (.eql rfl rfl) rfl rfl ?_
            refine XO.c (.pickT rfl rfl) rfl rfl ?_
            refine XO.c (.move rfl) rfl rfl ?_
            refine XO.splitD (x := 61) rfl (fun g13_15 => ?_) (fun g13_15 => ?_)
            · refine XO.gc rfl rfl rfl (.move rfl) rfl rfl ?_
              refine XO.gc rfl rfl rfl (.move rfl) rfl rfl ?_
              refine XO.gc rfl rfl rfl (.move rfl) rfl rfl ?_
              refine XO.gc rfl rfl rfl (.move rfl) rfl rfl ?_
              have hlen : (if verB l b = 0 then verE l b l.length else []).length < 1000000 := by
                have := verE_len l b l.length
                split
                · omega
                · simp
              refine XO.gcall rfl rfl rfl rfl rfl rfl rfl ?_
              refine EvF.mono (lList_ok (hA.ok hok) (b131.inS (hA.ok hok) (hA.inS hS)) s119_0 s135 hlen) ?_
              rintro _ _ ⟨rfl, hh⟩
              obtain rfl := hh.symm
              clear hh
              refine XO.c (.pickT rfl rfl) rfl rfl ?_
              refine XO.c (.move rfl) rfl rfl ?_
              refine XO.splitB (x := 68) rfl (fun g13_22 => ?_) (fun g13_22 => ?_)
              · refine XO.gcall rfl rfl rfl rfl rfl rfl rfl ?_
                refine EvF.mono (awake_ok  ) ?_
                rintro _ _ ⟨rfl, hh⟩
                obtain rfl := hh.symm
                clear hh
                refine XO.c (.pickT rfl rfl) rfl rfl ?_
                refine XO.c (.assign rfl) rfl rfl ?_
                refine XO.nil (thenC.go ?_)
                refine XC.ret fun tf htf => ?_
                refine endF.one rfl rfl (htf 4 _ rfl) ?_
                exact ⟨congrArg Value.bool (by first | rfl | exact absurd rfl g13_5 | exact absurd (by rw [if_pos c9]) g13_10 | exact absurd (by rw [if_neg c9]) g13_10 | exact absurd rfl g13_15 | exact absurd (nlist_fin1.symm.trans g13_22) (by decide) | exact absurd ((nlist_fin2 c11).symm.trans g13_22) (by decide)), hA.leftAf rfl⟩
              · refine XO.skip rfl rfl rfl rfl rfl ?_
                refine XO.c (.pickF rfl rfl) rfl rfl ?_
                refine XO.c (.assign rfl) rfl rfl ?_
                refine XO.nil (thenC.go ?_)
                refine XC.ret fun tf htf => ?_
                refine endF.one rfl rfl (htf 4 _ rfl) ?_
                exact ⟨congrArg Value.bool (by first | rfl | exact absurd rfl g13_5 | exact absurd (by rw [if_pos c9]) g13_10 | exact absurd (by rw [if_neg c9]) g13_10 | exact absurd rfl g13_15 | exact absurd (nlist_fin1.symm.trans g13_22) (by decide) | exact absurd ((nlist_fin2 c11).symm.trans g13_22) (by decide)), hA.leftAf rfl⟩
            · refine XO.skip rfl rfl rfl rfl rfl ?_
              refine XO.skip rfl rfl rfl rfl rfl ?_
              refine XO.skip rfl rfl rfl rfl rfl ?_
              refine XO.skip rfl rfl rfl rfl rfl ?_
              refine XO.skip rfl rfl rfl rfl rfl ?_
              refine XO.c (.pickF rfl rfl) rfl rfl ?_
              refine XO.c (.move rfl) rfl rfl ?_
              refine XO.skip rfl rfl rfl rfl rfl ?_
              refine XO.c (.pickF rfl rfl) rfl rfl ?_
              refine XO.c (.assign rfl) rfl rfl ?_
              refine XO.nil (thenC.go ?_)
              refine XC.ret fun tf htf => ?_
              refine endF.one rfl rfl (htf 4 _ rfl) ?_
              exact ⟨congrArg Value.bool (by first | rfl | exact absurd rfl g13_5 | exact absurd (by rw [if_pos c9]) g13_10 | exact absurd (by rw [if_neg c9]) g13_10 | exact absurd rfl g13_15 | exact absurd (nlist_fin1.symm.trans g13_22) (by decide) | exact absurd ((nlist_fin2 c11).symm.trans g13_22) (by decide)), hA.leftAf rfl⟩
          · refine XO.skip rfl rfl rfl rfl rfl ?_
            refine XO.skip rfl rfl rfl rfl rfl ?_
            refine XO.skip rfl rfl rfl rfl rfl ?_
            refine XO.c (.pickF rfl rfl) rfl rfl ?_
            refine XO.c (.move rfl) rfl rfl ?_
            refine XO.skip rfl rfl rfl rfl rfl ?_
            refine XO.skip rfl rfl rfl rfl rfl ?_
            refine XO.skip rfl rfl rfl rfl rfl ?_
            refine XO.skip rfl rfl rfl rfl rfl ?_
            refine XO.skip rfl rfl rfl rfl rfl ?_
            refine XO.c (.pickF rfl rfl) rfl rfl ?_
            refine XO.c (.move rfl) rfl rfl ?_
            refine XO.skip rfl rfl rfl rfl rfl ?_
            refine XO.c (.pickF rfl rfl) rfl rfl ?_
            refine XO.c (.assign rfl) rfl rfl ?_
            refine XO.nil (thenC.go ?_)
            refine XC.ret fun tf htf => ?_
            refine endF.one rfl rfl (htf 4 _ rfl) ?_
            exact ⟨congrArg Value.bool (by first | rfl | exact absurd rfl g13_5 | exact absurd (by rw [if_pos c9]) g13_10 | exact absurd (by rw [if_neg c9]) g13_10 | exact absurd rfl g13_15 | exact absurd (nlist_fin1.symm.trans g13_22) (by decide) | exact absurd ((nlist_fin2 c11).symm.trans g13_22) (by decide)), hA.leftAf rfl⟩
        · refine XO.skip rfl rfl rfl rfl rfl ?_
          refine XO.skip rfl rfl rfl rfl rfl ?_
          refine XO.skip rfl rfl rfl rfl rfl ?_
          refine XO.c (.pickF rfl rfl) rfl rfl ?_
          refine XO.c (.move rfl) rfl rfl ?_
          refine XO.skip rfl rfl rfl rfl rfl ?_
          refine XO.skip rfl rfl rfl rfl rfl ?_
          refine XO.skip rfl rfl rfl rfl rfl ?_
          refine XO.c (.pickF rfl rfl) rfl rfl ?_
          refine XO.c (.move rfl) rfl rfl ?_
          refine XO.skip rfl rfl rfl rfl rfl ?_
          refine XO.skip rfl rfl rfl rfl rfl ?_
          refine XO.skip rfl rfl rfl rfl rfl ?_
          refine XO.skip rfl rfl rfl rfl rfl ?_
          refine XO.skip rfl rfl rfl rfl rfl ?_
          refine XO.c (.pickF rfl rfl) rfl rfl ?_
          refine XO.c (.move rfl) rfl rfl ?_
          refine XO.skip rfl rfl rfl rfl rfl ?_
          refine XO.c (.pickF rfl rfl) rfl rfl ?_
          refine XO.c (.assign rfl) rfl rfl ?_
          refine XO.nil (thenC.go ?_)
          refine XC.ret fun tf htf => ?_
          refine endF.one rfl rfl (htf 4 _ rfl) ?_
          exact ⟨congrArg Value.bool (by first | rfl | exact absurd rfl g13_5 | exact absurd (by rw [if_pos c9]) g13_10 | exact absurd (by rw [if_neg c9]) g13_10 | exact absurd rfl g13_15 | exact absurd (nlist_fin1.symm.trans g13_22) (by decide) | exact absurd ((nlist_fin2 c11).symm.trans g13_22) (by decide)), hA.leftAf rfl⟩
      · refine XC.skip (thenC.go ?_)
        refine XC.seq ?_
        refine XC.text ?_
        refine XO.c (.move rfl) rfl rfl ?_
        refine XO.call rfl rfl rfl rfl ?_
        refine EvF.mono (lNights_ok (hA.ok hok) (b131.inS (hA.ok hok) (hA.inS hS)) ha0 (by omega) hc) ?_
        rintro u144 h144 ⟨a144, s144⟩
        have ok145 := hA.ok hok
        have gg145 : Goes h131 (ownP p128 ++ S) h144 (ownP p128 ++ S) := a144.nx ok145
        replace hA := hA.trans a144
        replace ha0 := ha0.nx gg145
        replace b101 := b101.nx gg145
        replace s105 := s105.nx gg145
        replace b110 := b110.nx gg145
        replace s113 := s113.nx gg145
        replace s119_0 := s119_0.nx gg145
        replace s125 := s125.nx gg145
        replace b131 := b131.keep a144 ok145
        refine XO.call rfl rfl rfl rfl ?_
        refine EvF.mono (sNights_ok (hA.ok hok) (b131.inS (hA.ok hok) (hA.inS hS)) s144 hc) ?_
        rintro _ _ ⟨rfl, hh⟩
        obtain rfl := hh.symm
        clear hh
        refine XO.c (.move rfl) rfl rfl ?_
        refine XO.c (.eql rfl rfl) rfl rfl ?_
        refine XO.c (.move rfl) rfl rfl ?_
        refine XO.splitD (x := 51) rfl (fun g13_5 => ?_) (fun g13_5 => ?_)
        · obtain ⟨u147, e147, r147⟩ := (b110).ldV vt41
          obtain ⟨c148_0, c148_1, rfl, r148_0, r148_1⟩ := r147.st2 rfl rfl
          obtain rfl := r148_0.int
          obtain rfl := r148_1.int
          refine XO.gr rfl rfl rfl (.load rfl (e147)) rfl rfl ?_
          refine XO.gr rfl rfl rfl (.load rfl (b131.ldA vt41 rfl rfl)) rfl rfl ?_
          refine XO.gc rfl rfl rfl (.eqII (by kernel_rfl) rfl rfl) rfl rfl ?_
          refine XO.c (.pickT rfl rfl) rfl rfl ?_
          refine XO.c (.move rfl) rfl rfl ?_
          refine XO.splitD (x := 56) rfl (fun g13_10 => ?_) (fun g13_10 => ?_)
          · refine XO.gc rfl rfl rfl (.move rfl) rfl rfl ?_
            refine XO.gc rfl rfl rfl (.move rfl) rfl rfl ?_
            refine XO.gc rfl rfl rfl (.eql rfl rfl) rfl rfl ?_
            refine XO.c (.pickT rfl rfl) rfl rfl ?_
            refine XO.c (.move rfl) rfl rfl ?_
            refine XO.splitD (x := 61) rfl (fun g13_15 => ?_) (fun g13_15 => ?_)
            · refine XO.gc rfl rfl rfl (.move rfl) rfl rfl ?_
              refine XO.gc rfl rfl rfl (.move rfl) rfl rfl ?_
              refine XO.gc rfl rfl rfl (.move rfl) rfl rfl ?_
              refine XO.gc rfl rfl rfl (.move rfl) rfl rfl ?_
              have hlen : (if verB l b = 0 then verE l b l.length else []).length < 1000000 := by
                have := verE_len l b l.length
                split
                · omega
                · simp
              refine XO.gcall rfl rfl rfl rfl rfl rfl rfl ?_
              refine EvF.mono (lList_ok (hA.ok hok) (b131.inS (hA.ok hok) (hA.inS hS)) s119_0 SlV.nil hlen) ?_
              rintro _ _ ⟨rfl, hh⟩
              obtain rfl := hh.symm
              clear hh
              refine XO.c (.pickT rfl rfl) rfl rfl ?_
              refine XO.c (.move rfl) rfl rfl ?_
              refine XO.splitB (x := 68) rfl (fun g13_22 => ?_) (fun g13_22 => ?_)
              · refine XO.gcall rfl rfl rfl rfl rfl rfl rfl ?_
                refine EvF.mono (awake_ok  ) ?_
                rintro _ _ ⟨rfl, hh⟩
                obtain rfl := hh.symm
                clear hh
                refine XO.c (.pickT rfl rfl) rfl rfl ?_
                refine XO.c (.assign rfl) rfl rfl ?_
                refine XO.nil (thenC.go ?_)
                refine XC.ret fun tf htf => ?_
                refine endF.one rfl rfl (htf 4 _ rfl) ?_
                exact ⟨congrArg Value.bool (by first | rfl | exact absurd rfl g13_5 | exact absurd (by rw [if_pos c9]) g13_10 | exact absurd (by rw [if_neg c9]) g13_10 | exact absurd rfl g13_15 | exact absurd (nlist_fin1.symm.trans g13_22) (by decide) | exact absurd ((nlist_fin2 c11).symm.trans g13_22) (by decide)), hA.leftAf rfl⟩
              · refine XO.skip rfl rfl rfl rfl rfl ?_
                refine XO.c (.pickF rfl rfl) rfl rfl ?_
                refine XO.c (.assign rfl) rfl rfl ?_
                refine XO.nil (thenC.go ?_)
                refine XC.ret fun tf htf => ?_
                refine endF.one rfl rfl (htf 4 _ rfl) ?_
                exact ⟨congrArg Value.bool (by first | rfl | exact absurd rfl g13_5 | exact absurd (by rw [if_pos c9]) g13_10 | exact absurd (by rw [if_neg c9]) g13_10 | exact absurd rfl g13_15 | exact absurd (nlist_fin1.symm.trans g13_22) (by decide) | exact absurd ((nlist_fin2 c11).symm.trans g13_22) (by decide)), hA.leftAf rfl⟩
            · refine XO.skip rfl rfl rfl rfl rfl ?_
              refine XO.skip rfl rfl rfl rfl rfl ?_
              refine XO.skip rfl rfl rfl rfl rfl ?_
              refine XO.skip rfl rfl rfl rfl rfl ?_
              refine XO.skip rfl rfl rfl rfl rfl ?_
              refine XO.c (.pickF rfl rfl) rfl rfl ?_
              refine XO.c (.move rfl) rfl rfl ?_
              refine XO.skip rfl rfl rfl rfl rfl ?_
              refine XO.c (.pickF rfl rfl) rfl rfl ?_
              refine XO.c (.assign rfl) rfl rfl ?_
              refine XO.nil (thenC.go ?_)
              refine XC.ret fun tf htf => ?_
              refine endF.one rfl rfl (htf 4 _ rfl) ?_
              exact ⟨congrArg Value.bool (by first | rfl | exact absurd rfl g13_5 | exact absurd (by rw [if_pos c9]) g13_10 | exact absurd (by rw [if_neg c9]) g13_10 | exact absurd rfl g13_15 | exact absurd (nlist_fin1.symm.trans g13_22) (by decide) | exact absurd ((nlist_fin2 c11).symm.trans g13_22) (by decide)), hA.leftAf rfl⟩
          · refine XO.skip rfl rfl rfl rfl rfl ?_
            refine XO.skip rfl rfl rfl rfl rfl ?_
            refine XO.skip rfl rfl rfl rfl rfl ?_
            refine XO.c (.pickF rfl rfl) rfl rfl ?_
            refine XO.c (.move rfl) rfl rfl ?_
            refine XO.skip rfl rfl rfl rfl rfl ?_
            refine XO.skip rfl rfl rfl rfl rfl ?_
            refine XO.skip rfl rfl rfl rfl rfl ?_
            refine XO.skip rfl rfl rfl rfl rfl ?_
            refine XO.skip rfl rfl rfl rfl rfl ?_
            refine XO.c (.pickF rfl rfl) rfl rfl ?_
            refine XO.c (.move rfl) rfl rfl ?_
            refine XO.skip rfl rfl rfl rfl rfl ?_
            refine XO.c (.pickF rfl rfl) rfl rfl ?_
            refine XO.c (.assign rfl) rfl rfl ?_
            refine XO.nil (thenC.go ?_)
            refine XC.ret fun tf htf => ?_
            refine endF.one rfl rfl (htf 4 _ rfl) ?_
            exact ⟨congrArg Value.bool (by first | rfl | exact absurd rfl g13_5 | exact absurd (by rw [if_pos c9]) g13_10 | exact absurd (by rw [if_neg c9]) g13_10 | exact absurd rfl g13_15 | exact absurd (nlist_fin1.symm.trans g13_22) (by decide) | exact absurd ((nlist_fin2 c11).symm.trans g13_22) (by decide)), hA.leftAf rfl⟩
        · refine XO.skip rfl rfl rfl rfl rfl ?_
          refine XO.skip rfl rfl rfl rfl rfl ?_
          refine XO.skip rfl rfl rfl rfl rfl ?_
          refine XO.c (.pickF rfl rfl) rfl rfl ?_
          refine XO.c (.move rfl) rfl rfl ?_
          refine XO.skip rfl rfl rfl rfl rfl ?_
          refine XO.skip rfl rfl rfl rfl rfl ?_
          refine XO.skip rfl rfl rfl rfl rfl ?_
          refine XO.c (.pickF rfl rfl) rfl rfl ?_
          refine XO.c (.move rfl) rfl rfl ?_
          refine XO.skip rfl rfl rfl rfl rfl ?_
          refine XO.skip rfl rfl rfl rfl rfl ?_
          refine XO.skip rfl rfl rfl rfl rfl ?_
          refine XO.skip rfl rfl rfl rfl rfl ?_
          refine XO.skip rfl rfl rfl rfl rfl ?_
          refine XO.c (.pickF rfl rfl) rfl rfl ?_
          refine XO.c (.move rfl) rfl rfl ?_
          refine XO.skip rfl rfl rfl rfl rfl ?_
          refine XO.c (.pickF rfl rfl) rfl rfl ?_
          refine XO.c (.assign rfl) rfl rfl ?_
          refine XO.nil (thenC.go ?_)
          refine XC.ret fun tf htf => ?_
          refine endF.one rfl rfl (htf 4 _ rfl) ?_
          exact ⟨congrArg Value.bool (by first | rfl | exact absurd rfl g13_5 | exact absurd (by rw [if_pos c9]) g13_10 | exact absurd (by rw [if_neg c9]) g13_10 | exact absurd rfl g13_15 | exact absurd (nlist_fin1.symm.trans g13_22) (by decide) | exact absurd ((nlist_fin2 c11).symm.trans g13_22) (by decide)), hA.leftAf rfl⟩
    · refine XC.skip (thenC.go ?_)
      refine XC.seq ?_
      refine XC.seq ?_
      refine XC.text ?_
      refine XO.c (.move rfl) rfl rfl ?_
      refine XO.c (.eql rfl rfl) rfl rfl ?_
      refine XO.nil (thenC.go ?_)
      refine XC.condD rfl (fun c11 => ?_) (fun c11 => ?_)
      · refine XC.text ?_
        refine XO.c (.move rfl) rfl rfl ?_
        obtain ⟨u151, e151, r151⟩ := (b101).ldV vt41
        obtain ⟨c152_0, c152_1, rfl, r152_0, r152_1⟩ := r151.st2 rfl rfl
        obtain rfl := r152_0.int
        obtain rfl := r152_1.int
        refine XO.r (.load rfl (e151)) rfl rfl ?_
        refine XO.call rfl rfl rfl rfl ?_
        refine EvF.mono (rVerify_ok (hA.ok hok) (b128.inS (hA.ok hok) (hA.inS hS)) ha0 (verB_ok (show verB l b = 0 from c11)).1) ?_
        rintro u153 h153 ⟨a153, s153⟩
        have ok154 := hA.ok hok
        have gg154 : Goes h128 (ownP p128 ++ S) h153 (ownP p128 ++ S) := a153.nx ok154
        replace hA := hA.trans a153
        replace ha0 := ha0.nx gg154
        replace b101 := b101.nx gg154
        replace s105 := s105.nx gg154
        replace b110 := b110.nx gg154
        replace s113 := s113.nx gg154
        replace s119_0 := s119_0.nx gg154
        replace s125 := s125.nx gg154
        replace b128 := b128.keep a153 ok154
        refine XO.c (.assign rfl) rfl rfl ?_
        refine XO.nil (thenC.go ?_)
        refine XC.seq ?_
        refine XC.text ?_
        refine XO.c (.move rfl) rfl rfl ?_
        refine XO.call rfl rfl rfl rfl ?_
        refine EvF.mono (lNights_ok (hA.ok hok) (b128.inS (hA.ok hok) (hA.inS hS)) ha0 (by omega) hc) ?_
        rintro u155 h155 ⟨a155, s155⟩
        have ok156 := hA.ok hok
        have gg156 : Goes h153 (ownP p128 ++ S) h155 (ownP p128 ++ S) := a155.nx ok156
        replace hA := hA.trans a155
        replace ha0 := ha0.nx gg156
        replace b101 := b101.nx gg156
        replace s105 := s105.nx gg156
        replace b110 := b110.nx gg156
        replace s113 := s113.nx gg156
        replace s119_0 := s119_0.nx gg156
        replace s125 := s125.nx gg156
        replace s153 := s153.nx gg156
        replace b128 := b128.keep a155 ok156
        refine XO.call rfl rfl rfl rfl ?_
        refine EvF.mono (sNights_ok (hA.ok hok) (b128.inS (hA.ok hok) (hA.inS hS)) s155 hc) ?_
        rintro _ _ ⟨rfl, hh⟩
        obtain rfl := hh.symm
        clear hh
        refine XO.c (.move rfl) rfl rfl ?_
        refine XO.c (.eql rfl rfl) rfl rfl ?_
        refine XO.c (.move rfl) rfl rfl ?_
        refine XO.splitD (x := 51) rfl (fun g13_5 => ?_) (fun g13_5 => ?_)
        · obtain ⟨u158, e158, r158⟩ := (b110).ldV vt41
          obtain ⟨c159_0, c159_1, rfl, r159_0, r159_1⟩ := r158.st2 rfl rfl
          obtain rfl := r159_0.int
          obtain rfl := r159_1.int
          refine XO.gr rfl rfl rfl (.load rfl (e158)) rfl rfl ?_
          refine XO.gr rfl rfl rfl (.load rfl (b128.ldA vt41 rfl rfl)) rfl rfl ?_
          refine XO.gc rfl rfl rfl (.eqII (by kernel_rfl) rfl rfl) rfl rfl ?_
          refine XO.c (.pickT rfl rfl) rfl rfl ?_
          refine XO.c (.move rfl) rfl rfl ?_
          refine XO.splitD (x := 56) rfl (fun g13_10 => ?_) (fun g13_10 => ?_)
          · refine XO.gc rfl rfl rfl (.move rfl) rfl rfl ?_
            refine XO.gc rfl rfl rfl (.move rfl) rfl rfl ?_
            refine XO.gc rfl rfl rfl (.eql rfl rfl) rfl rfl ?_
            refine XO.c (.pickT rfl rfl) rfl rfl ?_
            refine XO.c (.move rfl) rfl rfl ?_
            refine XO.splitD (x := 61) rfl (fun g13_15 => ?_) (fun g13_15 => ?_)
            · refine XO.gc rfl rfl rfl (.move rfl) rfl rfl ?_
              refine XO.gc rfl rfl rfl (.move rfl) rfl rfl ?_
              refine XO.gc rfl rfl rfl (.move rfl) rfl rfl ?_
              refine XO.gc rfl rfl rfl (.move rfl) rfl rfl ?_
              have hlen : (if verB l b = 0 then verE l b l.length else []).length < 1000000 := by
                have := verE_len l b l.length
                split
                · omega
                · simp
              refine XO.gcall rfl rfl rfl rfl rfl rfl rfl ?_
              refine EvF.mono (lList_ok (hA.ok hok) (b128.inS (hA.ok hok) (hA.inS hS)) s119_0 s153 hlen) ?_
              rintro _ _ ⟨rfl, hh⟩
              obtain rfl := hh.symm
              clear hh
              refine XO.c (.pickT rfl rfl) rfl rfl ?_
              refine XO.c (.move rfl) rfl rfl ?_
              refine XO.splitB (x := 68) rfl (fun g13_22 => ?_) (fun g13_22 => ?_)
              · refine XO.gcall rfl rfl rfl rfl rfl rfl rfl ?_
                refine EvF.mono (awake_ok  ) ?_
                rintro _ _ ⟨rfl, hh⟩
                obtain rfl := hh.symm
                clear hh
                refine XO.c (.pickT rfl rfl) rfl rfl ?_
                refine XO.c (.assign rfl) rfl rfl ?_
                refine XO.nil (thenC.go ?_)
                refine XC.ret fun tf htf => ?_
                refine endF.one rfl rfl (htf 4 _ rfl) ?_
                exact ⟨congrArg Value.bool (by first | rfl | exact absurd rfl g13_5 | exact absurd (by rw [if_pos c9]) g13_10 | exact absurd (by rw [if_neg c9]) g13_10 | exact absurd rfl g13_15 | exact absurd (nlist_fin1.symm.trans g13_22) (by decide) | exact absurd ((nlist_fin2 c11).symm.trans g13_22) (by decide)), hA.leftAf rfl⟩
              · refine XO.skip rfl rfl rfl rfl rfl ?_
                refine XO.c (.pickF rfl rfl) rfl rfl ?_
                refine XO.c (.assign rfl) rfl rfl ?_
                refine XO.nil (thenC.go ?_)
                refine XC.ret fun tf htf => ?_
                refine endF.one rfl rfl (htf 4 _ rfl) ?_
                exact ⟨congrArg Value.bool (by first | rfl | exact absurd rfl g13_5 | exact absurd (by rw [if_pos c9]) g13_10 | exact absurd (by rw [if_neg c9]) g13_10 | exact absurd rfl g13_15 | exact absurd (nlist_fin1.symm.trans g13_22) (by decide) | exact absurd ((nlist_fin2 c11).symm.trans g13_22) (by decide)), hA.leftAf rfl⟩
            · refine XO.skip rfl rfl rfl rfl rfl ?_
              refine XO.skip rfl rfl rfl rfl rfl ?_
              refine XO.skip rfl rfl rfl rfl rfl ?_
              refine XO.skip rfl rfl rfl rfl rfl ?_
              refine XO.skip rfl rfl rfl rfl rfl ?_
              refine XO.c (.pickF rfl rfl) rfl rfl ?_
              refine XO.c (.move rfl) rfl rfl ?_
              refine XO.skip rfl rfl rfl rfl rfl ?_
              refine XO.c (.pickF rfl rfl) rfl rfl ?_
              refine XO.c (.assign rfl) rfl rfl ?_
              refine XO.nil (thenC.go ?_)
              refine XC.ret fun tf htf => ?_
              refine endF.one rfl rfl (htf 4 _ rfl) ?_
              exact ⟨congrArg Value.bool (by first | rfl | exact absurd rfl g13_5 | exact absurd (by rw [if_pos c9]) g13_10 | exact absurd (by rw [if_neg c9]) g13_10 | exact absurd rfl g13_15 | exact absurd (nlist_fin1.symm.trans g13_22) (by decide) | exact absurd ((nlist_fin2 c11).symm.trans g13_22) (by decide)), hA.leftAf rfl⟩
          · refine XO.skip rfl rfl rfl rfl rfl ?_
            refine XO.skip rfl rfl rfl rfl rfl ?_
            refine XO.skip rfl rfl rfl rfl rfl ?_
            refine XO.c (.pickF rfl rfl) rfl rfl ?_
            refine XO.c (.move rfl) rfl rfl ?_
            refine XO.skip rfl rfl rfl rfl rfl ?_
            refine XO.skip rfl rfl rfl rfl rfl ?_
            refine XO.skip rfl rfl rfl rfl rfl ?_
            refine XO.skip rfl rfl rfl rfl rfl ?_
            refine XO.skip rfl rfl rfl rfl rfl ?_
            refine XO.c (.pickF rfl rfl) rfl rfl ?_
            refine XO.c (.move rfl) rfl rfl ?_
            refine XO.skip rfl rfl rfl rfl rfl ?_
            refine XO.c (.pickF rfl rfl) rfl rfl ?_
            refine XO.c (.assign rfl) rfl rfl ?_
            refine XO.nil (thenC.go ?_)
            refine XC.ret fun tf htf => ?_
            refine endF.one rfl rfl (htf 4 _ rfl) ?_
            exact ⟨congrArg Value.bool (by first | rfl | exact absurd rfl g13_5 | exact absurd (by rw [if_pos c9]) g13_10 | exact absurd (by rw [if_neg c9]) g13_10 | exact absurd rfl g13_15 | exact absurd (nlist_fin1.symm.trans g13_22) (by decide) | exact absurd ((nlist_fin2 c11).symm.trans g13_22) (by decide)), hA.leftAf rfl⟩
        · refine XO.skip rfl rfl rfl rfl rfl ?_
          refine XO.skip rfl rfl rfl rfl rfl ?_
          refine XO.skip rfl rfl rfl rfl rfl ?_
          refine XO.c (.pickF rfl rfl) rfl rfl ?_
          refine XO.c (.move rfl) rfl rfl ?_
          refine XO.skip rfl rfl rfl rfl rfl ?_
          refine XO.skip rfl rfl rfl rfl rfl ?_
          refine XO.skip rfl rfl rfl rfl rfl ?_
          refine XO.c (.pickF rfl rfl) rfl rfl ?_
          refine XO.c (.move rfl) rfl rfl ?_
          refine XO.skip rfl rfl rfl rfl rfl ?_
          refine XO.skip rfl rfl rfl rfl rfl ?_
          refine XO.skip rfl rfl rfl rfl rfl ?_
          refine XO.skip rfl rfl rfl rfl rfl ?_
          refine XO.skip rfl rfl rfl rfl rfl ?_
          refine XO.c (.pickF rfl rfl) rfl rfl ?_
          refine XO.c (.move rfl) rfl rfl ?_
          refine XO.skip rfl rfl rfl rfl rfl ?_
          refine XO.c (.pickF rfl rfl) rfl rfl ?_
          refine XO.c (.assign rfl) rfl rfl ?_
          refine XO.nil (thenC.go ?_)
          refine XC.ret fun tf htf => ?_
          refine endF.one rfl rfl (htf 4 _ rfl) ?_
          exact ⟨congrArg Value.bool (by first | rfl | exact absurd rfl g13_5 | exact absurd (by rw [if_pos c9]) g13_10 | exact absurd (by rw [if_neg c9]) g13_10 | exact absurd rfl g13_15 | exact absurd (nlist_fin1.symm.trans g13_22) (by decide) | exact absurd ((nlist_fin2 c11).symm.trans g13_22) (by decide)), hA.leftAf rfl⟩
      · refine XC.skip (thenC.go ?_)
        refine XC.seq ?_
        refine XC.text ?_
        refine XO.c (.move rfl) rfl rfl ?_
        refine XO.call rfl rfl rfl rfl ?_
        refine EvF.mono (lNights_ok (hA.ok hok) (b128.inS (hA.ok hok) (hA.inS hS)) ha0 (by omega) hc) ?_
        rintro u162 h162 ⟨a162, s162⟩
        have ok163 := hA.ok hok
        have gg163 : Goes h128 (ownP p128 ++ S) h162 (ownP p128 ++ S) := a162.nx ok163
        replace hA := hA.trans a162
        replace ha0 := ha0.nx gg163
        replace b101 := b101.nx gg163
        replace s105 := s105.nx gg163
        replace b110 := b110.nx gg163
        replace s113 := s113.nx gg163
        replace s119_0 := s119_0.nx gg163
        replace s125 := s125.nx gg163
        replace b128 := b128.keep a162 ok163
        refine XO.call rfl rfl rfl rfl ?_
        refine EvF.mono (sNights_ok (hA.ok hok) (b128.inS (hA.ok hok) (hA.inS hS)) s162 hc) ?_
        rintro _ _ ⟨rfl, hh⟩
        obtain rfl := hh.symm
        clear hh
        refine XO.c (.move rfl) rfl rfl ?_
        refine XO.c (.eql rfl rfl) rfl rfl ?_
        refine XO.c (.move rfl) rfl rfl ?_
        refine XO.splitD (x := 51) rfl (fun g13_5 => ?_) (fun g13_5 => ?_)
        · obtain ⟨u165, e165, r165⟩ := (b110).ldV vt41
          obtain ⟨c166_0, c166_1, rfl, r166_0, r166_1⟩ := r165.st2 rfl rfl
          obtain rfl := r166_0.int
          obtain rfl := r166_1.int
          refine XO.gr rfl rfl rfl (.load rfl (e165)) rfl rfl ?_
          refine XO.gr rfl rfl rfl (.load rfl (b128.ldA vt41 rfl rfl)) rfl rfl ?_
          refine XO.gc rfl rfl rfl (.eqII (by kernel_rfl) rfl rfl) rfl rfl ?_
          refine XO.c (.pickT rfl rfl) rfl rfl ?_
          refine XO.c (.move rfl) rfl rfl ?_
          refine XO.splitD (x := 56) rfl (fun g13_10 => ?_) (fun g13_10 => ?_)
          · refine XO.gc rfl rfl rfl (.move rfl) rfl rfl ?_
            refine XO.gc rfl rfl rfl (.move rfl) rfl rfl ?_
            refine XO.gc rfl rfl rfl (.eql rfl rfl) rfl rfl ?_
            refine XO.c (.pickT rfl rfl) rfl rfl ?_
            refine XO.c (.move rfl) rfl rfl ?_
            refine XO.splitD (x := 61) rfl (fun g13_15 => ?_) (fun g13_15 => ?_)
            · refine XO.gc rfl rfl rfl (.move rfl) rfl rfl ?_
              refine XO.gc rfl rfl rfl (.move rfl) rfl rfl ?_
              refine XO.gc rfl rfl rfl (.move rfl) rfl rfl ?_
              refine XO.gc rfl rfl rfl (.move rfl) rfl rfl ?_
              have hlen : (if verB l b = 0 then verE l b l.length else []).length < 1000000 := by
                have := verE_len l b l.length
                split
                · omega
                · simp
              refine XO.gcall rfl rfl rfl rfl rfl rfl rfl ?_
              refine EvF.mono (lList_ok (hA.ok hok) (b128.inS (hA.ok hok) (hA.inS hS)) s119_0 SlV.nil hlen) ?_
              rintro _ _ ⟨rfl, hh⟩
              obtain rfl := hh.symm
              clear hh
              refine XO.c (.pickT rfl rfl) rfl rfl ?_
              refine XO.c (.move rfl) rfl rfl ?_
              refine XO.splitB (x := 68) rfl (fun g13_22 => ?_) (fun g13_22 => ?_)
              · refine XO.gcall rfl rfl rfl rfl rfl rfl rfl ?_
                refine EvF.mono (awake_ok  ) ?_
                rintro _ _ ⟨rfl, hh⟩
                obtain rfl := hh.symm
                clear hh
                refine XO.c (.pickT rfl rfl) rfl rfl ?_
                refine XO.c (.assign rfl) rfl rfl ?_
                refine XO.nil (thenC.go ?_)
                refine XC.ret fun tf htf => ?_
                refine endF.one rfl rfl (htf 4 _ rfl) ?_
                exact ⟨congrArg Value.bool (by first | rfl | exact absurd rfl g13_5 | exact absurd (by rw [if_pos c9]) g13_10 | exact absurd (by rw [if_neg c9]) g13_10 | exact absurd rfl g13_15 | exact absurd (nlist_fin1.symm.trans g13_22) (by decide) | exact absurd ((nlist_fin2 c11).symm.trans g13_22) (by decide)), hA.leftAf rfl⟩
              · refine XO.skip rfl rfl rfl rfl rfl ?_
                refine XO.c (.pickF rfl rfl) rfl rfl ?_
                refine XO.c (.assign rfl) rfl rfl ?_
                refine XO.nil (thenC.go ?_)
                refine XC.ret fun tf htf => ?_
                refine endF.one rfl rfl (htf 4 _ rfl) ?_
                exact ⟨congrArg Value.bool (by first | rfl | exact absurd rfl g13_5 | exact absurd (by rw [if_pos c9]) g13_10 | exact absurd (by rw [if_neg c9]) g13_10 | exact absurd rfl g13_15 | exact absurd (nlist_fin1.symm.trans g13_22) (by decide) | exact absurd ((nlist_fin2 c11).symm.trans g13_22) (by decide)), hA.leftAf rfl⟩
            · refine XO.skip rfl rfl rfl rfl rfl ?_
              refine XO.skip rfl rfl rfl rfl rfl ?_
              refine XO.skip rfl rfl rfl rfl rfl ?_
              refine XO.skip rfl rfl rfl rfl rfl ?_
              refine XO.skip rfl rfl rfl rfl rfl ?_
              refine XO.c (.pickF rfl rfl) rfl rfl ?_
              refine XO.c (.move rfl) rfl rfl ?_
              refine XO.skip rfl rfl rfl rfl rfl ?_
              refine XO.c (.pickF rfl rfl) rfl rfl ?_
              refine XO.c (.assign rfl) rfl rfl ?_
              refine XO.nil (thenC.go ?_)
              refine XC.ret fun tf htf => ?_
              refine endF.one rfl rfl (htf 4 _ rfl) ?_
              exact ⟨congrArg Value.bool (by first | rfl | exact absurd rfl g13_5 | exact absurd (by rw [if_pos c9]) g13_10 | exact absurd (by rw [if_neg c9]) g13_10 | exact absurd rfl g13_15 | exact absurd (nlist_fin1.symm.trans g13_22) (by decide) | exact absurd ((nlist_fin2 c11).symm.trans g13_22) (by decide)), hA.leftAf rfl⟩
          · refine XO.skip rfl rfl rfl rfl rfl ?_
            refine XO.skip rfl rfl rfl rfl rfl ?_
            refine XO.skip rfl rfl rfl rfl rfl ?_
            refine XO.c (.pickF rfl rfl) rfl rfl ?_
            refine XO.c (.move rfl) rfl rfl ?_
            refine XO.skip rfl rfl rfl rfl rfl ?_
            refine XO.skip rfl rfl rfl rfl rfl ?_
            refine XO.skip rfl rfl rfl rfl rfl ?_
            refine XO.skip rfl rfl rfl rfl rfl ?_
            refine XO.skip rfl rfl rfl rfl rfl ?_
            refine XO.c (.pickF rfl rfl) rfl rfl ?_
            refine XO.c (.move rfl) rfl rfl ?_
            refine XO.skip rfl rfl rfl rfl rfl ?_
            refine XO.c (.pickF rfl rfl) rfl rfl ?_
            refine XO.c (.assign rfl) rfl rfl ?_
            refine XO.nil (thenC.go ?_)
            refine XC.ret fun tf htf => ?_
            refine endF.one rfl rfl (htf 4 _ rfl) ?_
            exact ⟨congrArg Value.bool (by first | rfl | exact absurd rfl g13_5 | exact absurd (by rw [if_pos c9]) g13_10 | exact absurd (by rw [if_neg c9]) g13_10 | exact absurd rfl g13_15 | exact absurd (nlist_fin1.symm.trans g13_22) (by decide) | exact absurd ((nlist_fin2 c11).symm.trans g13_22) (by decide)), hA.leftAf rfl⟩
        · refine XO.skip rfl rfl rfl rfl rfl ?_
          refine XO.skip rfl rfl rfl rfl rfl ?_
          refine XO.skip rfl rfl rfl rfl rfl ?_
          refine XO.c (.pickF rfl rfl) rfl rfl ?_
          refine XO.c (.move rfl) rfl rfl ?_
          refine XO.skip rfl rfl rfl rfl rfl ?_
          refine XO.skip rfl rfl rfl rfl rfl ?_
          refine XO.skip rfl rfl rfl rfl rfl ?_
          refine XO.c (.pickF rfl rfl) rfl rfl ?_
          refine XO.c (.move rfl) rfl rfl ?_
          refine XO.skip rfl rfl rfl rfl rfl ?_
          refine XO.skip rfl rfl rfl rfl rfl ?_
          refine XO.skip rfl rfl rfl rfl rfl ?_
          refine XO.skip rfl rfl rfl rfl rfl ?_
          refine XO.skip rfl rfl rfl rfl rfl ?_
          refine XO.c (.pickF rfl rfl) rfl rfl ?_
          refine XO.c (.move rfl) rfl rfl ?_
          refine XO.skip rfl rfl rfl rfl rfl ?_
          refine XO.c (.pickF rfl rfl) rfl rfl ?_
          refine XO.c (.assign rfl) rfl rfl ?_
          refine XO.nil (thenC.go ?_)
          refine XC.ret fun tf htf => ?_
          refine endF.one rfl rfl (htf 4 _ rfl) ?_
          exact ⟨congrArg Value.bool (by first | rfl | exact absurd rfl g13_5 | exact absurd (by rw [if_pos c9]) g13_10 | exact absurd (by rw [if_neg c9]) g13_10 | exact absurd rfl g13_15 | exact absurd (nlist_fin1.symm.trans g13_22) (by decide) | exact absurd ((nlist_fin2 c11).symm.trans g13_22) (by decide)), hA.leftAf rfl⟩
end Go.Proofs
