/- Contracts of functions of the program, over the evaluator: what each answers. Conditions: those in each statement. -/
import Derived.Test.YtednnfllcafliaaGreatDoorP4
set_option linter.all false
namespace Go.Proofs
open Go.Fs
set_option linter.unusedVariables false
theorem vt172 : ValT Tryz.prog 172 (.pair (.sl (.int .i64)) (.sl (.int .i64))) := valT_of (by kernel_rfl)
theorem el39 : ElT Tryz.prog 39 88 (.pair (.sl (.int .i64)) (.sl (.int .i64))) := elT_of (by kernel_rfl)
theorem el45 : ElT Tryz.prog 45 172 (.pair (.sl (.int .i64)) (.sl (.int .i64))) := elT_of (by kernel_rfl)
/-! ## Nights -/
def nightE (c : List Int × List Int) : Int := firstE [whenE (decide ((c.1.length : Int) = 0)) 12, whenE (decide ((96 : Int) < c.1.length)) 5, whenE (decide ((c.2.length : Int) ≠ c.1.length)) 2, heightsE c.1, heightsE c.2]
theorem night_two {c : List Int × List Int} : nightE c = firstE ([whenE (decide ((c.1.length : Int) = 0)) 12, whenE (decide ((96 : Int) < c.1.length)) 5, whenE (decide ((c.2.length : Int) ≠ c.1.length)) 2] ++ [heightsE c.1, heightsE c.2]) := rfl
def nightsE (l : List (List Int × List Int)) : Int := if (l.length : Int) = 0 then 12 else if (64 : Int) < l.length then 5 else firstE (l.map nightE)
theorem sNightC_ok {h : Heap} {S : List Nat} {v0 : Value} {c : (List Int) × (List Int)} (hok : HOk h) (hS : ∀ b ∈ S, b < h.next) (ha0 : RepV h S (.pair (.sl (.int .i64)) (.sl (.int .i64))) v0 c) (hl1 : c.1.length < 100000) (hl2 : c.2.length < 100000) : EvF Tryz.prog OA 108 [v0] h fun r h' => r = .int .i64 (nightE c) ∧ h' = h := by
  refine XF.enter Tryz.func108 rfl rfl rfl ?_
  have hok : HOk (entry h) := hok
  have hA := After.refl (entry h)
  replace ha0 := ha0.entry
  show XC Tryz.prog OA none _ _ [] [(0, v0)] (entry h) _
  refine XC.seq ?_
  refine XC.text ?_
  refine XO.boxR rfl ha0 (hA.ok hok) (hA.inS hS) rfl rfl ?_
  intro p101 h101 b101 a101
  have ok102 := hA.ok hok
  have gg102 : Goes (entry h) S h101 S := a101.nx ok102
  replace hA := hA.trans a101
  replace ha0 := ha0.nx gg102
  refine XO.c (.assign rfl) rfl rfl ?_
  refine XO.nil (thenC.go ?_)
  refine XC.seq ?_
  refine XC.seq ?_
  refine XC.drawn ?_
  have hkr103 := hA.ok hok
  have hSr103 := (hA.inS hS)
  refine XD.c (b := 0) (.fieldAddr rfl ((b101).fa (f := 0) (k := 0) (by kernel_rfl))) rfl rfl rfl ?_
  obtain ⟨u104, e104, s104⟩ := ((b101).base.fst').ldSl vt22
  refine XD.ld (b := 1) (After.refl _) SegsOk.nil hkr103 rfl (e104) rfl rfl rfl rfl ?_
  refine XD.a (b := 3) rfl (.len rfl (s104.len el22)) rfl rfl rfl rfl ?_
  refine XD.c (b := 7) (.eql rfl rfl) rfl rfl rfl ?_
  refine XD.callV (bb := 15) (After.refl _) (SegsOk.cons ((After.refl _)).next (SegsOk.cons ((After.refl _)).next SegsOk.nil)) rfl rfl rfl rfl rfl rfl ?_
  intro M105 aM105 oM105
  refine EvF.mono (sWhen_ok (aM105.ok hkr103) (aM105.inS hSr103)  ) ?_
  rintro _ _ ⟨rfl, hh⟩
  refine ⟨hh, ?_⟩
  clear hh
  refine XD.c (b := 0) (.fieldAddr rfl ((b101).fa (f := 0) (k := 0) (by kernel_rfl))) rfl rfl rfl ?_
  obtain ⟨u106, e106, s106⟩ := ((b101).base.fst').ldSl vt22
  refine XD.ld (b := 32) (After.refl _) (SegsOk.cons ((After.refl _)).next (SegsOk.cons ((After.refl _)).next (SegsOk.cons ((After.refl _)).next SegsOk.nil))) hkr103 rfl (e106) rfl rfl rfl rfl ?_
  refine XD.a (b := 96) rfl (.len rfl (s106.len el22)) rfl rfl rfl rfl ?_
  refine XD.c (b := 224) (.gtr rfl rfl) rfl rfl rfl ?_
  refine XD.callV (bb := 511) (After.refl _) (SegsOk.cons ((After.refl _)).next (SegsOk.cons ((After.refl _)).next (SegsOk.cons ((After.refl _)).next (SegsOk.cons ((After.refl _)).next (SegsOk.cons ((After.refl _)).next SegsOk.nil))))) rfl rfl rfl rfl rfl rfl ?_
  intro M107 aM107 oM107
  refine EvF.mono (sWhen_ok (aM107.ok hkr103) (aM107.inS hSr103)  ) ?_
  rintro _ _ ⟨rfl, hh⟩
  refine ⟨hh, ?_⟩
  clear hh
  refine XD.c (b := 0) (.fieldAddr rfl ((b101).fa (f := 1) (k := 1) (by kernel_rfl))) rfl rfl rfl ?_
  obtain ⟨u108, e108, s108⟩ := (((b101).base.snd' (m := 1) rfl (b101).isP)).ldSl vt22
  refine XD.ld (b := 1024) (After.refl _) (SegsOk.cons ((After.refl _)).next (SegsOk.cons ((After.refl _)).next (SegsOk.cons ((After.refl _)).next (SegsOk.cons ((After.refl _)).next (SegsOk.cons ((After.refl _)).next (SegsOk.cons ((After.refl _)).next SegsOk.nil)))))) hkr103 rfl (e108) rfl rfl rfl rfl ?_
  refine XD.a (b := 3072) rfl (.len rfl (s108.len el22)) rfl rfl rfl rfl ?_
  refine XD.c (b := 0) (.fieldAddr rfl ((b101).fa (f := 0) (k := 0) (by kernel_rfl))) rfl rfl rfl ?_
  obtain ⟨u109, e109, s109⟩ := ((b101).base.fst').ldSl vt22
  refine XD.ld (b := 8192) (After.refl _) (SegsOk.cons ((After.refl _)).next (SegsOk.cons ((After.refl _)).next (SegsOk.cons ((After.refl _)).next (SegsOk.cons ((After.refl _)).next (SegsOk.cons ((After.refl _)).next (SegsOk.cons ((After.refl _)).next (SegsOk.cons ((After.refl _)).next (SegsOk.cons ((After.refl _)).next SegsOk.nil)))))))) hkr103 rfl (e109) rfl rfl rfl rfl ?_
  refine XD.a (b := 24576) rfl (.len rfl (s109.len el22)) rfl rfl rfl rfl ?_
  refine XD.c (b := 64512) (.neq rfl rfl) rfl rfl rfl ?_
  refine XD.callV (bb := 131071) (After.refl _) (SegsOk.cons ((After.refl _)).next (SegsOk.cons ((After.refl _)).next (SegsOk.cons ((After.refl _)).next (SegsOk.cons ((After.refl _)).next (SegsOk.cons ((After.refl _)).next (SegsOk.cons ((After.refl _)).next (SegsOk.cons ((After.refl _)).next (SegsOk.cons ((After.refl _)).next (SegsOk.cons ((After.refl _)).next (SegsOk.cons ((After.refl _)).next SegsOk.nil)))))))))) rfl rfl rfl rfl rfl rfl ?_
  intro M110 aM110 oM110
  refine EvF.mono (sWhen_ok (aM110.ok hkr103) (aM110.inS hSr103)  ) ?_
  rintro _ _ ⟨rfl, hh⟩
  refine ⟨hh, ?_⟩
  clear hh
  refine XD.lit (b := 262143) (h := h101) (S := S) (τ := (.int .i64)) (vsC (RepV.ofInt .i64 _) (vsC (RepV.ofInt .i64 _) (vs1 (RepV.ofInt .i64 _)))) el179 rfl rfl rfl (by simp) (by simp) (by decide) (hA.ok hok) (hA.inS hS) rfl rfl rfl rfl ?_
  intro w111 h111 s111 a111
  have ha0o := ha0
  have b101o := b101
  have s104o := s104
  have s106o := s106
  have s108o := s108
  have s109o := s109
  have rg103 : Goes h101 S h101 S := Goes.refl
  have ra103 := After.refl h101
  have ok112 := hA.ok hok
  have gg112 : Goes h101 S h111 S := a111.nx ok112
  replace hA := hA.trans a111
  replace ha0 := ha0.nx gg112
  replace b101 := b101.nx gg112
  replace s104 := s104.nx gg112
  replace s106 := s106.nx gg112
  replace s108 := s108.nx gg112
  replace s109 := s109.nx gg112
  replace rg103 := rg103.trans gg112
  have ra103_111 := ra103.trans a111
  refine XD.callV (bb := 524287) ra103_111 (SegsOk.cons (ra103).next (SegsOk.cons ((After.refl _)).next (SegsOk.cons ((After.refl _)).next (SegsOk.cons ((After.refl _)).next (SegsOk.cons ((After.refl _)).next (SegsOk.cons ((After.refl _)).next (SegsOk.cons ((After.refl _)).next (SegsOk.cons ((After.refl _)).next (SegsOk.cons ((After.refl _)).next (SegsOk.cons ((After.refl _)).next (SegsOk.cons ((After.refl _)).next (SegsOk.cons ((After.refl _)).next SegsOk.nil)))))))))))) rfl rfl rfl rfl rfl rfl ?_
  intro M113 aM113 oM113
  obtain rfl := oM113 rfl
  refine EvF.mono (sFirst_ok (hA.ok hok) (hA.inS hS) (s111).entry (by simp)) ?_
  rintro _ _ ⟨rfl, hh⟩
  refine ⟨hh, ?_⟩
  clear hh
  refine XD.c (b := 1048575) (.assign rfl) rfl rfl rfl ?_
  refine XD.nil (thenC.go ?_)
  refine XC.seq ?_
  refine XC.text ?_
  refine XO.c (.move rfl) rfl rfl ?_
  refine XO.c (.neq rfl rfl) rfl rfl ?_
  refine XO.nil (thenC.go ?_)
  refine XC.condD rfl (fun c2 => ?_) (fun c2 => ?_)
  · refine XC.seq ?_
    refine XC.text ?_
    refine XO.c (.move rfl) rfl rfl ?_
    refine XO.c (.assign rfl) rfl rfl ?_
    refine XO.nil (thenC.go ?_)
    refine XC.ret fun tf htf => ?_
    refine thenC_ret ?_
    refine endF.one rfl rfl (htf 2 _ rfl) ?_
    exact ⟨congrArg (Value.int .i64) (by rw [night_two, firstE_app, if_neg c2]), hA.leftAf rfl⟩
  · refine XC.skip (thenC.go ?_)
    refine XC.seq ?_
    refine XC.drawn ?_
    have hkr114 := hA.ok hok
    have hSr114 := (hA.inS hS)
    refine XD.c (b := 0) (.fieldAddr rfl ((b101).fa (f := 0) (k := 0) (by kernel_rfl))) rfl rfl rfl ?_
    obtain ⟨u115, e115, s115⟩ := ((b101).base.fst').ldSl vt22
    refine XD.ld (b := 1) (After.refl _) SegsOk.nil hkr114 rfl (e115) rfl rfl rfl rfl ?_
    refine XD.callV (bb := 3) (After.refl _) (SegsOk.cons ((After.refl _)).next SegsOk.nil) rfl rfl rfl rfl rfl rfl ?_
    intro M116 aM116 oM116
    refine EvF.mono (sHeights_ok (aM116.ok hkr114) (aM116.inS hSr114) (s115.nx (aM116.nx hkr114)) (by first | assumption | omega)) ?_
    rintro _ _ ⟨rfl, hh⟩
    refine ⟨hh, ?_⟩
    clear hh
    refine XD.c (b := 0) (.fieldAddr rfl ((b101).fa (f := 1) (k := 1) (by kernel_rfl))) rfl rfl rfl ?_
    obtain ⟨u117, e117, s117⟩ := (((b101).base.snd' (m := 1) rfl (b101).isP)).ldSl vt22
    refine XD.ld (b := 8) (After.refl _) (SegsOk.cons ((After.refl _)).next (SegsOk.cons ((After.refl _)).next SegsOk.nil)) hkr114 rfl (e117) rfl rfl rfl rfl ?_
    refine XD.callV (bb := 31) (After.refl _) (SegsOk.cons ((After.refl _)).next (SegsOk.cons ((After.refl _)).next (SegsOk.cons ((After.refl _)).next SegsOk.nil))) rfl rfl rfl rfl rfl rfl ?_
    intro M118 aM118 oM118
    refine EvF.mono (sHeights_ok (aM118.ok hkr114) (aM118.inS hSr114) (s117.nx (aM118.nx hkr114)) (by first | assumption | omega)) ?_
    rintro _ _ ⟨rfl, hh⟩
    refine ⟨hh, ?_⟩
    clear hh
    refine XD.lit (b := 63) (h := h111) (S := S) (τ := (.int .i64)) (vsC (RepV.ofInt .i64 _) (vs1 (RepV.ofInt .i64 _))) el179 rfl rfl rfl (by simp) (by simp) (by decide) (hA.ok hok) (hA.inS hS) rfl rfl rfl rfl ?_
    intro w119 h119 s119 a119
    have ha0o := ha0
    have b101o := b101
    have s104o := s104
    have s106o := s106
    have s108o := s108
    have s109o := s109
    have s111o := s111
    have s115o := s115
    have s117o := s117
    have rg114 : Goes h111 S h111 S := Goes.refl
    have ra114 := After.refl h111
    have ok120 := hA.ok hok
    have gg120 : Goes h111 S h119 S := a119.nx ok120
    replace hA := hA.trans a119
    replace ha0 := ha0.nx gg120
    replace b101 := b101.nx gg120
    replace s104 := s104.nx gg120
    replace s106 := s106.nx gg120
    replace s108 := s108.nx gg120
    replace s109 := s109.nx gg120
    replace s111 := s111.nx gg120
    replace s115 := s115.nx gg120
    replace s117 := s117.nx gg120
    replace rg114 := rg114.trans gg120
    have ra114_119 := ra114.trans a119
    refine XD.callV (bb := 127) ra114_119 (SegsOk.cons (ra114).next (SegsOk.cons ((After.refl _)).next (SegsOk.cons ((After.refl _)).next (SegsOk.cons ((After.refl _)).next (SegsOk.cons ((After.refl _)).next SegsOk.nil))))) rfl rfl rfl rfl rfl rfl ?_
    intro M121 aM121 oM121
    obtain rfl := oM121 rfl
    refine EvF.mono (sFirst_ok (hA.ok hok) (hA.inS hS) (s119).entry (by simp)) ?_
    rintro _ _ ⟨rfl, hh⟩
    refine ⟨hh, ?_⟩
    clear hh
    refine XD.c (b := 255) (.assign rfl) rfl rfl rfl ?_
    refine XD.nil (thenC.go ?_)
    refine XC.ret fun tf htf => ?_
    refine endF.one rfl rfl (htf 2 _ rfl) ?_
    exact ⟨congrArg (Value.int .i64) (by rw [night_two, firstE_app, if_pos (Decidable.not_not.1 c2)]), hA.leftAf rfl⟩
theorem sMapNE_ok {h : Heap} {S : List Nat} {v0 : Value} {l : List ((List Int) × (List Int))} {f_f : FuncId} {f_a f_b : Array Value} {F : List Int × List Int → Int} (hok : HOk h) (hS : ∀ b ∈ S, b < h.next) (ha0 : SlV h S (.pair (.sl (.int .i64)) (.sl (.int .i64))) v0 l) (hl : l.length < 100000) (hf : ∀ {h2 : Heap} {S2 : List Nat} {v : Value} {x : List Int × List Int}, HOk h2 → (∀ b ∈ S2, b < h2.next) → RepV h2 S2 (.pair (.sl (.int .i64)) (.sl (.int .i64))) v x → After h h2 → x ∈ l → EvF Tryz.prog OA f_f (f_a.toList ++ [v] ++ f_b.toList) h2 fun r h' => r = .int .i64 (F x) ∧ h' = h2) : EvF Tryz.prog OA 107 [v0, .func (.func f_f) f_a f_b] h fun r h' => After h h' ∧ SlV h' S (.int .i64) r (l.map F) := by
  refine XF.enter Tryz.func107 rfl rfl rfl ?_
  have hok : HOk (entry h) := hok
  have hA := After.refl (entry h)
  replace ha0 := ha0.entry
  show XC Tryz.prog OA none _ _ [] [(0, v0), (1, .func (.func f_f) f_a f_b)] (entry h) _
  refine XC.seq ?_
  refine XC.text ?_
  refine XO.c (.assign rfl) rfl rfl ?_
  refine XO.nil (thenC.go ?_)
  refine XC.seq ?_
  refine XC.text ?_
  refine XO.c (.assign rfl) rfl rfl ?_
  refine XO.nil (thenC.go ?_)
  refine XC.seq ?_
  refine XC.seq ?_
  refine XC.text ?_
  refine XO.c (.move rfl) rfl rfl ?_
  refine XO.a (.len rfl (ha0.len el45)) rfl rfl ?_
  refine XO.c (.move rfl) rfl rfl ?_
  refine XO.nil (thenC.go ?_)
  refine XC.block ?_
  have hAL122 := hA
  have hkL122 := hA.ok hok
  have hSL122 := (hA.inS hS)
  refine XC.keep [(1, .func (.func f_f) f_a f_b), (5, .slice none 0 0), (8, v0), (9, .int .i64 ((l.length : Nat) : Int)), (10, .int .i64 ((0 : Nat) : Int))] ⟨rfl, rfl, rfl, rfl, rfl, trivial⟩ ?_
  refine XC.loopI (I := fun (kk : Nat) (ff : FL) (hh : Heap) => ∃ (j : Nat) (out : Value), kk = l.length - j ∧ ff = [(1, .func (.func f_f) f_a f_b), (5, out), (8, v0), (9, .int .i64 ((l.length : Nat) : Int)), (10, .int .i64 ((j : Nat) : Int))] ∧ After (entry h) hh ∧ After (entry h) hh ∧ Goes (entry h) S hh (ownB out ++ S) ∧ GrowR hh (ownB out ++ S) (entry h).next 26 true (.int .i64) out ((l.take j).map F) ∧ (j ≤ l.length)) ?_ _ _ _ ⟨0, .slice none 0 0, rfl, rfl, hA, After.refl _, Goes.refl, (GrowR.nil), (by omega)⟩
  clear hA
  rintro kk ff hh122 ⟨j, out, hk122, rfl, hA, aL122, nL122, g_out122, hj⟩
  replace ha0 := ha0.nx nL122
  refine XC.seq ?_
  refine XC.text ?_
  refine XO.c (.lss rfl rfl) rfl rfl ?_
  refine XO.nil (thenC.go ?_)
  refine XC.seq ?_
  refine XC.condD rfl (fun c3 => ?_) (fun c3 => ?_)
  · refine XC.skip (thenC.go ?_)
    refine XC.seq ?_
    refine XC.block ?_
    refine XC.seq ?_
    refine XC.text ?_
    refine XO.c (.indexAddr rfl rfl rfl (ha0.ix (j := j) el45 (by omega))) rfl rfl ?_
    obtain ⟨u123, e123, r123⟩ := ((ha0.at (j := j) (by omega))).ldV vt172
    obtain ⟨c124_0, c124_1, rfl, r124_0, r124_1⟩ := r123.st2 rfl rfl
    replace r124_0 := r124_0.sl
    replace r124_1 := r124_1.sl
    refine XO.r (.load rfl (e123)) rfl rfl ?_
    refine XO.allocP (S := (ownB out ++ S)) (z := .agg #[.slice none 0 0, .slice none 0 0]) (by kernel_rfl) rfl rfl aL122 hkL122 (g_out122.inS (hA.ok hok) (hA.inS hS)) rfl rfl ?_
    intro p125 h125 b125 a125 gs125
    have ok126 := hA.ok hok
    have gg126 : Goes hh122 (ownB out ++ S) h125 (ownP p125 ++ (ownB out ++ S)) := gs125
    replace hA := hA.trans a125
    replace aL122 := aL122.trans a125
    replace nL122 := nL122.trans gg126
    replace ha0 := ha0.nx gg126
    replace r124_0 := r124_0.nx gg126
    replace r124_1 := r124_1.nx gg126
    replace g_out122 := g_out122.up a125 ok126 gg126 (fun b hb => by simp [hb])
    refine XO.stP (S := (ownB out ++ S)) (h0 := (entry h)) (τ := (.pair (.sl (.int .i64)) (.sl (.int .i64)))) rfl rfl b125 (RepV.mk2 (a := (.sl (.int .i64))) (b := (.sl (.int .i64))) (x := l[j]) (r124_0).rep (r124_1).rep rfl rfl) vt172 aL122 ?_
    intro h127 b127 a127 gs127 nx127 fr127
    have ok128 := hA.ok hok
    have gg128 : Goes h125 (ownP p125 ++ (ownB out ++ S)) h127 (ownB out ++ S) := gs127
    replace hA := hAL122.trans a127
    replace aL122 := a127
    replace nL122 := nL122.trans gg128
    replace ha0 := ha0.nx gg128
    replace r124_0 := r124_0.nx gg128
    replace r124_1 := r124_1.nx gg128
    replace g_out122 := g_out122.chg (fun b hb => fr127 b (by simp [hb])) gg128 (fun b hb => by simp [hb])
    refine XO.nil (thenC.go ?_)
    refine XC.text ?_
    refine XO.c (.move rfl) rfl rfl ?_
    refine XO.c (.move rfl) rfl rfl ?_
    obtain ⟨u129, e129, r129⟩ := (b127).ldV vt172
    obtain ⟨c130_0, c130_1, rfl, r130_0, r130_1⟩ := r129.st2 rfl rfl
    replace r130_0 := r130_0.sl
    replace r130_1 := r130_1.sl
    refine XO.r (.load rfl (e129)) rfl rfl ?_
    refine XO.call rfl rfl rfl rfl ?_
    refine EvF.mono (hf (hA.ok hok) (g_out122.inS (hA.ok hok) (hA.inS hS)) (RepV.mk2 (a := (.sl (.int .i64))) (b := (.sl (.int .i64))) (x := l[j]) (r130_0).rep (r130_1).rep rfl rfl) hA.ofEntry (List.getElem_mem _)) ?_
    rintro _ _ ⟨rfl, hh⟩
    obtain rfl := hh.symm
    clear hh
    refine XO.pushR (S0 := S) (h0 := (entry h)) el179 el179 rfl rfl g_out122 (RepV.ofInt .i64 _) aL122 hkL122 (hA.inS hS) (by simp; omega) (by decide) rfl rfl rfl ?_
    intro out132 h132 g132 a132 n132 l132
    have ok133 := hA.ok hok
    have gg133 : Goes h127 (ownB out ++ S) h132 (ownB out132 ++ S) := n132
    replace hA := hAL122.trans a132
    replace aL122 := a132
    replace nL122 := nL122.trans gg133
    replace ha0 := ha0.nx gg133
    replace r124_0 := r124_0.nx gg133
    replace r124_1 := r124_1.nx gg133
    replace b127 := b127.nx gg133
    replace r130_0 := r130_0.nx gg133
    replace r130_1 := r130_1.nx gg133
    refine XO.c (.assign rfl) rfl rfl ?_
    refine XO.nil ?_
    intro tf htf
    refine inBlock_nrm ?_
    refine thenC.go ?_ tf htf
    refine XC.text ?_
    refine XO.c (.add rfl rfl (by omega)) rfl rfl ?_
    refine XO.c (.move rfl) rfl rfl ?_
    refine XO.nil ?_
    intro tf htf
    refine ⟨rfl, rfl, _, [(1, .func (.func f_f) f_a f_b), (5, out132), (8, v0), (9, .int .i64 ((l.length : Nat) : Int)), (10, .int .i64 (((j + 1) : Nat) : Int))], ?_, htf.keep _ ⟨rfl, rfl, rfl, rfl, rfl, trivial⟩, (j + 1), out132, rfl, rfl, hA, aL122, nL122, (by rw [List.take_succ_eq_append_getElem (by omega), List.map_append]; exact g132), (by omega)⟩
    omega
  · refine XC.exit ?_
    intro tf htf
    refine thenC_exit ?_
    refine loopQ_exit ?_
    refine inBlock_eq ?_
    refine thenC.go ?_ tf htf
    refine XC.seq ?_
    refine XC.text ?_
    refine XO.c (.move rfl) rfl rfl ?_
    refine XO.c (.assign rfl) rfl rfl ?_
    refine XO.nil (thenC.go ?_)
    refine XC.ret fun tf htf => ?_
    have s134 := g_out122.shut hSL122
    have gg134 : Goes hh122 (ownB out ++ S) hh122 S := nx_own
    replace ha0 := ha0.nx gg134
    refine endF.one rfl rfl (htf 4 _ rfl) ?_
    refine ⟨hA.left _, ?_⟩
    have hw := (s134).ret hA
    rw [List.take_of_length_le (by omega)] at hw; exact hw
theorem nights_pre {n : Int} : firstE [whenE (decide (n = 0)) 12, whenE (decide ((64 : Int) < n)) 5] = if n = 0 then 12 else if 64 < n then 5 else 0 := by
  by_cases h1 : n = 0
  · rw [whenE_t h1, if_pos h1]; simp [firstE]
  · rw [whenE_f h1, if_neg h1]
    by_cases h2 : 64 < n
    · rw [whenE_t h2, if_pos h2]; simp [firstE]
    · rw [whenE_f h2, if_neg h2]; simp [firstE]
theorem sNights_ok {h : Heap} {S : List Nat} {v0 : Value} {l : List ((List Int) × (List Int))} (hok : HOk h) (hS : ∀ b ∈ S, b < h.next) (ha0 : SlV h S (.pair (.sl (.int .i64)) (.sl (.int .i64))) v0 l) (hl : ∀ c ∈ l, c.1.length < 100000 ∧ c.2.length < 100000) : EvF Tryz.prog OA 34 [v0] h fun r h' => r = .int .i64 (nightsE l) ∧ h' = h := by
  refine XF.enter Tryz.func34 rfl rfl rfl ?_
  have hok : HOk (entry h) := hok
  have hA := After.refl (entry h)
  replace ha0 := ha0.entry
  show XC Tryz.prog OA none _ _ [] [(0, v0)] (entry h) _
  refine XC.seq ?_
  refine XC.text ?_
  refine XO.c (.assign rfl) rfl rfl ?_
  refine XO.nil (thenC.go ?_)
  refine XC.seq ?_
  refine XC.seq ?_
  refine XC.text ?_
  refine XO.c (.move rfl) rfl rfl ?_
  refine XO.a (.len rfl (ha0.len el45)) rfl rfl ?_
  refine XO.c (.eql rfl rfl) rfl rfl ?_
  refine XO.call rfl rfl rfl rfl ?_
  refine EvF.mono (sWhen_ok (hA.ok hok) (hA.inS hS)  ) ?_
  rintro _ _ ⟨rfl, hh⟩
  obtain rfl := hh.symm
  clear hh
  refine XO.c (.move rfl) rfl rfl ?_
  refine XO.a (.len rfl (ha0.len el45)) rfl rfl ?_
  refine XO.c (.gtr rfl rfl) rfl rfl ?_
  refine XO.call rfl rfl rfl rfl ?_
  refine EvF.mono (sWhen_ok (hA.ok hok) (hA.inS hS)  ) ?_
  rintro _ _ ⟨rfl, hh⟩
  obtain rfl := hh.symm
  clear hh
  refine XO.lit (h := (entry h)) (S := S) (τ := (.int .i64)) (vsC (RepV.ofInt .i64 _) (vs1 (RepV.ofInt .i64 _))) el179 rfl rfl rfl (by simp) (by simp) (by decide) (hA.ok hok) (hA.inS hS) rfl rfl ?_
  intro w137 h137 s137 a137
  have ok138 := hA.ok hok
  have gg138 : Goes (entry h) S h137 S := a137.nx ok138
  replace hA := hA.trans a137
  replace ha0 := ha0.nx gg138
  refine XO.call rfl rfl rfl rfl ?_
  refine EvF.mono (sFirst_ok (hA.ok hok) (hA.inS hS) s137 (by simp)) ?_
  rintro _ _ ⟨rfl, hh⟩
  obtain rfl := hh.symm
  clear hh
  refine XO.c (.assign rfl) rfl rfl ?_
  refine XO.nil (thenC.go ?_)
  refine XC.seq ?_
  refine XC.text ?_
  refine XO.c (.move rfl) rfl rfl ?_
  refine XO.c (.neq rfl rfl) rfl rfl ?_
  refine XO.nil (thenC.go ?_)
  refine XC.condD rfl (fun c2 => ?_) (fun c2 => ?_)
  · refine XC.seq ?_
    refine XC.text ?_
    refine XO.c (.move rfl) rfl rfl ?_
    refine XO.c (.assign rfl) rfl rfl ?_
    refine XO.nil (thenC.go ?_)
    refine XC.ret fun tf htf => ?_
    refine thenC_ret ?_
    refine endF.one rfl rfl (htf 2 _ rfl) ?_
    exact ⟨congrArg (Value.int .i64) (by rw [nights_pre] at c2 ⊢; rw [nightsE]; split <;> simp_all), hA.leftAf rfl⟩
  · rw [nights_pre] at c2
    have d1 : ¬ (l.length : Int) = 0 := fun h => by simp [h] at c2
    have d2 : ¬ (64 : Int) < l.length := fun h => by simp [h] at c2; omega
    refine XC.skip (thenC.go ?_)
    refine XC.seq ?_
    refine XC.text ?_
    refine XO.c (.move rfl) rfl rfl ?_
    refine XO.call rfl rfl rfl rfl ?_
    refine EvF.mono (sMapNE_ok (hA.ok hok) (hA.inS hS) ha0 (F := nightE) (by omega) (fun a b r _ m => sNightC_ok a b r (hl _ m).1 (hl _ m).2)) ?_
    rintro u140 h140 ⟨a140, s140⟩
    have ok141 := hA.ok hok
    have gg141 : Goes h137 S h140 S := a140.nx ok141
    replace hA := hA.trans a140
    replace ha0 := ha0.nx gg141
    replace s137 := s137.nx gg141
    refine XO.call rfl rfl rfl rfl ?_
    refine EvF.mono (sFirst_ok (hA.ok hok) (hA.inS hS) s140 (by simp; omega)) ?_
    rintro _ _ ⟨rfl, hh⟩
    obtain rfl := hh.symm
    clear hh
    refine XO.c (.assign rfl) rfl rfl ?_
    refine XO.nil (thenC.go ?_)
    refine XC.ret fun tf htf => ?_
    refine endF.one rfl rfl (htf 2 _ rfl) ?_
    exact ⟨congrArg (Value.int .i64) (by rw [nightsE, if_neg d1, if_neg d2]), hA.leftAf rfl⟩
theorem rNights_ok {h : Heap} {S : List Nat} {v0 : Value} {l : List ((List Int) × (List Int))} (hok : HOk h) (hS : ∀ b ∈ S, b < h.next) (ha0 : SlV h S (.pair (.sl (.int .i64)) (.sl (.int .i64))) v0 l) (hl : ∀ c ∈ l, c.1.length < 100000 ∧ c.2.length < 100000) : EvF Tryz.prog OA 30 [v0] h fun r h' => r = .int .i64 (nightsE l) ∧ h' = h := by
  refine XF.enter Tryz.func30 rfl rfl rfl ?_
  have hok : HOk (entry h) := hok
  have hA := After.refl (entry h)
  replace ha0 := ha0.entry
  show XC Tryz.prog OA none _ _ [] [(0, v0)] (entry h) _
  refine XC.seq ?_
  refine XC.text ?_
  refine XO.c (.assign rfl) rfl rfl ?_
  refine XO.nil (thenC.go ?_)
  refine XC.seq ?_
  refine XC.seq ?_
  refine XC.text ?_
  refine XO.c (.move rfl) rfl rfl ?_
  refine XO.a (.len rfl (ha0.len el39)) rfl rfl ?_
  refine XO.c (.eql rfl rfl) rfl rfl ?_
  refine XO.nil (thenC.go ?_)
  refine XC.condD rfl (fun c1 => ?_) (fun c1 => ?_)
  · refine XC.seq ?_
    refine XC.text ?_
    refine XO.c (.assign rfl) rfl rfl ?_
    refine XO.nil (thenC.go ?_)
    refine XC.ret fun tf htf => ?_
    refine thenC_ret ?_
    refine endF.one rfl rfl (htf 2 _ rfl) ?_
    exact ⟨congrArg (Value.int .i64) (by rw [nightsE, if_pos c1]), hA.leftAf rfl⟩
  · refine XC.skip (thenC.go ?_)
    refine XC.seq ?_
    refine XC.seq ?_
    refine XC.text ?_
    refine XO.c (.move rfl) rfl rfl ?_
    refine XO.a (.len rfl (ha0.len el39)) rfl rfl ?_
    refine XO.c (.gtr rfl rfl) rfl rfl ?_
    refine XO.nil (thenC.go ?_)
    refine XC.condD rfl (fun c3 => ?_) (fun c3 => ?_)
    · refine XC.seq ?_
      refine XC.text ?_
      refine XO.c (.assign rfl) rfl rfl ?_
      refine XO.nil (thenC.go ?_)
      refine XC.ret fun tf htf => ?_
      refine thenC_ret ?_
      refine endF.one rfl rfl (htf 2 _ rfl) ?_
      exact ⟨congrArg (Value.int .i64) (by rw [nightsE, if_neg c1, if_pos c3]), hA.leftAf rfl⟩
    · refine XC.skip (thenC.go ?_)
      refine XC.seq ?_
      refine XC.seq ?_
      refine XC.text ?_
      refine XO.c (.assign rfl) rfl rfl ?_
      refine XO.nil (thenC.go ?_)
      refine XC.block ?_
      have hAL143 := hA
      have hkL143 := hA.ok hok
      have hSL143 := (hA.inS hS)
      refine XC.keep [(0, v0), (3, .int .i64 ((0 : Nat) : Int))] ⟨rfl, rfl, trivial⟩ ?_
      refine XC.loopI (I := fun (kk : Nat) (ff : FL) (hh : Heap) => ∃ (j : Nat), kk = l.length - j ∧ ff = [(0, v0), (3, .int .i64 ((j : Nat) : Int))] ∧ After (entry h) hh ∧ After (entry h) hh ∧ Goes (entry h) S hh S ∧ (j ≤ l.length) ∧ (firstE (l.map nightE) = firstE ((l.drop j).map nightE))) ?_ _ _ _ ⟨0, rfl, rfl, hA, After.refl _, Goes.refl, (by omega), (by rfl)⟩
      clear hA
      rintro kk ff hh143 ⟨j, hk143, rfl, hA, aL143, nL143, hj, hf⟩
      replace ha0 := ha0.nx nL143
      refine XC.seq ?_
      refine XC.seq ?_
      refine XC.text ?_
      refine XO.c (.move rfl) rfl rfl ?_
      refine XO.c (.move rfl) rfl rfl ?_
      refine XO.a (.len rfl (ha0.len el39)) rfl rfl ?_
      refine XO.c (.lss rfl rfl) rfl rfl ?_
      refine XO.nil (thenC.go ?_)
      refine XC.condD rfl (fun c6 => ?_) (fun c6 => ?_)
      · refine XC.skip (thenC.go ?_)
        refine XC.seq ?_
        refine XC.block ?_
        refine XC.seq ?_
        refine XC.seq ?_
        refine XC.text ?_
        refine XO.c (.move rfl) rfl rfl ?_
        refine XO.c (.move rfl) rfl rfl ?_
        refine XO.c (.indexAddr rfl rfl rfl (ha0.ix (j := j) el39 (by omega))) rfl rfl ?_
        refine XO.c (.fieldAddr rfl (((ha0.at (j := j) (by omega))).fa (f := 0) (k := 0) (by kernel_rfl))) rfl rfl ?_
        obtain ⟨u144, e144, s144⟩ := (((ha0.at (j := j) (by omega))).base.fst').ldSl vt22
        refine XO.r (.load rfl (e144)) rfl rfl ?_
        refine XO.a (.len rfl (s144.len el22)) rfl rfl ?_
        refine XO.c (.eql rfl rfl) rfl rfl ?_
        refine XO.nil (thenC.go ?_)
        refine XC.condD rfl (fun c8 => ?_) (fun c8 => ?_)
        · refine XC.seq ?_
          refine XC.text ?_
          refine XO.c (.assign rfl) rfl rfl ?_
          refine XO.nil (thenC.go ?_)
          refine XC.ret fun tf htf => ?_
          refine thenC_ret ?_
          refine inBlock_ret ?_
          refine thenC_ret ?_
          refine loopQ_ret ?_
          refine inBlock_ret ?_
          refine thenC_ret ?_
          refine endF.one rfl rfl (htf 2 _ rfl) ?_
          exact ⟨congrArg (Value.int .i64) (by rw [nightsE, if_neg c1, if_neg c3, hf, firstE_map_drop (by omega)]; simp only [nightE, firstE, whenE_t c8, if_true]; rfl), hA.leftAf rfl⟩
        · refine XC.skip (thenC.go ?_)
          refine XC.seq ?_
          refine XC.seq ?_
          refine XC.text ?_
          refine XO.c (.move rfl) rfl rfl ?_
          refine XO.c (.move rfl) rfl rfl ?_
          refine XO.c (.indexAddr rfl rfl rfl (ha0.ix (j := j) el39 (by omega))) rfl rfl ?_
          refine XO.c (.fieldAddr rfl (((ha0.at (j := j) (by omega))).fa (f := 0) (k := 0) (by kernel_rfl))) rfl rfl ?_
          obtain ⟨u145, e145, s145⟩ := (((ha0.at (j := j) (by omega))).base.fst').ldSl vt22
          refine XO.r (.load rfl (e145)) rfl rfl ?_
          refine XO.a (.len rfl (s145.len el22)) rfl rfl ?_
          refine XO.c (.gtr rfl rfl) rfl rfl ?_
          refine XO.nil (thenC.go ?_)
          refine XC.condD rfl (fun c10 => ?_) (fun c10 => ?_)
          · refine XC.seq ?_
            refine XC.text ?_
            refine XO.c (.assign rfl) rfl rfl ?_
            refine XO.nil (thenC.go ?_)
            refine XC.ret fun tf htf => ?_
            refine thenC_ret ?_
            refine inBlock_ret ?_
            refine thenC_ret ?_
            refine loopQ_ret ?_
            refine inBlock_ret ?_
            refine thenC_ret ?_
            refine endF.one rfl rfl (htf 2 _ rfl) ?_
            exact ⟨congrArg (Value.int .i64) (by rw [nightsE, if_neg c1, if_neg c3, hf, firstE_map_drop (by omega)]; simp only [nightE, firstE, whenE_f c8, whenE_t c10, if_true]; rfl), hA.leftAf rfl⟩
          · refine XC.skip (thenC.go ?_)
            refine XC.seq ?_
            refine XC.seq ?_
            refine XC.drawn ?_
            have hkr146 := hA.ok hok
            have hSr146 := (hA.inS hS)
            refine XD.c (b := 0) (.move rfl) rfl rfl rfl ?_
            refine XD.c (b := 0) (.move rfl) rfl rfl rfl ?_
            refine XD.c (b := 3) (.indexAddr rfl rfl rfl (ha0.ix (j := j) el39 (by omega))) rfl rfl rfl ?_
            refine XD.c (b := 7) (.fieldAddr rfl (((ha0.at (j := j) (by omega))).fa (f := 1) (k := 1) (by kernel_rfl))) rfl rfl rfl ?_
            obtain ⟨u147, e147, s147⟩ := ((((ha0.at (j := j) (by omega))).base.snd' (m := 1) rfl ((ha0.at (j := j) (by omega))).isP)).ldSl vt22
            refine XD.ld (b := 15) (After.refl _) SegsOk.nil hkr146 rfl (e147) rfl rfl rfl rfl ?_
            refine XD.a (b := 31) rfl (.len rfl (s147.len el22)) rfl rfl rfl rfl ?_
            refine XD.c (b := 0) (.move rfl) rfl rfl rfl ?_
            refine XD.c (b := 0) (.move rfl) rfl rfl rfl ?_
            refine XD.c (b := 192) (.indexAddr rfl rfl rfl (ha0.ix (j := j) el39 (by omega))) rfl rfl rfl ?_
            refine XD.c (b := 448) (.fieldAddr rfl (((ha0.at (j := j) (by omega))).fa (f := 0) (k := 0) (by kernel_rfl))) rfl rfl rfl ?_
            obtain ⟨u148, e148, s148⟩ := (((ha0.at (j := j) (by omega))).base.fst').ldSl vt22
            refine XD.ld (b := 960) (After.refl _) (SegsOk.cons ((After.refl _)).next (SegsOk.cons ((After.refl _)).next SegsOk.nil)) hkr146 rfl (e148) rfl rfl rfl rfl ?_
            refine XD.a (b := 1984) rfl (.len rfl (s148.len el22)) rfl rfl rfl rfl ?_
            refine XD.c (b := 4095) (.neq rfl rfl) rfl rfl rfl ?_
            refine XD.nil (thenC.go ?_)
            refine XC.condD rfl (fun c12 => ?_) (fun c12 => ?_)
            · refine XC.seq ?_
              refine XC.text ?_
              refine XO.c (.assign rfl) rfl rfl ?_
              refine XO.nil (thenC.go ?_)
              refine XC.ret fun tf htf => ?_
              refine thenC_ret ?_
              refine inBlock_ret ?_
              refine thenC_ret ?_
              refine loopQ_ret ?_
              refine inBlock_ret ?_
              refine thenC_ret ?_
              refine endF.one rfl rfl (htf 2 _ rfl) ?_
              exact ⟨congrArg (Value.int .i64) (by rw [nightsE, if_neg c1, if_neg c3, hf, firstE_map_drop (by omega)]; simp only [nightE, firstE, whenE_f c8, whenE_f c10, whenE_t c12, if_true]; rfl), hA.leftAf rfl⟩
            · refine XC.skip (thenC.go ?_)
              refine XC.seq ?_
              refine XC.drawn ?_
              have hkr149 := hA.ok hok
              have hSr149 := (hA.inS hS)
              have hlj := hl _ (List.getElem_mem (show j < l.length by omega))
              refine XD.c (b := 0) (.move rfl) rfl rfl rfl ?_
              refine XD.c (b := 0) (.move rfl) rfl rfl rfl ?_
              refine XD.c (b := 3) (.indexAddr rfl rfl rfl (ha0.ix (j := j) el39 (by omega))) rfl rfl rfl ?_
              refine XD.c (b := 7) (.fieldAddr rfl (((ha0.at (j := j) (by omega))).fa (f := 0) (k := 0) (by kernel_rfl))) rfl rfl rfl ?_
              obtain ⟨u150, e150, s150⟩ := (((ha0.at (j := j) (by omega))).base.fst').ldSl vt22
              refine XD.ld (b := 15) (After.refl _) SegsOk.nil hkr149 rfl (e150) rfl rfl rfl rfl ?_
              refine XD.callV (bb := 31) (After.refl _) (SegsOk.cons ((After.refl _)).next SegsOk.nil) rfl rfl rfl rfl rfl rfl ?_
              intro M151 aM151 oM151
              refine EvF.mono (rHeights_ok (aM151.ok hkr149) (aM151.inS hSr149) (s150.nx (aM151.nx hkr149)) (by first | assumption | omega)) ?_
              rintro _ _ ⟨rfl, hh⟩
              refine ⟨hh, ?_⟩
              clear hh
              refine XD.c (b := 0) (.move rfl) rfl rfl rfl ?_
              refine XD.c (b := 0) (.move rfl) rfl rfl rfl ?_
              refine XD.c (b := 192) (.indexAddr rfl rfl rfl (ha0.ix (j := j) el39 (by omega))) rfl rfl rfl ?_
              refine XD.c (b := 448) (.fieldAddr rfl (((ha0.at (j := j) (by omega))).fa (f := 1) (k := 1) (by kernel_rfl))) rfl rfl rfl ?_
              obtain ⟨u152, e152, s152⟩ := ((((ha0.at (j := j) (by omega))).base.snd' (m := 1) rfl ((ha0.at (j := j) (by omega))).isP)).ldSl vt22
              refine XD.ld (b := 960) (After.refl _) (SegsOk.cons ((After.refl _)).next (SegsOk.cons ((After.refl _)).next SegsOk.nil)) hkr149 rfl (e152) rfl rfl rfl rfl ?_
              refine XD.callV (bb := 2047) (After.refl _) (SegsOk.cons ((After.refl _)).next (SegsOk.cons ((After.refl _)).next (SegsOk.cons ((After.refl _)).next SegsOk.nil))) rfl rfl rfl rfl rfl rfl ?_
              intro M153 aM153 oM153
              refine EvF.mono (rHeights_ok (aM153.ok hkr149) (aM153.inS hSr149) (s152.nx (aM153.nx hkr149)) (by first | assumption | omega)) ?_
              rintro _ _ ⟨rfl, hh⟩
              refine ⟨hh, ?_⟩
              clear hh
              refine XD.lit (b := 4095) (h := hh143) (S := S) (τ := (.int .i64)) (vsC (RepV.ofInt .i64 _) (vs1 (RepV.ofInt .i64 _))) el22 rfl rfl rfl (by simp) (by simp) (by decide) (hA.ok hok) (hA.inS hS) rfl rfl rfl rfl ?_
              intro w154 h154 s154 a154
              have ha0o := ha0
              have s144o := s144
              have s145o := s145
              have s147o := s147
              have s148o := s148
              have s150o := s150
              have s152o := s152
              have rg149 : Goes hh143 S hh143 S := Goes.refl
              have ra149 := After.refl hh143
              have ok155 := hA.ok hok
              have gg155 : Goes hh143 S h154 S := a154.nx ok155
              replace hA := hA.trans a154
              replace aL143 := aL143.trans a154
              replace nL143 := nL143.trans gg155
              replace ha0 := ha0.nx gg155
              replace s144 := s144.nx gg155
              replace s145 := s145.nx gg155
              replace s147 := s147.nx gg155
              replace s148 := s148.nx gg155
              replace s150 := s150.nx gg155
              replace s152 := s152.nx gg155
              replace rg149 := rg149.trans gg155
              have ra149_154 := ra149.trans a154
              refine XD.callV (bb := 8191) ra149_154 (SegsOk.cons (ra149).next (SegsOk.cons ((After.refl _)).next (SegsOk.cons ((After.refl _)).next (SegsOk.cons ((After.refl _)).next (SegsOk.cons ((After.refl _)).next SegsOk.nil))))) rfl rfl rfl rfl rfl rfl ?_
              intro M156 aM156 oM156
              obtain rfl := oM156 rfl
              refine EvF.mono (rFirst_ok (hA.ok hok) (hA.inS hS) (s154).entry (by simp)) ?_
              rintro _ _ ⟨rfl, hh⟩
              refine ⟨hh, ?_⟩
              clear hh
              refine XD.c (b := 16383) (.assign rfl) rfl rfl rfl ?_
              refine XD.nil (thenC.go ?_)
              refine XC.seq ?_
              refine XC.text ?_
              refine XO.c (.move rfl) rfl rfl ?_
              refine XO.c (.neq rfl rfl) rfl rfl ?_
              refine XO.nil (thenC.go ?_)
              refine XC.condD rfl (fun c15 => ?_) (fun c15 => ?_)
              · refine XC.seq ?_
                refine XC.text ?_
                refine XO.c (.move rfl) rfl rfl ?_
                refine XO.c (.assign rfl) rfl rfl ?_
                refine XO.nil (thenC.go ?_)
                refine XC.ret fun tf htf => ?_
                refine inBlock_ret ?_
                refine thenC_ret ?_
                refine loopQ_ret ?_
                refine inBlock_ret ?_
                refine thenC_ret ?_
                refine endF.one rfl rfl (htf 2 _ rfl) ?_
                exact ⟨congrArg (Value.int .i64) (by rw [nightsE, if_neg c1, if_neg c3, hf, firstE_map_drop (by omega)]; simp only [nightE, firstE, whenE_f c8, whenE_f c10, whenE_f c12, if_true] at c15 ⊢; rw [if_neg c15]), hA.leftAf rfl⟩
              · refine XC.skip ?_
                intro tf htf
                refine inBlock_nrm ?_
                refine thenC.go ?_ tf htf
                refine XC.text ?_
                refine XO.c (.move rfl) rfl rfl ?_
                refine XO.c (.add rfl rfl (by omega)) rfl rfl ?_
                refine XO.c (.assign rfl) rfl rfl ?_
                refine XO.nil ?_
                intro tf htf
                refine ⟨rfl, rfl, _, [(0, v0), (3, .int .i64 (((j + 1) : Nat) : Int))], ?_, htf.keep _ ⟨rfl, rfl, trivial⟩, (j + 1), rfl, rfl, hA, aL143, nL143, (by omega), (by rw [hf, firstE_map_drop (by omega), if_pos (by simpa only [nightE, firstE, whenE_f c8, whenE_f c10, whenE_f c12, if_true] using Decidable.not_not.1 c15)])⟩
                omega
      · refine XC.exit ?_
        intro tf htf
        refine thenC_exit ?_
        refine loopQ_exit ?_
        refine inBlock_eq ?_
        refine thenC.go ?_ tf htf
        refine XC.seq ?_
        refine XC.text ?_
        refine XO.c (.assign rfl) rfl rfl ?_
        refine XO.nil (thenC.go ?_)
        refine XC.ret fun tf htf => ?_
        refine endF.one rfl rfl (htf 2 _ rfl) ?_
        exact ⟨congrArg (Value.int .i64) (by rw [nightsE, if_neg c1, if_neg c3, hf, firstE_map_end (by omega)]), hA.leftAf rfl⟩
def devE (c : List Int × List Int) : List Int := (List.range c.2.length).map fun i => c.2.getD i 0 - c.1.getD i 0
theorem devE_len {c : List Int × List Int} : (devE c).length = c.2.length := by simp [devE]
theorem set_fill {l : List Int} {n j : Nat} {x : Int} (hj : j < l.length) (hn : l.length = n) (hx : x = l[j]) : (l.take j ++ List.replicate (n - j) 0).set j x = l.take (j + 1) ++ List.replicate (n - (j + 1)) 0 := by
  subst hx hn
  rw [List.set_append_right _ _ (by simp; omega), List.take_succ_eq_append_getElem hj, List.append_assoc]
  congr 1
  rw [List.length_take, Nat.min_eq_left (by omega), Nat.sub_self, show l.length - j = (l.length - (j + 1)) + 1 by omega, List.replicate_succ]
  rfl
theorem devE_get {c : List Int × List Int} {j : Nat} (h1 : j < c.1.length) (h2 : j < c.2.length) : (devE c)[j]'(by rw [devE_len]; exact h2) = c.2[j] - c.1[j] := by
  simp [devE, List.getD, h1, h2]
structure OkN (c : List Int × List Int) : Prop where
  len : c.2.length = c.1.length
  pos : 0 < c.1.length
  top : c.1.length ≤ 96
  all1 : ∀ x ∈ c.1, -1048576 ≤ x ∧ x ≤ 1048576
  all2 : ∀ x ∈ c.2, -1048576 ≤ x ∧ x ≤ 1048576
theorem nightE_ok {c : List Int × List Int} (h : nightE c = 0) : OkN c := by
  rw [nightE, firstE_zero] at h
  have h2 := whenE_zero (by decide) (h _ (by simp : whenE (decide ((c.1.length : Int) = 0)) 12 ∈ _))
  have h3 := whenE_zero (by decide) (h _ (by simp : whenE (decide ((96 : Int) < c.1.length)) 5 ∈ _))
  have h4 := whenE_zero (by decide) (h _ (by simp : whenE (decide ((c.2.length : Int) ≠ c.1.length)) 2 ∈ _))
  have h5 := h _ (by simp : heightsE c.1 ∈ _)
  have h6 := h _ (by simp : heightsE c.2 ∈ _)
  exact ⟨by omega, by omega, by omega, heightsE_ok h5, heightsE_ok h6⟩
structure OkNs (l : List (List Int × List Int)) : Prop where
  pos : 0 < l.length
  top : l.length ≤ 64
  all : ∀ c ∈ l, OkN c
theorem nightsE_ok {l : List (List Int × List Int)} (h : nightsE l = 0) : OkNs l := by
  unfold nightsE at h
  by_cases h1 : (l.length : Int) = 0
  · rw [if_pos h1] at h; simp at h
  · rw [if_neg h1] at h
    by_cases h2 : (64 : Int) < l.length
    · rw [if_pos h2] at h; simp at h
    · rw [if_neg h2, firstE_zero] at h
      exact ⟨by omega, by omega, fun c hc => nightE_ok (h _ (List.mem_map_of_mem hc))⟩
theorem sDev_ok {h : Heap} {S : List Nat} {v0 : Value} {c : (List Int) × (List Int)} (hok : HOk h) (hS : ∀ b ∈ S, b < h.next) (ha0 : RepV h S (.pair (.sl (.int .i64)) (.sl (.int .i64))) v0 c) (hN : OkN c) : EvF Tryz.prog OA 105 [v0] h fun r h' => After h h' ∧ SlV h' S (.int .i64) r (devE c) := by
  refine XF.enter Tryz.func105 rfl rfl rfl ?_
  have hok : HOk (entry h) := hok
  have hA := After.refl (entry h)
  replace ha0 := ha0.entry
  show XC Tryz.prog OA none _ _ [] [(0, v0)] (entry h) _
  refine XC.seq ?_
  refine XC.text ?_
  have hp := hN.pos
  have ht := hN.top
  have hl := hN.len
  have hdl := @devE_len c
  refine XO.boxR rfl ha0 (hA.ok hok) (hA.inS hS) rfl rfl ?_
  intro p157 h157 b157 a157
  have ok158 := hA.ok hok
  have gg158 : Goes (entry h) S h157 S := a157.nx ok158
  replace hA := hA.trans a157
  replace ha0 := ha0.nx gg158
  refine XO.c (.assign rfl) rfl rfl ?_
  refine XO.nil (thenC.go ?_)
  refine XC.seq ?_
  refine XC.text ?_
  refine XO.c (.fieldAddr rfl ((b157).fa (f := 1) (k := 1) (by kernel_rfl))) rfl rfl ?_
  obtain ⟨u159, e159, s159⟩ := (((b157).base.snd' (m := 1) rfl (b157).isP)).ldSl vt22
  refine XO.r (.load rfl (e159)) rfl rfl ?_
  refine XO.a (.len rfl (s159.len el22)) rfl rfl ?_
  obtain ⟨w160, h160, e160, g160, a160, n160⟩ := GrowR.made (P := Tryz.prog) (h := h157) (S := S) (h0 := (entry h)) el22 rfl (u := .int .i64 0) (x0 := (0 : Int)) (by kernel_rfl) rfl (fun _ _ => rfl) (k := c.2.length) (by omega) hA hok
  refine XO.mk (.makeSlice rfl rfl e160) rfl rfl ?_
  have ok161 := hA.ok hok
  have gg161 : Goes h157 S h160 (ownB w160 ++ S) := n160
  replace hA := hA.trans a160
  replace ha0 := ha0.nx gg161
  replace b157 := b157.nx gg161
  replace s159 := s159.nx gg161
  refine XO.c (.assign rfl) rfl rfl ?_
  refine XO.nil (thenC.go ?_)
  refine XC.seq ?_
  refine XC.seq ?_
  refine XC.text ?_
  refine XO.c (.fieldAddr rfl ((b157).fa (f := 1) (k := 1) (by kernel_rfl))) rfl rfl ?_
  obtain ⟨u162, e162, s162⟩ := (((b157).base.snd' (m := 1) rfl (b157).isP)).ldSl vt22
  refine XO.r (.load rfl (e162)) rfl rfl ?_
  refine XO.a (.len rfl (s162.len el22)) rfl rfl ?_
  refine XO.c (.move rfl) rfl rfl ?_
  refine XO.nil (thenC.go ?_)
  refine XC.block ?_
  have hAL163 := hA
  have hkL163 := hA.ok hok
  have hSL163 := (g160.inS (hA.ok hok) (hA.inS hS))
  have g160L163 := g160
  refine XC.keep [(1, p157), (3, w160), (11, u162), (12, .int .i64 ((c.2.length : Nat) : Int)), (13, .int .i64 ((0 : Nat) : Int))] ⟨rfl, rfl, rfl, rfl, rfl, trivial⟩ ?_
  refine XC.loopI (I := fun (kk : Nat) (ff : FL) (hh : Heap) => ∃ (j : Nat), kk = c.2.length - j ∧ ff = [(1, p157), (3, w160), (11, u162), (12, .int .i64 ((c.2.length : Nat) : Int)), (13, .int .i64 ((j : Nat) : Int))] ∧ After (entry h) hh ∧ True ∧ Goes h160 (ownB w160 ++ S) hh (ownB w160 ++ S) ∧ GrowR hh (ownB w160 ++ S) (entry h).next 3 false (.int .i64) w160 ((devE c).take j ++ List.replicate (c.2.length - j) 0) ∧ (j ≤ c.2.length)) ?_ _ _ _ ⟨0, rfl, rfl, hA, trivial, Goes.refl, (by simpa using g160), (by omega)⟩
  clear hA
  rintro kk ff hh163 ⟨j, hk163, rfl, hA, _, nL163, gm_3_163, hj⟩
  replace ha0 := ha0.nx nL163
  replace b157 := b157.nx nL163
  replace s159 := s159.nx nL163
  replace s162 := s162.nx nL163
  refine XC.seq ?_
  refine XC.text ?_
  refine XO.c (.lss rfl rfl) rfl rfl ?_
  refine XO.nil (thenC.go ?_)
  refine XC.seq ?_
  refine XC.condD rfl (fun c3 => ?_) (fun c3 => ?_)
  · refine XC.skip (thenC.go ?_)
    refine XC.seq ?_
    refine XC.block ?_
    refine XC.seq ?_
    refine XC.text ?_
    refine XO.c (.move rfl) rfl rfl ?_
    refine XO.c (.indexAddr rfl rfl rfl (s162.ix (j := j) el22 (by omega))) rfl rfl ?_
    refine XO.r (.load rfl (((s162.at (j := j) (by omega))).ldInt vt3)) rfl rfl ?_
    refine XO.c (.assign rfl) rfl rfl ?_
    refine XO.c (.assign rfl) rfl rfl ?_
    refine XO.nil (thenC.go ?_)
    refine XC.text ?_
    have b1 := hN.all1 _ (List.getElem_mem (show j < c.1.length by omega))
    have b2 := hN.all2 _ (List.getElem_mem (show j < c.2.length by omega))
    refine XO.c (.move rfl) rfl rfl ?_
    refine XO.c (.move rfl) rfl rfl ?_
    refine XO.c (.move rfl) rfl rfl ?_
    refine XO.c (.fieldAddr rfl ((b157).fa (f := 0) (k := 0) (by kernel_rfl))) rfl rfl ?_
    obtain ⟨u164, e164, s164⟩ := ((b157).base.fst').ldSl vt22
    refine XO.r (.load rfl (e164)) rfl rfl ?_
    refine XO.c (.move rfl) rfl rfl ?_
    refine XO.c (.indexAddr rfl rfl rfl (s164.ix (j := j) el22 (by omega))) rfl rfl ?_
    refine XO.r (.load rfl (((s164.at (j := j) (by omega))).ldInt vt3)) rfl rfl ?_
    refine XO.c (.sub rfl rfl (by omega)) rfl rfl ?_
    refine XO.c (.indexAddr rfl rfl rfl (gm_3_163.ix (j := j) el22 (by simp; omega))) rfl rfl ?_
    obtain ⟨h165, e165, g165, a165, n165, nn165, fr165, lw165⟩ := gm_3_163.set vt3 (j := j) (by simp; omega) (RepV.ofInt .i64 _) hA (hA.ok hok)
    refine XO.st rfl rfl e165 ?_
    have ok166 := hA.ok hok
    have gg166 : Goes hh163 (ownB w160 ++ S) h165 (ownB w160 ++ S) := n165
    replace hA := a165
    replace nL163 := nL163.trans gg166
    replace ha0 := ha0.nx gg166
    replace b157 := b157.nx gg166
    replace s159 := s159.nx gg166
    replace s162 := s162.nx gg166
    replace s164 := s164.nx gg166
    refine XO.nil ?_
    intro tf htf
    refine inBlock_nrm ?_
    refine thenC.go ?_ tf htf
    refine XC.text ?_
    refine XO.c (.add rfl rfl (by omega)) rfl rfl ?_
    refine XO.c (.move rfl) rfl rfl ?_
    refine XO.nil ?_
    intro tf htf
    refine ⟨rfl, rfl, _, [(1, p157), (3, w160), (11, u162), (12, .int .i64 ((c.2.length : Nat) : Int)), (13, .int .i64 (((j + 1) : Nat) : Int))], ?_, htf.keep _ ⟨rfl, rfl, rfl, rfl, rfl, trivial⟩, (j + 1), rfl, rfl, hA, trivial, nL163, (by rw [← set_fill (by omega) devE_len (devE_get (by omega) (by omega)).symm]; exact g165), (by omega)⟩
    omega
  · refine XC.exit ?_
    intro tf htf
    refine thenC_exit ?_
    refine loopQ_exit ?_
    refine inBlock_eq ?_
    refine thenC.go ?_ tf htf
    refine XC.seq ?_
    refine XC.text ?_
    refine XO.c (.move rfl) rfl rfl ?_
    refine XO.c (.assign rfl) rfl rfl ?_
    refine XO.nil (thenC.go ?_)
    refine XC.ret fun tf htf => ?_
    have s167 := gm_3_163.shut hS
    have gg167 : Goes hh163 (ownB w160 ++ S) hh163 S := nx_own
    replace ha0 := ha0.nx gg167
    replace b157 := b157.nx gg167
    replace s159 := s159.nx gg167
    replace s162 := s162.nx gg167
    refine endF.one rfl rfl (htf 2 _ rfl) ?_
    refine ⟨hA.left _, ?_⟩
    have hw := (s167).ret hA
    rw [List.take_of_length_le (by omega), show c.2.length - j = 0 by omega] at hw; simpa using hw
theorem zGrow_ok {h : Heap} {S : List Nat} {n : Nat} (hok : HOk h) (hS : ∀ b ∈ S, b < h.next) (h0 : 0 < n) (h1 : n ≤ 1000000) : EvF Tryz.prog OA 159 [.slice none 0 0, .int .i64 ((n : Nat) : Int)] h fun r h' => After h h' ∧ CapR h' (ownB r ++ S) h.next 3 n (.int .i64) r [] := by
  refine XF.enter Tryz.func159 rfl rfl rfl ?_
  have hok : HOk (entry h) := hok
  have hA := After.refl (entry h)
  show XC Tryz.prog OA none _ _ [] [(0, .slice none 0 0), (1, .int .i64 ((n : Nat) : Int))] (entry h) _
  refine XC.seq ?_
  refine XC.text ?_
  refine XO.c (.assign rfl) rfl rfl ?_
  refine XO.nil (thenC.go ?_)
  refine XC.seq ?_
  refine XC.seq ?_
  refine XC.text ?_
  refine XO.c (.move rfl) rfl rfl ?_
  refine XO.c (.lss rfl rfl) rfl rfl ?_
  refine XO.nil (thenC.go ?_)
  refine XC.condD rfl (fun c1 => ?_) (fun c1 => ?_)
  · exact absurd c1 (by omega)
  · refine XC.skip (thenC.go ?_)
    refine XC.seq ?_
    refine XC.seq ?_
    refine XC.text ?_
    refine XO.c (.move rfl) rfl rfl ?_
    refine XO.c (.move rfl) rfl rfl ?_
    refine XO.a (.cap0 (d := 3) (by kernel_rfl) rfl) rfl rfl ?_
    refine XO.c (.move rfl) rfl rfl ?_
    refine XO.a (.len rfl ((SlV.nil (S := []) (h := h)).len el22)) rfl rfl ?_
    refine XO.c (.sub rfl rfl (by simp)) rfl rfl ?_
    refine XO.c (.sub rfl rfl (by simp; omega)) rfl rfl ?_
    refine XO.c (.assign rfl) rfl rfl ?_
    refine XO.nil (thenC.go ?_)
    refine XC.seq ?_
    refine XC.text ?_
    refine XO.c (.move rfl) rfl rfl ?_
    refine XO.c (.gtr rfl rfl) rfl rfl ?_
    refine XO.nil (thenC.go ?_)
    refine XC.condD rfl (fun c4 => ?_) (fun c4 => ?_)
    · refine XC.text ?_
      refine XO.c (.move rfl) rfl rfl ?_
      refine XO.c (.move rfl) rfl rfl ?_
      refine XO.a (.cap0 (d := 3) (by kernel_rfl) rfl) rfl rfl ?_
      refine XO.r (.sliceH rfl rfl fun _ _ => slice_nil0 el22 _) rfl rfl ?_
      refine XO.c (.move rfl) rfl rfl ?_
      obtain ⟨h169, e169, g169, a169, n169⟩ := grow_made (P := Tryz.prog) (Ti := 3) (h := (entry h)) (S := S) (h0 := (entry h)) (k := n) el22 (by kernel_rfl) (by omega) (by omega) hA hok
      refine XO.mk (.append rfl rfl (by simpa using e169)) rfl rfl ?_
      have ok170 := hA.ok hok
      have gg170 : Goes (entry h) S h169 (ownB (.slice (some ⟨(entry h).next, 0, none⟩) 0 0) ++ S) := n169
      replace hA := hA.trans a169
      refine XO.c (.move rfl) rfl rfl ?_
      refine XO.a (.len rfl ((SlV.nil (S := []) (h := h)).len el22)) rfl rfl ?_
      refine XO.r (.sliceH rfl rfl fun _ _ => slice_cut0 el22 _ _ _) rfl rfl ?_
      refine XO.c (.assign rfl) rfl rfl ?_
      refine XO.nil (thenC.go ?_)
      refine XC.seq ?_
      refine XC.text ?_
      refine XO.c (.move rfl) rfl rfl ?_
      refine XO.c (.assign rfl) rfl rfl ?_
      refine XO.nil (thenC.go ?_)
      refine XC.ret fun tf htf => ?_
      refine endF.one rfl rfl (htf 4 _ rfl) ?_
      exact ⟨hA.left _, (g169).ret hA⟩
    · exact absurd (by omega) c4
end Go.Proofs
namespace Go.Proofs
open Go.Fs
set_option linter.unusedVariables false
theorem el185 : ElT Tryz.prog 185 22 (.sl (.int .i64)) := elT_of (by kernel_rfl)
theorem sMapNL_ok {h : Heap} {S : List Nat} {v0 : Value} {l : List ((List Int) × (List Int))} {f_f : FuncId} {f_a f_b : Array Value} {F : List Int × List Int → List Int} (hok : HOk h) (hS : ∀ b ∈ S, b < h.next) (ha0 : SlV h S (.pair (.sl (.int .i64)) (.sl (.int .i64))) v0 l) (hl : l.length < 100000) (hf : ∀ {h2 : Heap} {S2 : List Nat} {v : Value} {x : List Int × List Int}, HOk h2 → (∀ b ∈ S2, b < h2.next) → RepV h2 S2 (.pair (.sl (.int .i64)) (.sl (.int .i64))) v x → After h h2 → x ∈ l → EvF Tryz.prog OA f_f (f_a.toList ++ [v] ++ f_b.toList) h2 fun r h' => After h2 h' ∧ SlV h' S2 (.int .i64) r (F x)) : EvF Tryz.prog OA 104 [v0, .func (.func f_f) f_a f_b] h fun r h' => After h h' ∧ SlV h' S (.sl (.int .i64)) r (l.map F) := by
  refine XF.enter Tryz.func104 rfl rfl rfl ?_
  have hok : HOk (entry h) := hok
  have hA := After.refl (entry h)
  replace ha0 := ha0.entry
  show XC Tryz.prog OA none _ _ [] [(0, v0), (1, .func (.func f_f) f_a f_b)] (entry h) _
  refine XC.seq ?_
  refine XC.text ?_
  refine XO.c (.assign rfl) rfl rfl ?_
  refine XO.nil (thenC.go ?_)
  refine XC.seq ?_
  refine XC.text ?_
  refine XO.c (.assign rfl) rfl rfl ?_
  refine XO.nil (thenC.go ?_)
  refine XC.seq ?_
  refine XC.seq ?_
  refine XC.text ?_
  refine XO.c (.move rfl) rfl rfl ?_
  refine XO.a (.len rfl (ha0.len el45)) rfl rfl ?_
  refine XO.c (.move rfl) rfl rfl ?_
  refine XO.nil (thenC.go ?_)
  refine XC.block ?_
  have hAL101 := hA
  have hkL101 := hA.ok hok
  have hSL101 := (hA.inS hS)
  refine XC.keep [(1, .func (.func f_f) f_a f_b), (5, .slice none 0 0), (8, v0), (9, .int .i64 ((l.length : Nat) : Int)), (10, .int .i64 ((0 : Nat) : Int))] ⟨rfl, rfl, rfl, rfl, rfl, trivial⟩ ?_
  refine XC.loopI (I := fun (kk : Nat) (ff : FL) (hh : Heap) => ∃ (j : Nat) (out : Value), kk = l.length - j ∧ ff = [(1, .func (.func f_f) f_a f_b), (5, out), (8, v0), (9, .int .i64 ((l.length : Nat) : Int)), (10, .int .i64 ((j : Nat) : Int))] ∧ After (entry h) hh ∧ After (entry h) hh ∧ Goes (entry h) S hh (ownB out ++ S) ∧ GrowR hh (ownB out ++ S) (entry h).next 22 true (.sl (.int .i64)) out ((l.take j).map F) ∧ (j ≤ l.length)) ?_ _ _ _ ⟨0, .slice none 0 0, rfl, rfl, hA, After.refl _, Goes.refl, (GrowR.nil), (by omega)⟩
  clear hA
  rintro kk ff hh101 ⟨j, out, hk101, rfl, hA, aL101, nL101, g_out101, hj⟩
  replace ha0 := ha0.nx nL101
  refine XC.seq ?_
  refine XC.text ?_
  refine XO.c (.lss rfl rfl) rfl rfl ?_
  refine XO.nil (thenC.go ?_)
  refine XC.seq ?_
  refine XC.condD rfl (fun c3 => ?_) (fun c3 => ?_)
  · refine XC.skip (thenC.go ?_)
    refine XC.seq ?_
    refine XC.block ?_
    refine XC.seq ?_
    refine XC.text ?_
    refine XO.c (.indexAddr rfl rfl rfl (ha0.ix (j := j) el45 (by omega))) rfl rfl ?_
    obtain ⟨u102, e102, r102⟩ := ((ha0.at (j := j) (by omega))).ldV vt172
    obtain ⟨c103_0, c103_1, rfl, r103_0, r103_1⟩ := r102.st2 rfl rfl
    replace r103_0 := r103_0.sl
    replace r103_1 := r103_1.sl
    refine XO.r (.load rfl (e102)) rfl rfl ?_
    refine XO.allocP (S := (ownB out ++ S)) (z := .agg #[.slice none 0 0, .slice none 0 0]) (by kernel_rfl) rfl rfl aL101 hkL101 (g_out101.inS (hA.ok hok) (hA.inS hS)) rfl rfl ?_
    intro p104 h104 b104 a104 gs104
    have ok105 := hA.ok hok
    have gg105 : Goes hh101 (ownB out ++ S) h104 (ownP p104 ++ (ownB out ++ S)) := gs104
    replace hA := hA.trans a104
    replace aL101 := aL101.trans a104
    replace nL101 := nL101.trans gg105
    replace ha0 := ha0.nx gg105
    replace r103_0 := r103_0.nx gg105
    replace r103_1 := r103_1.nx gg105
    replace g_out101 := g_out101.up a104 ok105 gg105 (fun b hb => by simp [hb])
    refine XO.stP (S := (ownB out ++ S)) (h0 := (entry h)) (τ := (.pair (.sl (.int .i64)) (.sl (.int .i64)))) rfl rfl b104 (RepV.mk2 (a := (.sl (.int .i64))) (b := (.sl (.int .i64))) (x := l[j]) (r103_0).rep (r103_1).rep rfl rfl) vt172 aL101 ?_
    intro h106 b106 a106 gs106 nx106 fr106
    have ok107 := hA.ok hok
    have gg107 : Goes h104 (ownP p104 ++ (ownB out ++ S)) h106 (ownB out ++ S) := gs106
    replace hA := hAL101.trans a106
    replace aL101 := a106
    replace nL101 := nL101.trans gg107
    replace ha0 := ha0.nx gg107
    replace r103_0 := r103_0.nx gg107
    replace r103_1 := r103_1.nx gg107
    replace g_out101 := g_out101.chg (fun b hb => fr106 b (by simp [hb])) gg107 (fun b hb => by simp [hb])
    refine XO.nil (thenC.go ?_)
    refine XC.text ?_
    refine XO.c (.move rfl) rfl rfl ?_
    refine XO.c (.move rfl) rfl rfl ?_
    obtain ⟨u108, e108, r108⟩ := (b106).ldV vt172
    obtain ⟨c109_0, c109_1, rfl, r109_0, r109_1⟩ := r108.st2 rfl rfl
    replace r109_0 := r109_0.sl
    replace r109_1 := r109_1.sl
    refine XO.r (.load rfl (e108)) rfl rfl ?_
    refine XO.call rfl rfl rfl rfl ?_
    refine EvF.mono (hf (hA.ok hok) (g_out101.inS (hA.ok hok) (hA.inS hS)) (RepV.mk2 (a := (.sl (.int .i64))) (b := (.sl (.int .i64))) (x := l[j]) (r109_0).rep (r109_1).rep rfl rfl) hA.ofEntry (List.getElem_mem _)) ?_
    rintro u110 h110 ⟨a110, s110⟩
    have ok111 := hA.ok hok
    have gg111 : Goes h106 (ownB out ++ S) h110 (ownB out ++ S) := a110.nx ok111
    replace hA := hA.trans a110
    replace aL101 := aL101.trans a110
    replace nL101 := nL101.trans gg111
    replace ha0 := ha0.nx gg111
    replace r103_0 := r103_0.nx gg111
    replace r103_1 := r103_1.nx gg111
    replace b106 := b106.nx gg111
    replace r109_0 := r109_0.nx gg111
    replace r109_1 := r109_1.nx gg111
    replace g_out101 := g_out101.up a110 ok111 gg111 (fun b hb => by simp [hb])
    refine XO.pushR (S0 := S) (h0 := (entry h)) el185 el185 rfl rfl g_out101 (s110).rep aL101 hkL101 (hA.inS hS) (by simp; omega) (by decide) rfl rfl rfl ?_
    intro out112 h112 g112 a112 n112 l112
    have ok113 := hA.ok hok
    have gg113 : Goes h110 (ownB out ++ S) h112 (ownB out112 ++ S) := n112
    replace hA := hAL101.trans a112
    replace aL101 := a112
    replace nL101 := nL101.trans gg113
    replace ha0 := ha0.nx gg113
    replace r103_0 := r103_0.nx gg113
    replace r103_1 := r103_1.nx gg113
    replace b106 := b106.nx gg113
    replace r109_0 := r109_0.nx gg113
    replace r109_1 := r109_1.nx gg113
    replace s110 := s110.nx gg113
    refine XO.c (.assign rfl) rfl rfl ?_
    refine XO.nil ?_
    intro tf htf
    refine inBlock_nrm ?_
    refine thenC.go ?_ tf htf
    refine XC.text ?_
    refine XO.c (.add rfl rfl (by omega)) rfl rfl ?_
    refine XO.c (.move rfl) rfl rfl ?_
    refine XO.nil ?_
    intro tf htf
    refine ⟨rfl, rfl, _, [(1, .func (.func f_f) f_a f_b), (5, out112), (8, v0), (9, .int .i64 ((l.length : Nat) : Int)), (10, .int .i64 (((j + 1) : Nat) : Int))], ?_, htf.keep _ ⟨rfl, rfl, rfl, rfl, rfl, trivial⟩, (j + 1), out112, rfl, rfl, hA, aL101, nL101, (by rw [List.take_succ_eq_append_getElem (by omega), List.map_append]; exact g112), (by omega)⟩
    omega
  · refine XC.exit ?_
    intro tf htf
    refine thenC_exit ?_
    refine loopQ_exit ?_
    refine inBlock_eq ?_
    refine thenC.go ?_ tf htf
    refine XC.seq ?_
    refine XC.text ?_
    refine XO.c (.move rfl) rfl rfl ?_
    refine XO.c (.assign rfl) rfl rfl ?_
    refine XO.nil (thenC.go ?_)
    refine XC.ret fun tf htf => ?_
    have s114 := g_out101.shut hSL101
    have gg114 : Goes hh101 (ownB out ++ S) hh101 S := nx_own
    replace ha0 := ha0.nx gg114
    refine endF.one rfl rfl (htf 4 _ rfl) ?_
    refine ⟨hA.left _, ?_⟩
    have hw := (s114).ret hA
    rw [List.take_of_length_le (by omega)] at hw; exact hw
theorem flat_le {α : Type} {l : List (List α)} (j : Nat) : (l.take j).flatten.length ≤ l.flatten.length := by
  have : l.flatten = (l.take j).flatten ++ (l.drop j).flatten := by rw [← List.flatten_append, List.take_append_drop]
  rw [this, List.length_append]; omega
theorem flat_succ {α : Type} {l : List (List α)} {j : Nat} (hj : j < l.length) : (l.take (j + 1)).flatten = (l.take j).flatten ++ l[j] := by
  rw [List.take_succ_eq_append_getElem hj, List.flatten_append]; simp
theorem zConcat_ok {h : Heap} {S : List Nat} {v0 : Value} {l : List (List Int)} (hok : HOk h) (hS : ∀ b ∈ S, b < h.next) (ha0 : SlV h S (.sl (.int .i64)) v0 l) (hl : l.length < 100000) (h0 : 0 < l.flatten.length) (h1 : l.flatten.length ≤ 1000000) : EvF Tryz.prog OA 103 [v0] h fun r h' => After h h' ∧ SlV h' S (.int .i64) r l.flatten := by
  refine XF.enter Tryz.func103 rfl rfl rfl ?_
  have hok : HOk (entry h) := hok
  have hA := After.refl (entry h)
  replace ha0 := ha0.entry
  show XC Tryz.prog OA none _ _ [] [(0, v0)] (entry h) _
  refine XC.seq ?_
  refine XC.text ?_
  refine XO.c (.assign rfl) rfl rfl ?_
  refine XO.nil (thenC.go ?_)
  refine XC.seq ?_
  refine XC.text ?_
  refine XO.c (.assign rfl) rfl rfl ?_
  refine XO.nil (thenC.go ?_)
  refine XC.seq ?_
  refine XC.seq ?_
  refine XC.text ?_
  refine XO.c (.move rfl) rfl rfl ?_
  refine XO.a (.len rfl (ha0.len el185)) rfl rfl ?_
  refine XO.c (.move rfl) rfl rfl ?_
  refine XO.nil (thenC.go ?_)
  refine XC.block ?_
  have hAL115 := hA
  have hkL115 := hA.ok hok
  have hSL115 := (hA.inS hS)
  refine XC.keep [(0, v0), (3, .int .i64 (((l.take 0).flatten.length : Nat) : Int)), (9, v0), (10, .int .i64 ((l.length : Nat) : Int)), (11, .int .i64 ((0 : Nat) : Int))] ⟨rfl, (congrArg (fun z => some z) (by rfl)), rfl, rfl, rfl, trivial⟩ ?_
  refine XC.loopI (I := fun (kk : Nat) (ff : FL) (hh : Heap) => ∃ (j : Nat), kk = l.length - j ∧ ff = [(0, v0), (3, .int .i64 (((l.take j).flatten.length : Nat) : Int)), (9, v0), (10, .int .i64 ((l.length : Nat) : Int)), (11, .int .i64 ((j : Nat) : Int))] ∧ After (entry h) hh ∧ After (entry h) hh ∧ Goes (entry h) S hh S ∧ (j ≤ l.length)) ?_ _ _ _ ⟨0, rfl, rfl, hA, After.refl _, Goes.refl, (by omega)⟩
  clear hA
  rintro kk ff hh115 ⟨j, hk115, rfl, hA, aL115, nL115, hj⟩
  replace ha0 := ha0.nx nL115
  refine XC.seq ?_
  refine XC.text ?_
  refine XO.c (.lss rfl rfl) rfl rfl ?_
  refine XO.nil (thenC.go ?_)
  refine XC.seq ?_
  refine XC.condD rfl (fun c3 => ?_) (fun c3 => ?_)
  · refine XC.skip (thenC.go ?_)
    refine XC.seq ?_
    refine XC.block ?_
    refine XC.seq ?_
    refine XC.text ?_
    refine XO.c (.indexAddr rfl rfl rfl (ha0.ix (j := j) el185 (by omega))) rfl rfl ?_
    obtain ⟨u116, e116, s116⟩ := ((ha0.at (j := j) (by omega))).ldSl vt22
    refine XO.r (.load rfl (e116)) rfl rfl ?_
    refine XO.c (.assign rfl) rfl rfl ?_
    refine XO.nil (thenC.go ?_)
    refine XC.seq ?_
    refine XC.text ?_
    have hs := flat_le (l := l) (j + 1)
    rw [flat_succ (by omega), List.length_append] at hs
    refine XO.c (.move rfl) rfl rfl ?_
    refine XO.c (.move rfl) rfl rfl ?_
    refine XO.a (.len rfl (s116.len el22)) rfl rfl ?_
    refine XO.c (.add rfl rfl (by omega)) rfl rfl ?_
    refine XO.c (.assign rfl) rfl rfl ?_
    refine XO.nil (thenC.go ?_)
    refine XC.seq ?_
    refine XC.text ?_
    refine XO.c (.move rfl) rfl rfl ?_
    refine XO.c (.lss rfl rfl) rfl rfl ?_
    refine XO.nil (thenC.go ?_)
    refine XC.condD rfl (fun c6 => ?_) (fun c6 => ?_)
    · exact absurd c6 (by omega)
    · refine XC.skip ?_
      intro tf htf
      refine inBlock_nrm ?_
      refine thenC.go ?_ tf htf
      refine XC.text ?_
      refine XO.c (.add rfl rfl (by omega)) rfl rfl ?_
      refine XO.c (.move rfl) rfl rfl ?_
      refine XO.nil ?_
      intro tf htf
      refine ⟨rfl, rfl, _, [(0, v0), (3, .int .i64 (((l.take (j + 1)).flatten.length : Nat) : Int)), (9, v0), (10, .int .i64 ((l.length : Nat) : Int)), (11, .int .i64 (((j + 1) : Nat) : Int))], ?_, htf.keep _ ⟨rfl, (congrArg (fun z => some z) (by rw [flat_succ (by omega), List.length_append]; rfl)), rfl, rfl, rfl, trivial⟩, (j + 1), rfl, rfl, hA, aL115, nL115, (by omega)⟩
      omega
  · refine XC.exit ?_
    intro tf htf
    refine thenC_exit ?_
    refine loopQ_exit ?_
    refine inBlock_eq ?_
    refine thenC.go ?_ tf htf
    refine XC.seq ?_
    refine XC.text ?_
    have hjl : l.take j = l := List.take_of_length_le (by omega)
    refine XO.c (.move rfl) rfl rfl ?_
    refine XO.call rfl rfl rfl rfl ?_
    refine EvF.mono (zGrow_ok (S := S) (hA.ok hok) (hA.inS hS)  (by rw [hjl]; exact h0) (by rw [hjl]; exact h1)) ?_
    rintro r117 h117 ⟨a117, g117⟩
    have n117 := g117.goes (S := S) a117 (hA.ok hok)
    replace g117 := g117.weak hA.next
    have ok118 := hA.ok hok
    have gg118 : Goes hh115 S h117 (ownB r117 ++ S) := n117
    replace hA := hA.trans a117
    replace ha0 := ha0.nx gg118
    refine XO.c (.assign rfl) rfl rfl ?_
    refine XO.nil (thenC.go ?_)
    refine XC.seq ?_
    refine XC.seq ?_
    refine XC.text ?_
    refine XO.c (.move rfl) rfl rfl ?_
    refine XO.a (.len rfl (ha0.len el185)) rfl rfl ?_
    refine XO.c (.move rfl) rfl rfl ?_
    refine XO.nil (thenC.go ?_)
    refine XC.block ?_
    have hAL119 := hA
    have hkL119 := hA.ok hok
    have hSL119 := (g117.inS (hA.ok hok) (hA.inS hS))
    have g117L119 := g117
    refine XC.keep [(6, r117), (25, v0), (26, .int .i64 ((l.length : Nat) : Int)), (27, .int .i64 ((0 : Nat) : Int))] ⟨rfl, rfl, rfl, rfl, trivial⟩ ?_
    refine XC.loopI (I := fun (kk : Nat) (ff : FL) (hh : Heap) => ∃ (i : Nat) (out : Value), kk = l.length - i ∧ ff = [(6, out), (25, v0), (26, .int .i64 ((l.length : Nat) : Int)), (27, .int .i64 ((i : Nat) : Int))] ∧ After (entry h) hh ∧ True ∧ Goes h117 (ownB r117 ++ S) hh (ownB out ++ S) ∧ CapR hh (ownB out ++ S) (entry h).next 3 ((l.take j).flatten.length) (.int .i64) out ((l.take i).flatten) ∧ (i ≤ l.length)) ?_ _ _ _ ⟨0, r117, rfl, rfl, hA, trivial, Goes.refl, (by exact g117), (by omega)⟩
    clear hA
    rintro kk ff hh119 ⟨i, out, hk119, rfl, hA, _, nL119, g_out119, hi⟩
    replace ha0 := ha0.nx nL119
    refine XC.seq ?_
    refine XC.text ?_
    refine XO.c (.lss rfl rfl) rfl rfl ?_
    refine XO.nil (thenC.go ?_)
    refine XC.seq ?_
    refine XC.condD rfl (fun c11 => ?_) (fun c11 => ?_)
    · refine XC.skip (thenC.go ?_)
      refine XC.seq ?_
      refine XC.block ?_
      refine XC.seq ?_
      refine XC.text ?_
      refine XO.c (.indexAddr rfl rfl rfl (ha0.ix (j := i) el185 (by omega))) rfl rfl ?_
      obtain ⟨u120, e120, s120⟩ := ((ha0.at (j := i) (by omega))).ldSl vt22
      refine XO.r (.load rfl (e120)) rfl rfl ?_
      refine XO.c (.assign rfl) rfl rfl ?_
      refine XO.nil (thenC.go ?_)
      refine XC.text ?_
      have hs := flat_le (l := l) (i + 1)
      rw [flat_succ (by omega), List.length_append] at hs
      refine XO.c (.move rfl) rfl rfl ?_
      refine XO.c (.move rfl) rfl rfl ?_
      obtain ⟨out121, h121, e121, g121, a121, n121⟩ := CapR.all (S0 := S) (h0 := (entry h)) el22 el22 g_out119 s120 hA (by rw [hjl]; exact hs) (by rw [hjl]; exact h1)
      refine XO.mk (.append rfl rfl e121) rfl rfl ?_
      have ok122 := hA.ok hok
      have gg122 : Goes hh119 (ownB out ++ S) h121 (ownB out121 ++ S) := n121
      replace hA := a121
      replace nL119 := nL119.trans gg122
      replace ha0 := ha0.nx gg122
      replace s120 := s120.nx gg122
      refine XO.c (.assign rfl) rfl rfl ?_
      refine XO.nil ?_
      intro tf htf
      refine inBlock_nrm ?_
      refine thenC.go ?_ tf htf
      refine XC.text ?_
      refine XO.c (.add rfl rfl (by omega)) rfl rfl ?_
      refine XO.c (.move rfl) rfl rfl ?_
      refine XO.nil ?_
      intro tf htf
      refine ⟨rfl, rfl, _, [(6, out121), (25, v0), (26, .int .i64 ((l.length : Nat) : Int)), (27, .int .i64 (((i + 1) : Nat) : Int))], ?_, htf.keep _ ⟨rfl, rfl, rfl, rfl, trivial⟩, (i + 1), out121, rfl, rfl, hA, trivial, nL119, (by rw [flat_succ (by omega)]; exact g121), (by omega)⟩
      omega
    · refine XC.exit ?_
      intro tf htf
      refine thenC_exit ?_
      refine loopQ_exit ?_
      refine inBlock_eq ?_
      refine thenC.go ?_ tf htf
      refine XC.seq ?_
      refine XC.text ?_
      refine XO.c (.move rfl) rfl rfl ?_
      refine XO.c (.assign rfl) rfl rfl ?_
      refine XO.nil (thenC.go ?_)
      refine XC.ret fun tf htf => ?_
      have s123 := g_out119.shut hS
      have gg123 : Goes hh119 (ownB out ++ S) hh119 S := nx_own
      replace ha0 := ha0.nx gg123
      refine endF.one rfl rfl (htf 2 _ rfl) ?_
      refine ⟨hA.left _, ?_⟩
      have hw := (s123).ret hA
      rw [List.take_of_length_le (by omega)] at hw; exact hw
def learnE (l : List (List Int × List Int)) : Int × Int := hullE (l.map devE).flatten
theorem flat_bound {α : Type} {m : Nat} : ∀ {L : List (List α)}, (∀ x ∈ L, x.length ≤ m) → L.flatten.length ≤ L.length * m
  | [], _ => by simp
  | x :: L, h => by
    have h1 := h x List.mem_cons_self
    have h2 := flat_bound (L := L) fun y hy => h y (List.mem_cons_of_mem _ hy)
    rw [List.flatten_cons, List.length_append, List.length_cons, Nat.add_mul]
    omega
theorem learn_top {l : List (List Int × List Int)} (h : OkNs l) : (l.map devE).flatten.length ≤ 6144 := by
  have h1 : (l.map devE).flatten.length ≤ (l.map devE).length * 96 := flat_bound fun x hx => by
    obtain ⟨c, hc, rfl⟩ := List.mem_map.1 hx
    have := (h.all c hc).top
    have := (h.all c hc).len
    rw [devE_len]; omega
  have := h.top
  rw [List.length_map] at h1
  have := Nat.mul_le_mul_right 96 h.top
  omega
theorem learn_pos {l : List (List Int × List Int)} (h : OkNs l) : 0 < (l.map devE).flatten.length := by
  have hp := h.pos
  cases l with
  | nil => simp at hp
  | cons c l =>
    have hc := h.all c List.mem_cons_self
    have := hc.pos
    have := hc.len
    rw [List.map_cons, List.flatten_cons, List.length_append, devE_len]
    omega
theorem sLearn_ok {h : Heap} {S : List Nat} {v0 : Value} {l : List ((List Int) × (List Int))} (hok : HOk h) (hS : ∀ b ∈ S, b < h.next) (ha0 : SlV h S (.pair (.sl (.int .i64)) (.sl (.int .i64))) v0 l) (hl : ∀ c ∈ l, c.1.length < 100000 ∧ c.2.length < 100000) : EvF Tryz.prog OA 27 [v0] h fun r h' => r = .tuple #[.agg #[.int .i64 ((if nightsE l = 0 then learnE l else (0, 0)).1), .int .i64 ((if nightsE l = 0 then learnE l else (0, 0)).2)], .int .i64 (nightsE l)] ∧ h' = h := by
  refine XF.enter Tryz.func27 rfl rfl rfl ?_
  have hok : HOk (entry h) := hok
  have hA := After.refl (entry h)
  replace ha0 := ha0.entry
  show XC Tryz.prog OA none _ _ [] [(0, v0)] (entry h) _
  refine XC.seq ?_
  refine XC.text ?_
  refine XO.allocB (z := .agg #[.int .i64 0, .int .i64 0]) (by kernel_rfl) rfl rfl hA hok rfl rfl ?_
  intro p124 h124 b124 a124 gs124
  have ok125 := hA.ok hok
  have gg125 : Goes (entry h) S h124 (ownP p124 ++ S) := gs124 _
  replace hA := hA.trans a124
  replace ha0 := ha0.nx gg125
  refine XO.c (.assign rfl) rfl rfl ?_
  refine XO.nil (thenC.go ?_)
  refine XC.seq ?_
  refine XC.seq ?_
  refine XC.text ?_
  refine XO.c (.move rfl) rfl rfl ?_
  refine XO.call rfl rfl rfl rfl ?_
  refine EvF.mono (sNights_ok (hA.ok hok) (b124.inS (hA.ok hok) (hA.inS hS)) ha0 (by first | assumption | omega)) ?_
  rintro _ _ ⟨rfl, hh⟩
  obtain rfl := hh.symm
  clear hh
  refine XO.c (.assign rfl) rfl rfl ?_
  refine XO.nil (thenC.go ?_)
  refine XC.seq ?_
  refine XC.text ?_
  refine XO.c (.move rfl) rfl rfl ?_
  refine XO.c (.neq rfl rfl) rfl rfl ?_
  refine XO.nil (thenC.go ?_)
  refine XC.condD rfl (fun c2 => ?_) (fun c2 => ?_)
  · refine XC.seq ?_
    refine XC.text ?_
    refine XO.c (.build (vs := []) (v := .agg #[.int .i64 0, .int .i64 0]) rfl rfl (by kernel_rfl) (by kernel_rfl)) rfl rfl ?_
    refine XO.c (.move rfl) rfl rfl ?_
    obtain ⟨h127, e127, b127, a127, n127, nn127, fr127, lw127⟩ := b124.st0 (S := S) (h0 := entry h) (u := .agg #[.int .i64 0, .int .i64 0]) vt41 rfl rfl (by decide) (One.oneAll ⟨⟨rfl, rfl⟩, ⟨⟨rfl, rfl⟩, trivial⟩⟩) hA (show HOk h124 from hA.ok hok)
    refine XO.st rfl rfl e127 ?_
    have ok128 := hA.ok hok
    have gg128 : Goes h124 (ownP p124 ++ S) h127 (ownP p124 ++ S) := n127
    replace hA := a127
    replace ha0 := ha0.nx gg128
    refine XO.c (.assign rfl) rfl rfl ?_
    refine XO.nil (thenC.go ?_)
    refine XC.ret fun tf htf => ?_
    refine thenC_ret ?_
    refine endF.cellTwo rfl rfl (htf 2 _ rfl) (b127.ldA vt41 rfl rfl) (htf 3 _ rfl) ?_
    refine ⟨?_, hA.leftAf rfl⟩
    refine congrArg Value.tuple ?_
    refine tup2 (by rw [if_neg c2]; rfl) (congrArg (Value.int .i64) (by rfl))
  · have hB : nightsE l = 0 := Decidable.not_not.1 c2
    have hN := nightsE_ok hB
    have ht := hN.top
    have hlt := learn_top hN
    have hlp := learn_pos hN
    refine XC.skip (thenC.go ?_)
    refine XC.seq ?_
    refine XC.text ?_
    refine XO.c (.move rfl) rfl rfl ?_
    refine XO.call rfl rfl rfl rfl ?_
    refine EvF.mono (sMapNL_ok (hA.ok hok) (b124.inS (hA.ok hok) (hA.inS hS)) ha0 (F := devE) (by omega) (fun a b r _ m => sDev_ok a b r (hN.all _ m))) ?_
    rintro u129 h129 ⟨a129, s129⟩
    have ok130 := hA.ok hok
    have gg130 : Goes h124 (ownP p124 ++ S) h129 (ownP p124 ++ S) := a129.nx ok130
    replace hA := hA.trans a129
    replace ha0 := ha0.nx gg130
    replace b124 := b124.keep a129 ok130
    refine XO.call rfl rfl rfl rfl ?_
    refine EvF.mono (zConcat_ok (hA.ok hok) (b124.inS (hA.ok hok) (hA.inS hS)) s129 (by simp; omega) hlp (by omega)) ?_
    rintro u131 h131 ⟨a131, s131⟩
    have ok132 := hA.ok hok
    have gg132 : Goes h129 (ownP p124 ++ S) h131 (ownP p124 ++ S) := a131.nx ok132
    replace hA := hA.trans a131
    replace ha0 := ha0.nx gg132
    replace s129 := s129.nx gg132
    replace b124 := b124.keep a131 ok132
    refine XO.call rfl rfl rfl rfl ?_
    refine EvF.mono (sHull_ok (hA.ok hok) (b124.inS (hA.ok hok) (hA.inS hS)) s131 hlp (by omega)) ?_
    rintro _ _ ⟨rfl, hh⟩
    obtain rfl := hh.symm
    clear hh
    obtain ⟨h134, e134, b134, a134, n134, nn134, fr134, lw134⟩ := b124.st0 (S := S) (h0 := entry h) (u := .agg #[.int .i64 ((hullE ((l.map devE).flatten)).1), .int .i64 ((hullE ((l.map devE).flatten)).2)]) vt41 rfl rfl (by decide) (One.oneAll ⟨⟨rfl, rfl⟩, ⟨⟨rfl, rfl⟩, trivial⟩⟩) hA (show HOk h131 from hA.ok hok)
    refine XO.st rfl rfl e134 ?_
    have ok135 := hA.ok hok
    have gg135 : Goes h131 (ownP p124 ++ S) h134 (ownP p124 ++ S) := n134
    replace hA := a134
    replace ha0 := ha0.nx gg135
    replace s129 := s129.nx gg135
    replace s131 := s131.nx gg135
    refine XO.c (.assign rfl) rfl rfl ?_
    refine XO.nil (thenC.go ?_)
    refine XC.ret fun tf htf => ?_
    refine endF.cellTwo rfl rfl (htf 2 _ rfl) (b134.ldA vt41 rfl rfl) (htf 3 _ rfl) ?_
    refine ⟨?_, hA.leftAf rfl⟩
    refine congrArg Value.tuple ?_
    refine tup2 (by rw [if_pos hB]; rfl) (congrArg (Value.int .i64) (by exact hB.symm))
def outE (b : Int × Int) (c : List Int × List Int) : Bool := (devE c).any fun x => decide (x < b.1) || decide (b.2 < x)
def verE (l : List (List Int × List Int)) (b : Int × Int) (n : Nat) : List Int := ((List.range n).filter fun i => outE b (l.getD i ([], []))).map fun i : Nat => (i : Int)
theorem verE_succ {l : List (List Int × List Int)} {b : Int × Int} {j : Nat} (hj : j < l.length) : verE l b (j + 1) = if outE b l[j] = true then verE l b j ++ [(j : Int)] else verE l b j := by
  unfold verE
  rw [List.range_succ, List.filter_append, List.map_append, List.filter_cons, List.filter_nil, List.getD_eq_getElem?_getD, List.getElem?_eq_getElem hj, Option.getD_some]
  split <;> simp
theorem minE_lt {L : List Int} {a : Int} (h : 0 < L.length) : minE L < a ↔ ∃ x ∈ L, x < a := by
  have key : ∀ (l : List Int) (b : Int), l.foldl min b < a ↔ b < a ∨ ∃ x ∈ l, x < a := by
    intro l
    induction l with
    | nil => simp
    | cons x l ih =>
      intro b
      rw [List.foldl_cons, ih, show (∃ y ∈ x :: l, y < a) ↔ x < a ∨ ∃ y ∈ l, y < a from by simp, ← or_assoc]
      exact or_congr (by omega) Iff.rfl
  cases L with
  | nil => simp at h
  | cons x L =>
    unfold minE
    rw [key]
    simp
theorem maxE_gt {L : List Int} {a : Int} (h : 0 < L.length) : a < maxE L ↔ ∃ x ∈ L, a < x := by
  have key : ∀ (l : List Int) (b : Int), a < l.foldl max b ↔ a < b ∨ ∃ x ∈ l, a < x := by
    intro l
    induction l with
    | nil => simp
    | cons x l ih =>
      intro b
      rw [List.foldl_cons, ih, show (∃ y ∈ x :: l, a < y) ↔ a < x ∨ ∃ y ∈ l, a < y from by simp, ← or_assoc]
      exact or_congr (by omega) Iff.rfl
  cases L with
  | nil => simp at h
  | cons x L =>
    unfold maxE
    rw [key]
    simp
theorem outE_hull {b : Int × Int} {c : List Int × List Int} (h : OkN c) : (outE b c = true) ↔ ((hullE (devE c)).1 < b.1 ∨ b.2 < (hullE (devE c)).2) := by
  have hp : 0 < (devE c).length := by rw [devE_len]; have := h.pos; have := h.len; omega
  rw [show (hullE (devE c)).1 = minE (devE c) from rfl, show (hullE (devE c)).2 = maxE (devE c) from rfl, minE_lt hp, maxE_gt hp, outE, List.any_eq_true]
  constructor
  · rintro ⟨x, hx, h1⟩
    rcases Bool.or_eq_true_iff.1 h1 with h1 | h1
    · exact .inl ⟨x, hx, of_decide_eq_true h1⟩
    · exact .inr ⟨x, hx, of_decide_eq_true h1⟩
  · rintro (⟨x, hx, h1⟩ | ⟨x, hx, h1⟩)
    · exact ⟨x, hx, by simp [h1]⟩
    · exact ⟨x, hx, by simp [h1]⟩
def verB (l : List (List Int × List Int)) (b : Int × Int) : Int := firstE [nightsE l, boundsE b]
theorem verB_ok {l : List (List Int × List Int)} {b : Int × Int} (h : verB l b = 0) : OkNs l ∧ OkB b := by
  rw [verB, firstE_zero] at h
  exact ⟨nightsE_ok (h _ (by simp)), boundsE_ok (h _ (by simp))⟩
theorem verE_len (l : List (List Int × List Int)) (b : Int × Int) (n : Nat) : (verE l b n).length ≤ n := by
  unfold verE
  rw [List.length_map]
  have := List.length_filter_le (fun i => outE b (l.getD i ([], []))) (List.range n)
  simpa using this
theorem sVerify_ok {h : Heap} {S : List Nat} {v0 : Value} {l : List ((List Int) × (List Int))} {b : Int × Int} (hok : HOk h) (hS : ∀ b ∈ S, b < h.next) (ha0 : SlV h S (.pair (.sl (.int .i64)) (.sl (.int .i64))) v0 l) (hl : ∀ c ∈ l, c.1.length < 100000 ∧ c.2.length < 100000) : EvF Tryz.prog OA 29 [v0, .agg #[.int .i64 b.1, .int .i64 b.2]] h fun r h' => After h h' ∧ ∃ r0, r = .tuple #[r0, .int .i64 (verB l b)] ∧ SlV h' S (.int .i64) r0 (if verB l b = 0 then verE l b l.length else []) := by
  refine XF.enter Tryz.func29 rfl rfl rfl ?_
  have hok : HOk (entry h) := hok
  have hA := After.refl (entry h)
  replace ha0 := ha0.entry
  show XC Tryz.prog OA none _ _ [] [(0, v0), (1, .agg #[.int .i64 b.1, .int .i64 b.2])] (entry h) _
  refine XC.seq ?_
  refine XC.text ?_
  refine XO.boxR rfl (RepV.mk2 (a := (.int .i64)) (b := (.int .i64)) (x := b) (RepV.ofInt .i64 _) (RepV.ofInt .i64 _) rfl rfl) (hA.ok hok) (hA.inS hS) rfl rfl ?_
  intro p136 h136 b136 a136
  have ok137 := hA.ok hok
  have gg137 : Goes (entry h) S h136 S := a136.nx ok137
  replace hA := hA.trans a136
  replace ha0 := ha0.nx gg137
  refine XO.c (.assign rfl) rfl rfl ?_
  refine XO.c (.assign rfl) rfl rfl ?_
  refine XO.nil (thenC.go ?_)
  refine XC.seq ?_
  refine XC.seq ?_
  refine XC.drawn ?_
  have hkr138 := hA.ok hok
  have hSr138 := (hA.inS hS)
  refine XD.c (b := 0) (.move rfl) rfl rfl rfl ?_
  refine XD.callV (bb := 1) (After.refl _) SegsOk.nil rfl rfl rfl rfl rfl rfl ?_
  intro M139 aM139 oM139
  refine EvF.mono (sNights_ok (aM139.ok hkr138) (aM139.inS hSr138) (ha0.nx (aM139.nx hkr138)) (by first | assumption | omega)) ?_
  rintro _ _ ⟨rfl, hh⟩
  refine ⟨hh, ?_⟩
  clear hh
  obtain ⟨u140, e140, r140⟩ := (b136).ldV vt41
  obtain ⟨c141_0, c141_1, rfl, r141_0, r141_1⟩ := r140.st2 rfl rfl
  obtain rfl := r141_0.int
  obtain rfl := r141_1.int
  refine XD.ld (b := 0) (After.refl _) (SegsOk.cons ((After.refl _)).next SegsOk.nil) hkr138 rfl (e140) rfl rfl rfl rfl ?_
  refine XD.callV (bb := 7) (After.refl _) (SegsOk.cons ((After.refl _)).next (SegsOk.cons ((After.refl _)).next SegsOk.nil)) rfl rfl rfl rfl rfl rfl ?_
  intro M142 aM142 oM142
  refine EvF.mono (sBounds_ok (aM142.ok hkr138) (aM142.inS hSr138)  ) ?_
  rintro _ _ ⟨rfl, hh⟩
  refine ⟨hh, ?_⟩
  clear hh
  refine XD.lit (b := 15) (h := h136) (S := S) (τ := (.int .i64)) (vsC (RepV.ofInt .i64 _) (vs1 (RepV.ofInt .i64 _))) el179 rfl rfl rfl (by simp) (by simp) (by decide) (hA.ok hok) (hA.inS hS) rfl rfl rfl rfl ?_
  intro w143 h143 s143 a143
  have ha0o := ha0
  have b136o := b136
  have rg138 : Goes h136 S h136 S := Goes.refl
  have ra138 := After.refl h136
  have ok144 := hA.ok hok
  have gg144 : Goes h136 S h143 S := a143.nx ok144
  replace hA := hA.trans a143
  replace ha0 := ha0.nx gg144
  replace b136 := b136.nx gg144
  replace rg138 := rg138.trans gg144
  have ra138_143 := ra138.trans a143
  refine XD.callV (bb := 31) ra138_143 (SegsOk.cons (ra138).next (SegsOk.cons ((After.refl _)).next (SegsOk.cons ((After.refl _)).next (SegsOk.cons ((After.refl _)).next SegsOk.nil)))) rfl rfl rfl rfl rfl rfl ?_
  intro M145 aM145 oM145
  obtain rfl := oM145 rfl
  refine EvF.mono (sFirst_ok (hA.ok hok) (hA.inS hS) (s143).entry (by simp)) ?_
  rintro _ _ ⟨rfl, hh⟩
  refine ⟨hh, ?_⟩
  clear hh
  refine XD.c (b := 63) (.assign rfl) rfl rfl rfl ?_
  refine XD.nil (thenC.go ?_)
  refine XC.seq ?_
  refine XC.text ?_
  refine XO.c (.move rfl) rfl rfl ?_
  refine XO.c (.neq rfl rfl) rfl rfl ?_
  refine XO.nil (thenC.go ?_)
  refine XC.condD rfl (fun c2 => ?_) (fun c2 => ?_)
  · refine XC.seq ?_
    refine XC.text ?_
    refine XO.c (.move rfl) rfl rfl ?_
    refine XO.c (.assign rfl) rfl rfl ?_
    refine XO.c (.assign rfl) rfl rfl ?_
    refine XO.nil (thenC.go ?_)
    refine XC.ret fun tf htf => ?_
    refine thenC_ret ?_
    refine endF.two rfl rfl (htf 4 _ rfl) (htf 5 _ rfl) ?_
    have hw0 := ((SlV.nil (h := h143) (S := S) (τ := (.int .i64)))).retT (vs := #[(.slice none 0 0), (.int .i64 (firstE ([nightsE l, boundsE b])))]) hA (by simp)
    refine ⟨hA.left _, (.slice none 0 0), ?_, ?_⟩
    · refine congrArg Value.tuple ?_
      refine tup2 rfl (congrArg (Value.int .i64) (by rfl))
    · exact if_neg c2 ▸ hw0
  · have hB : verB l b = 0 := Decidable.not_not.1 c2
    have hN := (verB_ok hB).1
    have ht := hN.top
    refine XC.skip (thenC.go ?_)
    refine XC.seq ?_
    refine XC.text ?_
    refine XO.c (.assign rfl) rfl rfl ?_
    refine XO.nil (thenC.go ?_)
    refine XC.seq ?_
    refine XC.seq ?_
    refine XC.text ?_
    refine XO.c (.move rfl) rfl rfl ?_
    refine XO.a (.len rfl (ha0.len el45)) rfl rfl ?_
    refine XO.c (.move rfl) rfl rfl ?_
    refine XO.nil (thenC.go ?_)
    refine XC.block ?_
    have hAL146 := hA
    have hkL146 := hA.ok hok
    have hSL146 := (hA.inS hS)
    refine XC.keep [(3, p136), (7, .slice none 0 0), (20, v0), (21, .int .i64 ((l.length : Nat) : Int)), (22, .int .i64 ((0 : Nat) : Int))] ⟨rfl, rfl, rfl, rfl, rfl, trivial⟩ ?_
    refine XC.loopI (I := fun (kk : Nat) (ff : FL) (hh : Heap) => ∃ (j : Nat) (out : Value), kk = l.length - j ∧ ff = [(3, p136), (7, out), (20, v0), (21, .int .i64 ((l.length : Nat) : Int)), (22, .int .i64 ((j : Nat) : Int))] ∧ After (entry h) hh ∧ After h143 hh ∧ Goes h143 S hh (ownB out ++ S) ∧ GrowR hh (ownB out ++ S) h143.next 3 true (.int .i64) out (verE l b j) ∧ (j ≤ l.length)) ?_ _ _ _ ⟨0, .slice none 0 0, rfl, rfl, hA, After.refl _, Goes.refl, (GrowR.nil), (by omega)⟩
    clear hA
    rintro kk ff hh146 ⟨j, out, hk146, rfl, hA, aL146, nL146, g_out146, hj⟩
    replace ha0 := ha0.nx nL146
    replace b136 := b136.nx nL146
    replace s143 := s143.nx nL146
    refine XC.seq ?_
    refine XC.text ?_
    refine XO.c (.lss rfl rfl) rfl rfl ?_
    refine XO.nil (thenC.go ?_)
    refine XC.seq ?_
    refine XC.condD rfl (fun c6 => ?_) (fun c6 => ?_)
    · refine XC.skip (thenC.go ?_)
      refine XC.seq ?_
      refine XC.block ?_
      refine XC.seq ?_
      refine XC.text ?_
      refine XO.c (.move rfl) rfl rfl ?_
      refine XO.c (.indexAddr rfl rfl rfl (ha0.ix (j := j) el45 (by omega))) rfl rfl ?_
      obtain ⟨u147, e147, r147⟩ := ((ha0.at (j := j) (by omega))).ldV vt172
      obtain ⟨c148_0, c148_1, rfl, r148_0, r148_1⟩ := r147.st2 rfl rfl
      replace r148_0 := r148_0.sl
      replace r148_1 := r148_1.sl
      refine XO.r (.load rfl (e147)) rfl rfl ?_
      refine XO.allocP (S := (ownB out ++ S)) (z := .agg #[.slice none 0 0, .slice none 0 0]) (by kernel_rfl) rfl rfl aL146 hkL146 (g_out146.inS (hA.ok hok) (hA.inS hS)) rfl rfl ?_
      intro p149 h149 b149 a149 gs149
      have ok150 := hA.ok hok
      have gg150 : Goes hh146 (ownB out ++ S) h149 (ownP p149 ++ (ownB out ++ S)) := gs149
      replace hA := hA.trans a149
      replace aL146 := aL146.trans a149
      replace nL146 := nL146.trans gg150
      replace ha0 := ha0.nx gg150
      replace b136 := b136.nx gg150
      replace s143 := s143.nx gg150
      replace r148_0 := r148_0.nx gg150
      replace r148_1 := r148_1.nx gg150
      replace g_out146 := g_out146.up a149 ok150 gg150 (fun b hb => by simp [hb])
      refine XO.c (.assign rfl) rfl rfl ?_
      refine XO.stP (S := (ownB out ++ S)) (h0 := h143) (τ := (.pair (.sl (.int .i64)) (.sl (.int .i64)))) rfl rfl b149 (RepV.mk2 (a := (.sl (.int .i64))) (b := (.sl (.int .i64))) (x := l[j]) (r148_0).rep (r148_1).rep rfl rfl) vt172 aL146 ?_
      intro h151 b151 a151 gs151 nx151 fr151
      have ok152 := hA.ok hok
      have gg152 : Goes h149 (ownP p149 ++ (ownB out ++ S)) h151 (ownB out ++ S) := gs151
      replace hA := hAL146.trans a151
      replace aL146 := a151
      replace nL146 := nL146.trans gg152
      replace ha0 := ha0.nx gg152
      replace b136 := b136.nx gg152
      replace s143 := s143.nx gg152
      replace r148_0 := r148_0.nx gg152
      replace r148_1 := r148_1.nx gg152
      replace g_out146 := g_out146.chg (fun b hb => fr151 b (by simp [hb])) gg152 (fun b hb => by simp [hb])
      refine XO.nil (thenC.go ?_)
      refine XC.seq ?_
      refine XC.text ?_
      have hO := hN.all _ (List.getElem_mem (show j < l.length by omega))
      have ho1 := hO.pos
      have ho2 := hO.len
      have ho3 := hO.top
      have hv := verE_len l b j
      obtain ⟨u153, e153, r153⟩ := (b151).ldV vt172
      obtain ⟨c154_0, c154_1, rfl, r154_0, r154_1⟩ := r153.st2 rfl rfl
      replace r154_0 := r154_0.sl
      replace r154_1 := r154_1.sl
      refine XO.r (.load rfl (e153)) rfl rfl ?_
      refine XO.call rfl rfl rfl rfl ?_
      refine EvF.mono (sDev_ok (hA.ok hok) (g_out146.inS (hA.ok hok) (hA.inS hS)) (RepV.mk2 (a := (.sl (.int .i64))) (b := (.sl (.int .i64))) (x := l[j]) (r154_0).rep (r154_1).rep rfl rfl) hO) ?_
      rintro u155 h155 ⟨a155, s155⟩
      have ok156 := hA.ok hok
      have gg156 : Goes h151 (ownB out ++ S) h155 (ownB out ++ S) := a155.nx ok156
      replace hA := hA.trans a155
      replace aL146 := aL146.trans a155
      replace nL146 := nL146.trans gg156
      replace ha0 := ha0.nx gg156
      replace b136 := b136.nx gg156
      replace s143 := s143.nx gg156
      replace r148_0 := r148_0.nx gg156
      replace r148_1 := r148_1.nx gg156
      replace b151 := b151.nx gg156
      replace r154_0 := r154_0.nx gg156
      replace r154_1 := r154_1.nx gg156
      replace g_out146 := g_out146.up a155 ok156 gg156 (fun b hb => by simp [hb])
      refine XO.call rfl rfl rfl rfl ?_
      refine EvF.mono (sHull_ok (hA.ok hok) (g_out146.inS (hA.ok hok) (hA.inS hS)) s155 (by rw [devE_len]; omega) (by rw [devE_len]; omega)) ?_
      rintro _ _ ⟨rfl, hh⟩
      obtain rfl := hh.symm
      clear hh
      refine XO.allocP (S := (ownB out ++ S)) (z := .agg #[.int .i64 0, .int .i64 0]) (by kernel_rfl) rfl rfl aL146 hkL146 (g_out146.inS (hA.ok hok) (hA.inS hS)) rfl rfl ?_
      intro p158 h158 b158 a158 gs158
      have ok159 := hA.ok hok
      have gg159 : Goes h155 (ownB out ++ S) h158 (ownP p158 ++ (ownB out ++ S)) := gs158
      replace hA := hA.trans a158
      replace aL146 := aL146.trans a158
      replace nL146 := nL146.trans gg159
      replace ha0 := ha0.nx gg159
      replace b136 := b136.nx gg159
      replace s143 := s143.nx gg159
      replace r148_0 := r148_0.nx gg159
      replace r148_1 := r148_1.nx gg159
      replace b151 := b151.nx gg159
      replace r154_0 := r154_0.nx gg159
      replace r154_1 := r154_1.nx gg159
      replace s155 := s155.nx gg159
      replace g_out146 := g_out146.up a158 ok159 gg159 (fun b hb => by simp [hb])
      refine XO.stP (S := (ownB out ++ S)) (h0 := h143) (τ := (.pair (.int .i64) (.int .i64))) rfl rfl b158 (RepV.mk2 (a := (.int .i64)) (b := (.int .i64)) (x := hullE (devE (l[j]))) (RepV.ofInt .i64 _) (RepV.ofInt .i64 _) rfl rfl) vt41 aL146 ?_
      intro h160 b160 a160 gs160 nx160 fr160
      have ok161 := hA.ok hok
      have gg161 : Goes h158 (ownP p158 ++ (ownB out ++ S)) h160 (ownB out ++ S) := gs160
      replace hA := hAL146.trans a160
      replace aL146 := a160
      replace nL146 := nL146.trans gg161
      replace ha0 := ha0.nx gg161
      replace b136 := b136.nx gg161
      replace s143 := s143.nx gg161
      replace r148_0 := r148_0.nx gg161
      replace r148_1 := r148_1.nx gg161
      replace b151 := b151.nx gg161
      replace r154_0 := r154_0.nx gg161
      replace r154_1 := r154_1.nx gg161
      replace s155 := s155.nx gg161
      replace g_out146 := g_out146.chg (fun b hb => fr160 b (by simp [hb])) gg161 (fun b hb => by simp [hb])
      refine XO.nil (thenC.go ?_)
      refine XC.seq ?_
      refine XC.text ?_
      refine XO.c (.fieldAddr rfl ((b160).fa (f := 0) (k := 0) (by kernel_rfl))) rfl rfl ?_
      refine XO.r (.load rfl (((b160).base.fst').ldInt vt3)) rfl rfl ?_
      refine XO.c (.fieldAddr rfl ((b136).fa (f := 0) (k := 0) (by kernel_rfl))) rfl rfl ?_
      refine XO.r (.load rfl (((b136).base.fst').ldInt vt3)) rfl rfl ?_
      refine XO.c (.lss rfl rfl) rfl rfl ?_
      refine XO.c (.move rfl) rfl rfl ?_
      refine XO.splitD (x := 35) rfl (fun g9_5 => ?_) (fun g9_5 => ?_)
      · refine XO.skip rfl rfl rfl rfl rfl ?_
        refine XO.skip rfl rfl rfl rfl rfl ?_
        refine XO.skip rfl rfl rfl rfl rfl ?_
        refine XO.skip rfl rfl rfl rfl rfl ?_
        refine XO.skip rfl rfl rfl rfl rfl ?_
        refine XO.c (.pickT rfl rfl) rfl rfl ?_
        refine XO.nil (thenC.go ?_)
        refine XC.condT rfl ?_
        refine XC.text ?_
        refine XO.c (.move rfl) rfl rfl ?_
        refine XO.c (.move rfl) rfl rfl ?_
        refine XO.pushR (S0 := S) (h0 := h143) el22 el22 rfl rfl g_out146 (RepV.ofInt .i64 _) aL146 hkL146 (hA.inS hS) (by omega) (by decide) rfl rfl rfl ?_
        intro out162 h162 g162 a162 n162 l162
        have ok163 := hA.ok hok
        have gg163 : Goes h160 (ownB out ++ S) h162 (ownB out162 ++ S) := n162
        replace hA := hAL146.trans a162
        replace aL146 := a162
        replace nL146 := nL146.trans gg163
        replace ha0 := ha0.nx gg163
        replace b136 := b136.nx gg163
        replace s143 := s143.nx gg163
        replace r148_0 := r148_0.nx gg163
        replace r148_1 := r148_1.nx gg163
        replace b151 := b151.nx gg163
        replace r154_0 := r154_0.nx gg163
        replace r154_1 := r154_1.nx gg163
        replace s155 := s155.nx gg163
        replace b160 := b160.nx gg163
        refine XO.c (.assign rfl) rfl rfl ?_
        refine XO.nil ?_
        intro tf htf
        refine inBlock_nrm ?_
        refine thenC.go ?_ tf htf
        refine XC.text ?_
        refine XO.c (.add rfl rfl (by omega)) rfl rfl ?_
        refine XO.c (.move rfl) rfl rfl ?_
        refine XO.nil ?_
        intro tf htf
        refine ⟨rfl, rfl, _, [(3, p136), (7, out162), (20, v0), (21, .int .i64 ((l.length : Nat) : Int)), (22, .int .i64 (((j + 1) : Nat) : Int))], ?_, htf.keep _ ⟨rfl, rfl, rfl, rfl, rfl, trivial⟩, (j + 1), out162, rfl, rfl, hA, aL146, nL146, (by rw [verE_succ (by omega)]; first | (rw [if_pos ((outE_hull hO).2 (by omega))]; exact g162) | (rw [if_neg (fun h => by have := (outE_hull hO).1 h; omega)]; exact g162)), (by omega)⟩
        omega
      · refine XO.gc rfl rfl rfl (.fieldAddr rfl ((b160).fa (f := 1) (k := 1) (by kernel_rfl))) rfl rfl ?_
        refine XO.gr rfl rfl rfl (.load rfl ((((b160).base.snd' (m := 1) rfl (b160).isP)).ldInt vt3)) rfl rfl ?_
        refine XO.gc rfl rfl rfl (.fieldAddr rfl ((b136).fa (f := 1) (k := 1) (by kernel_rfl))) rfl rfl ?_
        refine XO.gr rfl rfl rfl (.load rfl ((((b136).base.snd' (m := 1) rfl (b136).isP)).ldInt vt3)) rfl rfl ?_
        refine XO.gc rfl rfl rfl (.gtr rfl rfl) rfl rfl ?_
        refine XO.c (.pickF rfl rfl) rfl rfl ?_
        refine XO.nil (thenC.go ?_)
        refine XC.condD rfl (fun c9 => ?_) (fun c9 => ?_)
        · refine XC.text ?_
          refine XO.c (.move rfl) rfl rfl ?_
          refine XO.c (.move rfl) rfl rfl ?_
          refine XO.pushR (S0 := S) (h0 := h143) el22 el22 rfl rfl g_out146 (RepV.ofInt .i64 _) aL146 hkL146 (hA.inS hS) (by omega) (by decide) rfl rfl rfl ?_
          intro out164 h164 g164 a164 n164 l164
          have ok165 := hA.ok hok
          have gg165 : Goes h160 (ownB out ++ S) h164 (ownB out164 ++ S) := n164
          replace hA := hAL146.trans a164
          replace aL146 := a164
          replace nL146 := nL146.trans gg165
          replace ha0 := ha0.nx gg165
          replace b136 := b136.nx gg165
          replace s143 := s143.nx gg165
          replace r148_0 := r148_0.nx gg165
          replace r148_1 := r148_1.nx gg165
          replace b151 := b151.nx gg165
          replace r154_0 := r154_0.nx gg165
          replace r154_1 := r154_1.nx gg165
          replace s155 := s155.nx gg165
          replace b160 := b160.nx gg165
          refine XO.c (.assign rfl) rfl rfl ?_
          refine XO.nil ?_
          intro tf htf
          refine inBlock_nrm ?_
          refine thenC.go ?_ tf htf
          refine XC.text ?_
          refine XO.c (.add rfl rfl (by omega)) rfl rfl ?_
          refine XO.c (.move rfl) rfl rfl ?_
          refine XO.nil ?_
          intro tf htf
          refine ⟨rfl, rfl, _, [(3, p136), (7, out164), (20, v0), (21, .int .i64 ((l.length : Nat) : Int)), (22, .int .i64 (((j + 1) : Nat) : Int))], ?_, htf.keep _ ⟨rfl, rfl, rfl, rfl, rfl, trivial⟩, (j + 1), out164, rfl, rfl, hA, aL146, nL146, (by rw [verE_succ (by omega)]; first | (rw [if_pos ((outE_hull hO).2 (by omega))]; exact g164) | (rw [if_neg (fun h => by have := (outE_hull hO).1 h; omega)]; exact g164)), (by omega)⟩
          omega
        · refine XC.skip ?_
          intro tf htf
          refine inBlock_nrm ?_
          refine thenC.go ?_ tf htf
          refine XC.text ?_
          refine XO.c (.add rfl rfl (by omega)) rfl rfl ?_
          refine XO.c (.move rfl) rfl rfl ?_
          refine XO.nil ?_
          intro tf htf
          refine ⟨rfl, rfl, _, [(3, p136), (7, out), (20, v0), (21, .int .i64 ((l.length : Nat) : Int)), (22, .int .i64 (((j + 1) : Nat) : Int))], ?_, htf.keep _ ⟨rfl, rfl, rfl, rfl, rfl, trivial⟩, (j + 1), out, rfl, rfl, hA, aL146, nL146, (by rw [verE_succ (by omega)]; first | (rw [if_pos ((outE_hull hO).2 (by omega))]; exact g_out146) | (rw [if_neg (fun h => by have := (outE_hull hO).1 h; omega)]; exact g_out146)), (by omega)⟩
          omega
    · refine XC.exit ?_
      intro tf htf
      refine thenC_exit ?_
      refine loopQ_exit ?_
      refine inBlock_eq ?_
      refine thenC.go ?_ tf htf
      refine XC.seq ?_
      refine XC.text ?_
      refine XO.c (.move rfl) rfl rfl ?_
      refine XO.c (.assign rfl) rfl rfl ?_
      refine XO.c (.assign rfl) rfl rfl ?_
      refine XO.nil (thenC.go ?_)
      refine XC.ret fun tf htf => ?_
      have s166 := g_out146.shut hSL146
      have gg166 : Goes hh146 (ownB out ++ S) hh146 S := nx_own
      replace ha0 := ha0.nx gg166
      replace b136 := b136.nx gg166
      replace s143 := s143.nx gg166
      refine endF.two rfl rfl (htf 4 _ rfl) (htf 5 _ rfl) ?_
      have hw0 := (s166).retT (vs := #[out, (.int .i64 (0 : Int))]) hA (by simp)
      refine ⟨hA.left _, out, ?_, ?_⟩
      · refine congrArg Value.tuple ?_
        refine tup2 rfl (congrArg (Value.int .i64) (by exact hB.symm))
      · rw [show j = l.length by omega] at hw0; exact if_pos hB ▸ hw0
end Go.Proofs
namespace Go.Proofs
open Go.Fs
set_option linter.unusedVariables false
theorem vt88 : ValT Tryz.prog 88 (.pair (.sl (.int .i64)) (.sl (.int .i64))) := valT_of (by kernel_rfl)
theorem low_succ {f : Int → Int → Int} {x0 : Int} {l : List (List Int × List Int)} {i : Nat} (hi : i < l.length) : (((l.take (i + 1)).map devE).flatten).foldl f x0 = (devE l[i]).foldl f ((((l.take i).map devE).flatten).foldl f x0) := by
  rw [List.take_succ_eq_append_getElem hi, List.map_append, List.flatten_append, List.foldl_append]
  simp
theorem headD_app {a b : List Int} (h : 0 < a.length) : (a ++ b).headD 0 = a[0] := by
  cases a with
  | nil => simp at h
  | cons x a => rfl
theorem learn_head {l : List (List Int × List Int)} (hp : 0 < l.length) (h1 : 0 < l[0].1.length) (h2 : 0 < l[0].2.length) : (l.map devE).flatten.headD 0 = l[0].2[0] - l[0].1[0] := by
  cases l with
  | nil => simp at hp
  | cons c l =>
    simp only [List.getElem_cons_zero] at h1 h2 ⊢
    have h3 : 0 < (devE c).length := by rw [devE_len]; exact h2
    rw [← devE_get h1 h2, List.map_cons, List.flatten_cons]
    exact headD_app h3
theorem rLearn_ok {h : Heap} {S : List Nat} {v0 : Value} {l : List ((List Int) × (List Int))} (hok : HOk h) (hS : ∀ b ∈ S, b < h.next) (ha0 : SlV h S (.pair (.sl (.int .i64)) (.sl (.int .i64))) v0 l) (hN : OkNs l) : EvF Tryz.prog OA 32 [v0] h fun r h' => r = .agg #[.int .i64 ((learnE l).1), .int .i64 ((learnE l).2)] ∧ h' = h := by
  refine XF.enter Tryz.func32 rfl rfl rfl ?_
  have hok : HOk (entry h) := hok
  have hA := After.refl (entry h)
  replace ha0 := ha0.entry
  show XC Tryz.prog OA none _ _ [] [(0, v0)] (entry h) _
  refine XC.seq ?_
  refine XC.text ?_
  have hp := hN.pos
  have ht := hN.top
  have hO0 := hN.all _ (List.getElem_mem hN.pos)
  have h01 := hO0.pos
  have h02 := hO0.len
  have h03 : -1048576 ≤ l[0].1[0] ∧ l[0].1[0] ≤ 1048576 := hO0.all1 _ (List.getElem_mem h01)
  have h04 : -1048576 ≤ l[0].2[0] ∧ l[0].2[0] ≤ 1048576 := hO0.all2 _ (List.getElem_mem (by omega))
  refine XO.allocB (z := .agg #[.int .i64 0, .int .i64 0]) (by kernel_rfl) rfl rfl hA hok rfl rfl ?_
  intro p101 h101 b101 a101 gs101
  have ok102 := hA.ok hok
  have gg102 : Goes (entry h) S h101 (ownP p101 ++ S) := gs101 _
  replace hA := hA.trans a101
  replace ha0 := ha0.nx gg102
  refine XO.nil (thenC.go ?_)
  refine XC.seq ?_
  refine XC.drawn ?_
  have hkr103 := hA.ok hok
  have hSr103 := (b101.inS (hA.ok hok) (hA.inS hS))
  refine XD.c (b := 0) (.move rfl) rfl rfl rfl ?_
  refine XD.c (b := 1) (.indexAddr rfl rfl rfl (ha0.ix (j := 0) el39 (by omega))) rfl rfl rfl ?_
  refine XD.c (b := 3) (.fieldAddr rfl (((ha0.at (j := 0) (by omega))).fa (f := 1) (k := 1) (by kernel_rfl))) rfl rfl rfl ?_
  obtain ⟨u104, e104, s104⟩ := ((((ha0.at (j := 0) (by omega))).base.snd' (m := 1) rfl ((ha0.at (j := 0) (by omega))).isP)).ldSl vt22
  refine XD.ld (b := 7) (After.refl _) SegsOk.nil hkr103 rfl (e104) rfl rfl rfl rfl ?_
  refine XD.c (b := 15) (.indexAddr rfl rfl rfl (s104.ix (j := 0) el22 (by omega))) rfl rfl rfl ?_
  refine XD.ld (b := 31) (After.refl _) (SegsOk.cons ((After.refl _)).next SegsOk.nil) hkr103 rfl (((s104.at (j := 0) (by omega))).ldInt vt3) rfl rfl rfl rfl ?_
  refine XD.c (b := 0) (.move rfl) rfl rfl rfl ?_
  refine XD.c (b := 64) (.indexAddr rfl rfl rfl (ha0.ix (j := 0) el39 (by omega))) rfl rfl rfl ?_
  refine XD.c (b := 192) (.fieldAddr rfl (((ha0.at (j := 0) (by omega))).fa (f := 0) (k := 0) (by kernel_rfl))) rfl rfl rfl ?_
  obtain ⟨u105, e105, s105⟩ := (((ha0.at (j := 0) (by omega))).base.fst').ldSl vt22
  refine XD.ld (b := 448) (After.refl _) (SegsOk.cons ((After.refl _)).next (SegsOk.cons ((After.refl _)).next SegsOk.nil)) hkr103 rfl (e105) rfl rfl rfl rfl ?_
  refine XD.c (b := 960) (.indexAddr rfl rfl rfl (s105.ix (j := 0) el22 (by omega))) rfl rfl rfl ?_
  refine XD.ld (b := 1984) (After.refl _) (SegsOk.cons ((After.refl _)).next (SegsOk.cons ((After.refl _)).next (SegsOk.cons ((After.refl _)).next SegsOk.nil))) hkr103 rfl (((s105.at (j := 0) (by omega))).ldInt vt3) rfl rfl rfl rfl ?_
  refine XD.c (b := 4095) (.sub rfl rfl (by omega)) rfl rfl rfl ?_
  refine XD.c (b := 8191) (.assign rfl) rfl rfl rfl ?_
  refine XD.nil (thenC.go ?_)
  refine XC.seq ?_
  refine XC.text ?_
  refine XO.c (.move rfl) rfl rfl ?_
  refine XO.c (.move rfl) rfl rfl ?_
  refine XO.c (.buildS (vs := [.int .i64 (((l[0]).2)[0] - ((l[0]).1)[0]), .int .i64 (((l[0]).2)[0] - ((l[0]).1)[0])]) ⟨⟨rfl, rfl⟩, ⟨⟨rfl, rfl⟩, trivial⟩⟩ (by kernel_rfl) rfl) rfl rfl ?_
  have iq106 := (b101.inS (hA.ok hok) (hA.inS hS))
  refine XO.allocF (z := .agg #[.int .i64 0, .int .i64 0]) (by kernel_rfl) rfl rfl hA hok rfl rfl ?_
  intro p106 h106 b106 a106 gs106 fq106
  have dj106_0 := apart (q := ownP p101) fq106 (fun b hb => iq106 b (by simp [hb]))
  have ok107 := hA.ok hok
  have gg107 : Goes h101 (ownP p101 ++ S) h106 (ownP p106 ++ (ownP p101 ++ S)) := gs106 _
  replace hA := hA.trans a106
  replace ha0 := ha0.nx gg107
  replace s104 := s104.nx gg107
  replace s105 := s105.nx gg107
  replace b101 := b101.keep a106 ok107
  obtain ⟨h108, e108, b108, a108, n108, nn108, fr108, lw108⟩ := b106.st0 (S := (ownP p101 ++ S)) (h0 := entry h) (u := .agg #[.int .i64 (((l[0]).2)[0] - ((l[0]).1)[0]), .int .i64 (((l[0]).2)[0] - ((l[0]).1)[0])]) vt41 rfl rfl (Nat.le_of_ble_eq_true rfl) (One.oneAll ⟨⟨rfl, rfl⟩, ⟨⟨rfl, rfl⟩, trivial⟩⟩) hA (show HOk h106 from hA.ok hok)
  refine XO.st rfl rfl e108 ?_
  have ok109 := hA.ok hok
  have gg109 : Goes h106 (ownP p106 ++ (ownP p101 ++ S)) h108 (ownP p106 ++ (ownP p101 ++ S)) := n108
  replace hA := a108
  replace ha0 := ha0.nx gg109
  replace s104 := s104.nx gg109
  replace s105 := s105.nx gg109
  replace b101 := b101.chg fun b hb => fr108 b (fun hm => dj106_0 b hm hb)
  refine XO.nil (thenC.go ?_)
  refine XC.seq ?_
  refine XC.seq ?_
  refine XC.text ?_
  refine XO.c (.assign rfl) rfl rfl ?_
  refine XO.nil (thenC.go ?_)
  refine XC.block ?_
  have hAL110 := hA
  have hkL110 := hA.ok hok
  have hSL110 := (b108.inS (hA.ok hok) (b101.inS (hA.ok hok) (hA.inS hS)))
  have b108L110 := b108
  have b101L110 := b101
  refine XC.keep [(0, v0), (2, p101), (4, p106), (5, .int .i64 ((0 : Nat) : Int))] ⟨rfl, rfl, rfl, rfl, trivial⟩ ?_
  refine XC.loopI (I := fun (kk : Nat) (ff : FL) (hh : Heap) => ∃ (i : Nat), kk = l.length - i ∧ ff = [(0, v0), (2, p101), (4, p106), (5, .int .i64 ((i : Nat) : Int))] ∧ After (entry h) hh ∧ True ∧ Goes h108 (ownP p106 ++ (ownP p101 ++ S)) hh (ownP p106 ++ (ownP p101 ++ S)) ∧ BoxR hh (entry h).next p106 [.int .i64 ((((l.take i).map devE).flatten).foldl min (l[0].2[0] - l[0].1[0])), .int .i64 ((((l.take i).map devE).flatten).foldl max (l[0].2[0] - l[0].1[0]))] ∧ BoxR hh (entry h).next p101 [.int .i64 0, .int .i64 0] ∧ (i ≤ l.length)) ?_ _ _ _ ⟨0, rfl, rfl, hA, trivial, Goes.refl, (by exact b108), (by exact b101), (by omega)⟩
  clear hA
  rintro kk ff hh110 ⟨i, hk110, rfl, hA, _, nL110, gx_4_110, gx_k0_110, hi⟩
  replace ha0 := ha0.nx nL110
  replace s104 := s104.nx nL110
  replace s105 := s105.nx nL110
  refine XC.seq ?_
  refine XC.seq ?_
  refine XC.text ?_
  refine XO.c (.move rfl) rfl rfl ?_
  refine XO.c (.move rfl) rfl rfl ?_
  refine XO.a (.len rfl (ha0.len el39)) rfl rfl ?_
  refine XO.c (.lss rfl rfl) rfl rfl ?_
  refine XO.nil (thenC.go ?_)
  refine XC.condD rfl (fun c4 => ?_) (fun c4 => ?_)
  · refine XC.skip (thenC.go ?_)
    refine XC.seq ?_
    refine XC.block ?_
    refine XC.seq ?_
    refine XC.text ?_
    have hO := hN.all _ (List.getElem_mem (show i < l.length by omega))
    have hO1 := hO.len
    have hO3 := hO.top
    refine XO.c (.assign rfl) rfl rfl ?_
    refine XO.nil (thenC.go ?_)
    refine XC.block ?_
    have hAL111 := hA
    have hkL111 := hA.ok hok
    have hSL111 := (gx_4_110.inS (hA.ok hok) (gx_k0_110.inS (hA.ok hok) (hA.inS hS)))
    have gx_4_110L111 := gx_4_110
    have gx_k0_110L111 := gx_k0_110
    refine XC.keep [(0, v0), (2, p101), (4, p106), (5, .int .i64 ((i : Nat) : Int)), (6, .int .i64 ((0 : Nat) : Int))] ⟨rfl, rfl, rfl, rfl, rfl, trivial⟩ ?_
    refine XC.loopI (I := fun (kk : Nat) (ff : FL) (hh : Heap) => ∃ (t : Nat), kk = l[i].1.length - t ∧ ff = [(0, v0), (2, p101), (4, p106), (5, .int .i64 ((i : Nat) : Int)), (6, .int .i64 ((t : Nat) : Int))] ∧ After (entry h) hh ∧ True ∧ Goes hh110 (ownP p106 ++ (ownP p101 ++ S)) hh (ownP p106 ++ (ownP p101 ++ S)) ∧ BoxR hh (entry h).next p106 [.int .i64 (((devE l[i]).take t).foldl min ((((l.take i).map devE).flatten).foldl min (l[0].2[0] - l[0].1[0]))), .int .i64 (((devE l[i]).take t).foldl max ((((l.take i).map devE).flatten).foldl max (l[0].2[0] - l[0].1[0])))] ∧ BoxR hh (entry h).next p101 [.int .i64 0, .int .i64 0] ∧ (t ≤ l[i].1.length)) ?_ _ _ _ ⟨0, rfl, rfl, hA, trivial, Goes.refl, (by exact gx_4_110), (by exact gx_k0_110), (by omega)⟩
    clear hA
    rintro kk ff hh111 ⟨t, hk111, rfl, hA, _, nL111, gx_4_111, gx_k0_111, ht⟩
    replace nL110 := nL110.trans nL111
    replace ha0 := ha0.nx nL111
    replace s104 := s104.nx nL111
    replace s105 := s105.nx nL111
    refine XC.seq ?_
    refine XC.seq ?_
    refine XC.text ?_
    refine XO.c (.move rfl) rfl rfl ?_
    refine XO.c (.move rfl) rfl rfl ?_
    refine XO.c (.move rfl) rfl rfl ?_
    refine XO.c (.indexAddr rfl rfl rfl (ha0.ix (j := i) el39 (by omega))) rfl rfl ?_
    refine XO.c (.fieldAddr rfl (((ha0.at (j := i) (by omega))).fa (f := 0) (k := 0) (by kernel_rfl))) rfl rfl ?_
    obtain ⟨u112, e112, s112⟩ := (((ha0.at (j := i) (by omega))).base.fst').ldSl vt22
    refine XO.r (.load rfl (e112)) rfl rfl ?_
    refine XO.a (.len rfl (s112.len el22)) rfl rfl ?_
    refine XO.c (.lss rfl rfl) rfl rfl ?_
    refine XO.nil (thenC.go ?_)
    refine XC.condD rfl (fun c7 => ?_) (fun c7 => ?_)
    · refine XC.skip (thenC.go ?_)
      refine XC.seq ?_
      refine XC.block ?_
      refine XC.seq ?_
      refine XC.drawn ?_
      have hkr113 := hA.ok hok
      have hSr113 := (gx_4_111.inS (hA.ok hok) (gx_k0_111.inS (hA.ok hok) (hA.inS hS)))
      have b1 := hO.all1 _ (List.getElem_mem (show t < l[i].1.length by omega))
      have b2 := hO.all2 _ (List.getElem_mem (show t < l[i].2.length by omega))
      refine XD.c (b := 0) (.move rfl) rfl rfl rfl ?_
      refine XD.c (b := 0) (.move rfl) rfl rfl rfl ?_
      refine XD.c (b := 3) (.indexAddr rfl rfl rfl (ha0.ix (j := i) el39 (by omega))) rfl rfl rfl ?_
      refine XD.c (b := 7) (.fieldAddr rfl (((ha0.at (j := i) (by omega))).fa (f := 1) (k := 1) (by kernel_rfl))) rfl rfl rfl ?_
      obtain ⟨u114, e114, s114⟩ := ((((ha0.at (j := i) (by omega))).base.snd' (m := 1) rfl ((ha0.at (j := i) (by omega))).isP)).ldSl vt22
      refine XD.ld (b := 15) (After.refl _) SegsOk.nil hkr113 rfl (e114) rfl rfl rfl rfl ?_
      refine XD.c (b := 0) (.move rfl) rfl rfl rfl ?_
      refine XD.c (b := 63) (.indexAddr rfl rfl rfl (s114.ix (j := t) el22 (by omega))) rfl rfl rfl ?_
      refine XD.ld (b := 127) (After.refl _) (SegsOk.cons ((After.refl _)).next SegsOk.nil) hkr113 rfl (((s114.at (j := t) (by omega))).ldInt vt3) rfl rfl rfl rfl ?_
      refine XD.c (b := 0) (.move rfl) rfl rfl rfl ?_
      refine XD.c (b := 0) (.move rfl) rfl rfl rfl ?_
      refine XD.c (b := 768) (.indexAddr rfl rfl rfl (ha0.ix (j := i) el39 (by omega))) rfl rfl rfl ?_
      refine XD.c (b := 1792) (.fieldAddr rfl (((ha0.at (j := i) (by omega))).fa (f := 0) (k := 0) (by kernel_rfl))) rfl rfl rfl ?_
      obtain ⟨u115, e115, s115⟩ := (((ha0.at (j := i) (by omega))).base.fst').ldSl vt22
      refine XD.ld (b := 3840) (After.refl _) (SegsOk.cons ((After.refl _)).next (SegsOk.cons ((After.refl _)).next SegsOk.nil)) hkr113 rfl (e115) rfl rfl rfl rfl ?_
      refine XD.c (b := 0) (.move rfl) rfl rfl rfl ?_
      refine XD.c (b := 16128) (.indexAddr rfl rfl rfl (s115.ix (j := t) el22 (by omega))) rfl rfl rfl ?_
      refine XD.ld (b := 32512) (After.refl _) (SegsOk.cons ((After.refl _)).next (SegsOk.cons ((After.refl _)).next (SegsOk.cons ((After.refl _)).next SegsOk.nil))) hkr113 rfl (((s115.at (j := t) (by omega))).ldInt vt3) rfl rfl rfl rfl ?_
      refine XD.c (b := 65535) (.sub rfl rfl (by omega)) rfl rfl rfl ?_
      refine XD.c (b := 131071) (.assign rfl) rfl rfl rfl ?_
      refine XD.nil (thenC.go ?_)
      refine XC.text ?_
      refine XO.c (.fieldAddr rfl (gx_4_111.fa (f := 0) (k := 0) (by kernel_rfl))) rfl rfl ?_
      refine XO.r (.load rfl (gx_4_111.ld1 vt3 rfl rfl)) rfl rfl ?_
      refine XO.c (.move rfl) rfl rfl ?_
      refine XO.a (.min rfl rfl) rfl rfl ?_
      refine XO.c (.fieldAddr rfl (gx_4_111.fa (f := 1) (k := 1) (by kernel_rfl))) rfl rfl ?_
      refine XO.r (.load rfl (gx_4_111.ld1 vt3 rfl rfl)) rfl rfl ?_
      refine XO.c (.move rfl) rfl rfl ?_
      refine XO.a (.max rfl rfl) rfl rfl ?_
      refine XO.c (.fieldAddr rfl (gx_4_111.fa (f := 0) (k := 0) (by kernel_rfl))) rfl rfl ?_
      obtain ⟨h116, e116, b116, a116, n116, nn116, fr116, lw116⟩ := gx_4_111.st (k := 0) (S := (ownP p101 ++ S)) (h0 := entry h) (u := .int .i64 (min (((devE l[i]).take t).foldl min ((((l.take i).map devE).flatten).foldl min (l[0].2[0] - l[0].1[0]))) (((l[i]).2)[t] - ((l[i]).1)[t]))) vt3 rfl rfl (Nat.le_of_ble_eq_true rfl) (One.oneAll ⟨⟨rfl, rfl⟩, trivial⟩) hA (show HOk hh111 from hA.ok hok)
      refine XO.st rfl rfl e116 ?_
      have ok117 := hA.ok hok
      have gg117 : Goes hh111 (ownP p106 ++ (ownP p101 ++ S)) h116 (ownP p106 ++ (ownP p101 ++ S)) := n116
      replace hA := a116
      replace nL110 := nL110.trans gg117
      replace nL111 := nL111.trans gg117
      replace ha0 := ha0.nx gg117
      replace s104 := s104.nx gg117
      replace s105 := s105.nx gg117
      replace s112 := s112.nx gg117
      replace s114 := s114.nx gg117
      replace s115 := s115.nx gg117
      replace gx_k0_111 := gx_k0_111.chg fun b hb => fr116 b (fun hm => dj106_0 b hm hb)
      refine XO.c (.fieldAddr rfl (b116.fa (f := 1) (k := 1) (by kernel_rfl))) rfl rfl ?_
      obtain ⟨h118, e118, b118, a118, n118, nn118, fr118, lw118⟩ := b116.st (k := 1) (S := (ownP p101 ++ S)) (h0 := entry h) (u := .int .i64 (max (((devE l[i]).take t).foldl max ((((l.take i).map devE).flatten).foldl max (l[0].2[0] - l[0].1[0]))) (((l[i]).2)[t] - ((l[i]).1)[t]))) vt3 rfl rfl (Nat.le_of_ble_eq_true rfl) (One.oneAll ⟨⟨rfl, rfl⟩, trivial⟩) hA (show HOk h116 from hA.ok hok)
      refine XO.st rfl rfl e118 ?_
      have ok119 := hA.ok hok
      have gg119 : Goes h116 (ownP p106 ++ (ownP p101 ++ S)) h118 (ownP p106 ++ (ownP p101 ++ S)) := n118
      replace hA := a118
      replace nL110 := nL110.trans gg119
      replace nL111 := nL111.trans gg119
      replace ha0 := ha0.nx gg119
      replace s104 := s104.nx gg119
      replace s105 := s105.nx gg119
      replace s112 := s112.nx gg119
      replace s114 := s114.nx gg119
      replace s115 := s115.nx gg119
      replace gx_k0_111 := gx_k0_111.chg fun b hb => fr118 b (fun hm => dj106_0 b hm hb)
      refine XO.nil ?_
      intro tf htf
      refine inBlock_nrm ?_
      refine thenC.go ?_ tf htf
      refine XC.text ?_
      refine XO.c (.move rfl) rfl rfl ?_
      refine XO.c (.add rfl rfl (by omega)) rfl rfl ?_
      refine XO.c (.assign rfl) rfl rfl ?_
      refine XO.nil ?_
      intro tf htf
      refine ⟨rfl, rfl, _, [(0, v0), (2, p101), (4, p106), (5, .int .i64 ((i : Nat) : Int)), (6, .int .i64 (((t + 1) : Nat) : Int))], ?_, htf.keep _ ⟨rfl, rfl, rfl, rfl, rfl, trivial⟩, (t + 1), rfl, rfl, hA, trivial, nL111, (by rw [foldl_take min _ (by rw [devE_len]; omega), foldl_take max _ (by rw [devE_len]; omega), devE_get (by omega) (by omega)]; exact b118), (by exact gx_k0_111), (by omega)⟩
      omega
    · refine XC.exit ?_
      intro tf htf
      refine thenC_exit ?_
      refine loopQ_exit ?_
      refine inBlock_eq ?_
      refine inBlock_nrm ?_
      refine thenC.go ?_ tf htf
      refine XC.text ?_
      refine XO.c (.move rfl) rfl rfl ?_
      refine XO.c (.add rfl rfl (by omega)) rfl rfl ?_
      refine XO.c (.assign rfl) rfl rfl ?_
      refine XO.nil ?_
      intro tf htf
      refine ⟨rfl, rfl, _, [(0, v0), (2, p101), (4, p106), (5, .int .i64 (((i + 1) : Nat) : Int))], ?_, htf.keep _ ⟨rfl, rfl, rfl, rfl, trivial⟩, (i + 1), rfl, rfl, hA, trivial, nL110, (by rw [low_succ (by omega), low_succ (by omega)]; have h9 := gx_4_111; rw [List.take_of_length_le (l := devE l[i]) (by rw [devE_len]; omega)] at h9; exact h9), (by exact gx_k0_111), (by omega)⟩
      omega
  · refine XC.exit ?_
    intro tf htf
    refine thenC_exit ?_
    refine loopQ_exit ?_
    refine inBlock_eq ?_
    refine thenC.go ?_ tf htf
    refine XC.seq ?_
    refine XC.text ?_
    refine XO.r (.load rfl (gx_4_110.ldA vt41 rfl rfl)) rfl rfl ?_
    obtain ⟨h120, e120, b120, a120, n120, nn120, fr120, lw120⟩ := gx_k0_110.st0 (S := (ownP p101 ++ S)) (h0 := entry h) (u := .agg #[.int .i64 ((((l.take i).map devE).flatten).foldl min (l[0].2[0] - l[0].1[0])), .int .i64 ((((l.take i).map devE).flatten).foldl max (l[0].2[0] - l[0].1[0]))]) vt41 rfl rfl (Nat.le_of_ble_eq_true rfl) (One.oneAll ⟨⟨rfl, rfl⟩, ⟨⟨rfl, rfl⟩, trivial⟩⟩) hA (show HOk hh110 from hA.ok hok)
    refine XO.st rfl rfl e120 ?_
    have ok121 := hA.ok hok
    have gg121 : Goes hh110 (ownP p106 ++ (ownP p101 ++ S)) h120 (ownP p106 ++ (ownP p101 ++ S)) := Goes.frame fr120 (fun b hb => by simp [hb])
    replace hA := a120
    replace ha0 := ha0.nx gg121
    replace s104 := s104.nx gg121
    replace s105 := s105.nx gg121
    replace gx_4_110 := gx_4_110.chg fun b hb => fr120 b (fun hm => dj106_0 b hb hm)
    refine XO.nil (thenC.go ?_)
    refine XC.ret fun tf htf => ?_
    refine endF.cell rfl rfl (htf 2 _ rfl) (b120.ldA vt41 rfl rfl) ?_
    refine ⟨?_, hA.leftAf rfl⟩
    rw [learnE, hullE, minE, maxE, learn_head hp h01 (by omega)]; rw [List.take_of_length_le (by omega)]; rfl
theorem any_succ {L : List Int} {p : Int → Bool} {t : Nat} (ht : t < L.length) : (L.take (t + 1)).any p = ((L.take t).any p || p L[t]) := by
  rw [List.take_succ_eq_append_getElem ht, List.any_append]
  simp
theorem rVerify_ok {h : Heap} {S : List Nat} {v0 : Value} {l : List ((List Int) × (List Int))} {b : Int × Int} (hok : HOk h) (hS : ∀ b ∈ S, b < h.next) (ha0 : SlV h S (.pair (.sl (.int .i64)) (.sl (.int .i64))) v0 l) (hN : OkNs l) : EvF Tryz.prog OA 33 [v0, .agg #[.int .i64 b.1, .int .i64 b.2]] h fun r h' => After h h' ∧ SlV h' S (.int .i64) r (verE l b l.length) := by
  refine XF.enter Tryz.func33 rfl rfl rfl ?_
  have hok : HOk (entry h) := hok
  have hA := After.refl (entry h)
  replace ha0 := ha0.entry
  show XC Tryz.prog OA none _ _ [] [(0, v0), (1, .agg #[.int .i64 b.1, .int .i64 b.2])] (entry h) _
  refine XC.seq ?_
  refine XC.text ?_
  have ht := hN.top
  refine XO.boxR rfl (RepV.mk2 (a := (.int .i64)) (b := (.int .i64)) (x := b) (RepV.ofInt .i64 _) (RepV.ofInt .i64 _) rfl rfl) (hA.ok hok) (hA.inS hS) rfl rfl ?_
  intro p122 h122 b122 a122
  have ok123 := hA.ok hok
  have gg123 : Goes (entry h) S h122 S := a122.nx ok123
  replace hA := hA.trans a122
  replace ha0 := ha0.nx gg123
  refine XO.c (.assign rfl) rfl rfl ?_
  refine XO.nil (thenC.go ?_)
  refine XC.seq ?_
  refine XC.text ?_
  refine XO.c (.assign rfl) rfl rfl ?_
  refine XO.nil (thenC.go ?_)
  refine XC.seq ?_
  refine XC.seq ?_
  refine XC.text ?_
  refine XO.c (.assign rfl) rfl rfl ?_
  refine XO.nil (thenC.go ?_)
  refine XC.block ?_
  have hAL124 := hA
  have hkL124 := hA.ok hok
  have hSL124 := (hA.inS hS)
  refine XC.keep [(0, v0), (3, p122), (5, .slice none 0 0), (6, .int .i64 ((0 : Nat) : Int))] ⟨rfl, rfl, rfl, rfl, trivial⟩ ?_
  refine XC.loopI (I := fun (kk : Nat) (ff : FL) (hh : Heap) => ∃ (i : Nat) (out : Value), kk = l.length - i ∧ ff = [(0, v0), (3, p122), (5, out), (6, .int .i64 ((i : Nat) : Int))] ∧ After (entry h) hh ∧ After h122 hh ∧ Goes h122 S hh (ownB out ++ S) ∧ GrowR hh (ownB out ++ S) h122.next 3 true (.int .i64) out (verE l b i) ∧ (i ≤ l.length)) ?_ _ _ _ ⟨0, .slice none 0 0, rfl, rfl, hA, After.refl _, Goes.refl, (GrowR.nil), (by omega)⟩
  clear hA
  rintro kk ff hh124 ⟨i, out, hk124, rfl, hA, aL124, nL124, g_out124, hi⟩
  replace ha0 := ha0.nx nL124
  replace b122 := b122.nx nL124
  refine XC.seq ?_
  refine XC.seq ?_
  refine XC.text ?_
  refine XO.c (.move rfl) rfl rfl ?_
  refine XO.c (.move rfl) rfl rfl ?_
  refine XO.a (.len rfl (ha0.len el39)) rfl rfl ?_
  refine XO.c (.lss rfl rfl) rfl rfl ?_
  refine XO.nil (thenC.go ?_)
  refine XC.condD rfl (fun c3 => ?_) (fun c3 => ?_)
  · refine XC.skip (thenC.go ?_)
    refine XC.seq ?_
    refine XC.block ?_
    refine XC.seq ?_
    refine XC.text ?_
    have hO := hN.all _ (List.getElem_mem (show i < l.length by omega))
    have hO1 := hO.len
    have hO3 := hO.top
    have hv := verE_len l b i
    refine XO.c (.assign rfl) rfl rfl ?_
    refine XO.nil (thenC.go ?_)
    refine XC.seq ?_
    refine XC.seq ?_
    refine XC.text ?_
    refine XO.c (.assign rfl) rfl rfl ?_
    refine XO.nil (thenC.go ?_)
    refine XC.block ?_
    have hAL125 := hA
    have hkL125 := hA.ok hok
    have hSL125 := (g_out124.inS (hA.ok hok) (hA.inS hS))
    have g_out124L125 := g_out124
    have aL124o125 := aL124
    refine XC.keep [(0, v0), (3, p122), (5, out), (6, .int .i64 ((i : Nat) : Int)), (7, .bool (((devE l[i]).take 0).any fun x => decide (x < b.1) || decide (b.2 < x))), (8, .int .i64 ((0 : Nat) : Int))] ⟨rfl, rfl, rfl, rfl, rfl, rfl, trivial⟩ ?_
    refine XC.loopI (I := fun (kk : Nat) (ff : FL) (hh : Heap) => ∃ (t : Nat), kk = l[i].1.length - t ∧ ff = [(0, v0), (3, p122), (5, out), (6, .int .i64 ((i : Nat) : Int)), (7, .bool (((devE l[i]).take t).any fun x => decide (x < b.1) || decide (b.2 < x))), (8, .int .i64 ((t : Nat) : Int))] ∧ After (entry h) hh ∧ After hh124 hh ∧ Goes hh124 (ownB out ++ S) hh (ownB out ++ S) ∧ (t ≤ l[i].1.length)) ?_ _ _ _ ⟨0, rfl, rfl, hA, After.refl _, Goes.refl, (by omega)⟩
    clear hA
    rintro kk ff hh125 ⟨t, hk125, rfl, hA, aL125, nL125, ht2⟩
    replace aL124 := aL124.trans aL125
    replace nL124 := nL124.trans nL125
    replace ha0 := ha0.nx nL125
    replace b122 := b122.nx nL125
    replace g_out124 := g_out124.keep aL125 hkL125
    refine XC.seq ?_
    refine XC.seq ?_
    refine XC.text ?_
    refine XO.c (.move rfl) rfl rfl ?_
    refine XO.c (.move rfl) rfl rfl ?_
    refine XO.c (.move rfl) rfl rfl ?_
    refine XO.c (.indexAddr rfl rfl rfl (ha0.ix (j := i) el39 (by omega))) rfl rfl ?_
    refine XO.c (.fieldAddr rfl (((ha0.at (j := i) (by omega))).fa (f := 0) (k := 0) (by kernel_rfl))) rfl rfl ?_
    obtain ⟨u126, e126, s126⟩ := (((ha0.at (j := i) (by omega))).base.fst').ldSl vt22
    refine XO.r (.load rfl (e126)) rfl rfl ?_
    refine XO.a (.len rfl (s126.len el22)) rfl rfl ?_
    refine XO.c (.lss rfl rfl) rfl rfl ?_
    refine XO.nil (thenC.go ?_)
    refine XC.condD rfl (fun c7 => ?_) (fun c7 => ?_)
    · refine XC.skip (thenC.go ?_)
      refine XC.seq ?_
      refine XC.block ?_
      refine XC.seq ?_
      refine XC.drawn ?_
      have hkr127 := hA.ok hok
      have hSr127 := (g_out124.inS (hA.ok hok) (hA.inS hS))
      have b1 := hO.all1 _ (List.getElem_mem (show t < l[i].1.length by omega))
      have b2 := hO.all2 _ (List.getElem_mem (show t < l[i].2.length by omega))
      refine XD.c (b := 0) (.move rfl) rfl rfl rfl ?_
      refine XD.c (b := 0) (.move rfl) rfl rfl rfl ?_
      refine XD.c (b := 3) (.indexAddr rfl rfl rfl (ha0.ix (j := i) el39 (by omega))) rfl rfl rfl ?_
      refine XD.c (b := 7) (.fieldAddr rfl (((ha0.at (j := i) (by omega))).fa (f := 1) (k := 1) (by kernel_rfl))) rfl rfl rfl ?_
      obtain ⟨u128, e128, s128⟩ := ((((ha0.at (j := i) (by omega))).base.snd' (m := 1) rfl ((ha0.at (j := i) (by omega))).isP)).ldSl vt22
      refine XD.ld (b := 15) (After.refl _) SegsOk.nil hkr127 rfl (e128) rfl rfl rfl rfl ?_
      refine XD.c (b := 0) (.move rfl) rfl rfl rfl ?_
      refine XD.c (b := 63) (.indexAddr rfl rfl rfl (s128.ix (j := t) el22 (by omega))) rfl rfl rfl ?_
      refine XD.ld (b := 127) (After.refl _) (SegsOk.cons ((After.refl _)).next SegsOk.nil) hkr127 rfl (((s128.at (j := t) (by omega))).ldInt vt3) rfl rfl rfl rfl ?_
      refine XD.c (b := 0) (.move rfl) rfl rfl rfl ?_
      refine XD.c (b := 0) (.move rfl) rfl rfl rfl ?_
      refine XD.c (b := 768) (.indexAddr rfl rfl rfl (ha0.ix (j := i) el39 (by omega))) rfl rfl rfl ?_
      refine XD.c (b := 1792) (.fieldAddr rfl (((ha0.at (j := i) (by omega))).fa (f := 0) (k := 0) (by kernel_rfl))) rfl rfl rfl ?_
      obtain ⟨u129, e129, s129⟩ := (((ha0.at (j := i) (by omega))).base.fst').ldSl vt22
      refine XD.ld (b := 3840) (After.refl _) (SegsOk.cons ((After.refl _)).next (SegsOk.cons ((After.refl _)).next SegsOk.nil)) hkr127 rfl (e129) rfl rfl rfl rfl ?_
      refine XD.c (b := 0) (.move rfl) rfl rfl rfl ?_
      refine XD.c (b := 16128) (.indexAddr rfl rfl rfl (s129.ix (j := t) el22 (by omega))) rfl rfl rfl ?_
      refine XD.ld (b := 32512) (After.refl _) (SegsOk.cons ((After.refl _)).next (SegsOk.cons ((After.refl _)).next (SegsOk.cons ((After.refl _)).next SegsOk.nil))) hkr127 rfl (((s129.at (j := t) (by omega))).ldInt vt3) rfl rfl rfl rfl ?_
      refine XD.c (b := 65535) (.sub rfl rfl (by omega)) rfl rfl rfl ?_
      refine XD.c (b := 131071) (.assign rfl) rfl rfl rfl ?_
      refine XD.nil (thenC.go ?_)
      refine XC.text ?_
      refine XO.c (.move rfl) rfl rfl ?_
      refine XO.c (.move rfl) rfl rfl ?_
      refine XO.splitB (x := 44) rfl (fun g10_1 => ?_) (fun g10_1 => ?_)
      · refine XO.skip rfl rfl rfl rfl rfl ?_
        refine XO.skip rfl rfl rfl rfl rfl ?_
        refine XO.skip rfl rfl rfl rfl rfl ?_
        refine XO.skip rfl rfl rfl rfl rfl ?_
        refine XO.c (.pickT rfl rfl) rfl rfl ?_
        refine XO.c (.move rfl) rfl rfl ?_
        refine XO.skip rfl rfl rfl rfl rfl ?_
        refine XO.skip rfl rfl rfl rfl rfl ?_
        refine XO.skip rfl rfl rfl rfl rfl ?_
        refine XO.skip rfl rfl rfl rfl rfl ?_
        refine XO.c (.pickT rfl rfl) rfl rfl ?_
        refine XO.c (.assign rfl) rfl rfl ?_
        refine XO.nil ?_
        intro tf htf
        refine inBlock_nrm ?_
        refine thenC.go ?_ tf htf
        refine XC.text ?_
        refine XO.c (.move rfl) rfl rfl ?_
        refine XO.c (.add rfl rfl (by omega)) rfl rfl ?_
        refine XO.c (.assign rfl) rfl rfl ?_
        refine XO.nil ?_
        intro tf htf
        refine ⟨rfl, rfl, _, [(0, v0), (3, p122), (5, out), (6, .int .i64 ((i : Nat) : Int)), (7, .bool (((devE l[i]).take (t + 1)).any fun x => decide (x < b.1) || decide (b.2 < x))), (8, .int .i64 (((t + 1) : Nat) : Int))], ?_, htf.keep _ ⟨rfl, rfl, rfl, rfl, (congrArg (fun z => some z) (by rw [any_succ (by rw [devE_len]; omega), devE_get (by omega) (by omega)]; first | (rw [g10_1]; simp; done) | (rw [g10_1, decide_eq_true g10_7]; simp; done) | (rw [g10_1, decide_eq_false g10_7]; simp))), rfl, trivial⟩, (t + 1), rfl, rfl, hA, aL125, nL125, (by omega)⟩
        omega
      · refine XO.gc rfl rfl rfl (.move rfl) rfl rfl ?_
        refine XO.gc rfl rfl rfl (.fieldAddr rfl ((b122).fa (f := 0) (k := 0) (by kernel_rfl))) rfl rfl ?_
        refine XO.gr rfl rfl rfl (.load rfl (((b122).base.fst').ldInt vt3)) rfl rfl ?_
        refine XO.gc rfl rfl rfl (.lss rfl rfl) rfl rfl ?_
        refine XO.c (.pickF rfl rfl) rfl rfl ?_
        refine XO.c (.move rfl) rfl rfl ?_
        refine XO.splitD (x := 50) rfl (fun g10_7 => ?_) (fun g10_7 => ?_)
        · refine XO.skip rfl rfl rfl rfl rfl ?_
          refine XO.skip rfl rfl rfl rfl rfl ?_
          refine XO.skip rfl rfl rfl rfl rfl ?_
          refine XO.skip rfl rfl rfl rfl rfl ?_
          refine XO.c (.pickT rfl rfl) rfl rfl ?_
          refine XO.c (.assign rfl) rfl rfl ?_
          refine XO.nil ?_
          intro tf htf
          refine inBlock_nrm ?_
          refine thenC.go ?_ tf htf
          refine XC.text ?_
          refine XO.c (.move rfl) rfl rfl ?_
          refine XO.c (.add rfl rfl (by omega)) rfl rfl ?_
          refine XO.c (.assign rfl) rfl rfl ?_
          refine XO.nil ?_
          intro tf htf
          refine ⟨rfl, rfl, _, [(0, v0), (3, p122), (5, out), (6, .int .i64 ((i : Nat) : Int)), (7, .bool (((devE l[i]).take (t + 1)).any fun x => decide (x < b.1) || decide (b.2 < x))), (8, .int .i64 (((t + 1) : Nat) : Int))], ?_, htf.keep _ ⟨rfl, rfl, rfl, rfl, (congrArg (fun z => some z) (by rw [any_succ (by rw [devE_len]; omega), devE_get (by omega) (by omega)]; first | (rw [g10_1]; simp; done) | (rw [g10_1, decide_eq_true g10_7]; simp; done) | (rw [g10_1, decide_eq_false g10_7]; simp))), rfl, trivial⟩, (t + 1), rfl, rfl, hA, aL125, nL125, (by omega)⟩
          omega
        · refine XO.gc rfl rfl rfl (.move rfl) rfl rfl ?_
          refine XO.gc rfl rfl rfl (.fieldAddr rfl ((b122).fa (f := 1) (k := 1) (by kernel_rfl))) rfl rfl ?_
          refine XO.gr rfl rfl rfl (.load rfl ((((b122).base.snd' (m := 1) rfl (b122).isP)).ldInt vt3)) rfl rfl ?_
          refine XO.gc rfl rfl rfl (.gtr rfl rfl) rfl rfl ?_
          refine XO.c (.pickF rfl rfl) rfl rfl ?_
          refine XO.c (.assign rfl) rfl rfl ?_
          refine XO.nil ?_
          intro tf htf
          refine inBlock_nrm ?_
          refine thenC.go ?_ tf htf
          refine XC.text ?_
          refine XO.c (.move rfl) rfl rfl ?_
          refine XO.c (.add rfl rfl (by omega)) rfl rfl ?_
          refine XO.c (.assign rfl) rfl rfl ?_
          refine XO.nil ?_
          intro tf htf
          refine ⟨rfl, rfl, _, [(0, v0), (3, p122), (5, out), (6, .int .i64 ((i : Nat) : Int)), (7, .bool (((devE l[i]).take (t + 1)).any fun x => decide (x < b.1) || decide (b.2 < x))), (8, .int .i64 (((t + 1) : Nat) : Int))], ?_, htf.keep _ ⟨rfl, rfl, rfl, rfl, (congrArg (fun z => some z) (by rw [any_succ (by rw [devE_len]; omega), devE_get (by omega) (by omega)]; first | (rw [g10_1]; simp; done) | (rw [g10_1, decide_eq_true g10_7]; simp; done) | (rw [g10_1, decide_eq_false g10_7]; simp))), rfl, trivial⟩, (t + 1), rfl, rfl, hA, aL125, nL125, (by omega)⟩
          omega
    · refine XC.exit ?_
      intro tf htf
      refine thenC_exit ?_
      refine loopQ_exit ?_
      refine inBlock_eq ?_
      refine thenC.go ?_ tf htf
      refine XC.seq ?_
      refine XC.text ?_
      have e9 : (devE l[i]).take t = devE l[i] := List.take_of_length_le (by rw [devE_len]; omega)
      refine XO.c (.move rfl) rfl rfl ?_
      refine XO.nil (thenC.go ?_)
      refine XC.condB rfl (fun c11 => ?_) (fun c11 => ?_)
      · refine XC.text ?_
        refine XO.c (.move rfl) rfl rfl ?_
        refine XO.c (.move rfl) rfl rfl ?_
        refine XO.pushR (S0 := S) (h0 := h122) el22 el22 rfl rfl g_out124 (RepV.ofInt .i64 _) aL124 hkL124 (hA.inS hS) (by omega) (by decide) rfl rfl rfl ?_
        intro out130 h130 g130 a130 n130 l130
        have ok131 := hA.ok hok
        have gg131 : Goes hh125 (ownB out ++ S) h130 (ownB out130 ++ S) := n130
        replace hA := hAL124.trans a130
        replace aL124 := a130
        replace nL124 := nL124.trans gg131
        replace ha0 := ha0.nx gg131
        replace b122 := b122.nx gg131
        replace s126 := s126.nx gg131
        refine XO.c (.assign rfl) rfl rfl ?_
        refine XO.nil ?_
        intro tf htf
        refine inBlock_nrm ?_
        refine thenC.go ?_ tf htf
        refine XC.text ?_
        refine XO.c (.move rfl) rfl rfl ?_
        refine XO.c (.add rfl rfl (by omega)) rfl rfl ?_
        refine XO.c (.assign rfl) rfl rfl ?_
        refine XO.nil ?_
        intro tf htf
        refine ⟨rfl, rfl, _, [(0, v0), (3, p122), (5, out130), (6, .int .i64 (((i + 1) : Nat) : Int))], ?_, htf.keep _ ⟨rfl, rfl, rfl, rfl, trivial⟩, (i + 1), out130, rfl, rfl, hA, aL124, nL124, (by rw [verE_succ (by omega)]; first | (rw [if_pos (show outE b l[i] = true by rw [e9] at c11; exact c11)]; exact g130) | (rw [if_neg (show ¬ outE b l[i] = true by rw [e9] at c11; rw [outE, c11]; decide)]; exact g130)), (by omega)⟩
        omega
      · refine XC.skip ?_
        intro tf htf
        refine inBlock_nrm ?_
        refine thenC.go ?_ tf htf
        refine XC.text ?_
        refine XO.c (.move rfl) rfl rfl ?_
        refine XO.c (.add rfl rfl (by omega)) rfl rfl ?_
        refine XO.c (.assign rfl) rfl rfl ?_
        refine XO.nil ?_
        intro tf htf
        refine ⟨rfl, rfl, _, [(0, v0), (3, p122), (5, out), (6, .int .i64 (((i + 1) : Nat) : Int))], ?_, htf.keep _ ⟨rfl, rfl, rfl, rfl, trivial⟩, (i + 1), out, rfl, rfl, hA, aL124, nL124, (by rw [verE_succ (by omega)]; first | (rw [if_pos (show outE b l[i] = true by rw [e9] at c11; exact c11)]; exact g_out124) | (rw [if_neg (show ¬ outE b l[i] = true by rw [e9] at c11; rw [outE, c11]; decide)]; exact g_out124)), (by omega)⟩
        omega
  · refine XC.exit ?_
    intro tf htf
    refine thenC_exit ?_
    refine loopQ_exit ?_
    refine inBlock_eq ?_
    refine thenC.go ?_ tf htf
    refine XC.seq ?_
    refine XC.text ?_
    refine XO.c (.move rfl) rfl rfl ?_
    refine XO.c (.assign rfl) rfl rfl ?_
    refine XO.nil (thenC.go ?_)
    refine XC.ret fun tf htf => ?_
    have s132 := g_out124.shut hSL124
    have gg132 : Goes hh124 (ownB out ++ S) hh124 S := nx_own
    replace ha0 := ha0.nx gg132
    replace b122 := b122.nx gg132
    refine endF.one rfl rfl (htf 4 _ rfl) ?_
    refine ⟨hA.left _, ?_⟩
    have hw := (s132).ret hA
    rw [show i = l.length by omega] at hw; exact hw
def shortNE (l : List (List Int × List Int)) : Bool := decide ((l.length ≤ 6 ∨ l.length = 65) ∧ ∀ c ∈ l, (c.1.length ≤ 12 ∨ c.1.length = 97) ∧ c.2.length ≤ 13)
theorem rShortN_ok {h : Heap} {S : List Nat} {v0 : Value} {l : List ((List Int) × (List Int))} (hok : HOk h) (hS : ∀ b ∈ S, b < h.next) (ha0 : SlV h S (.pair (.sl (.int .i64)) (.sl (.int .i64))) v0 l) : EvF Tryz.prog OA 26 [v0] h fun r h' => r = .bool (shortNE l) ∧ h' = h := by
  refine XF.enter Tryz.func26 rfl rfl rfl ?_
  have hok : HOk (entry h) := hok
  have hA := After.refl (entry h)
  replace ha0 := ha0.entry
  show XC Tryz.prog OA none _ _ [] [(0, v0)] (entry h) _
  refine XC.seq ?_
  refine XC.text ?_
  refine XO.c (.assign rfl) rfl rfl ?_
  refine XO.nil (thenC.go ?_)
  refine XC.seq ?_
  refine XC.seq ?_
  refine XC.text ?_
  refine XO.c (.move rfl) rfl rfl ?_
  refine XO.a (.len rfl (ha0.len el39)) rfl rfl ?_
  refine XO.c (.gtr rfl rfl) rfl rfl ?_
  refine XO.c (.move rfl) rfl rfl ?_
  refine XO.splitD (x := 7) rfl (fun g1_3 => ?_) (fun g1_3 => ?_)
  · refine XO.gc rfl rfl rfl (.move rfl) rfl rfl ?_
    refine XO.ga rfl rfl rfl (.len rfl (ha0.len el39)) rfl rfl ?_
    refine XO.gc rfl rfl rfl (.neq rfl rfl) rfl rfl ?_
    refine XO.c (.pickT rfl rfl) rfl rfl ?_
    refine XO.nil (thenC.go ?_)
    refine XC.condD rfl (fun c1 => ?_) (fun c1 => ?_)
    · refine XC.seq ?_
      refine XC.text ?_
      refine XO.c (.assign rfl) rfl rfl ?_
      refine XO.nil (thenC.go ?_)
      refine XC.ret fun tf htf => ?_
      refine thenC_ret ?_
      refine endF.one rfl rfl (htf 2 _ rfl) ?_
      exact ⟨congrArg Value.bool (by first | (refine (decide_eq_false fun h => ?_).symm; have h1 := h.1; omega) | (refine (decide_eq_false fun h => ?_).symm; have h1 := h.2 _ (List.getElem_mem (show j < l.length by omega)); omega) | (refine (decide_eq_true ⟨hl0, ?_⟩).symm; rw [List.take_of_length_le (by omega)] at hf; exact hf)), hA.leftAf rfl⟩
    · refine XC.skip (thenC.go ?_)
      refine XC.seq ?_
      refine XC.seq ?_
      refine XC.text ?_
      refine XO.c (.assign rfl) rfl rfl ?_
      refine XO.nil (thenC.go ?_)
      refine XC.block ?_
      have hAL133 := hA
      have hkL133 := hA.ok hok
      have hSL133 := (hA.inS hS)
      refine XC.keep [(0, v0), (3, .int .i64 ((0 : Nat) : Int))] ⟨rfl, rfl, trivial⟩ ?_
      refine XC.loopI (I := fun (kk : Nat) (ff : FL) (hh : Heap) => ∃ (j : Nat), kk = l.length - j ∧ ff = [(0, v0), (3, .int .i64 ((j : Nat) : Int))] ∧ After (entry h) hh ∧ After (entry h) hh ∧ Goes (entry h) S hh S ∧ (j ≤ l.length) ∧ (l.length ≤ 6 ∨ l.length = 65) ∧ (∀ c ∈ l.take j, (c.1.length ≤ 12 ∨ c.1.length = 97) ∧ c.2.length ≤ 13)) ?_ _ _ _ ⟨0, rfl, rfl, hA, After.refl _, Goes.refl, (by omega), (by omega), (by simp)⟩
      clear hA
      rintro kk ff hh133 ⟨j, hk133, rfl, hA, aL133, nL133, hj, hl0, hf⟩
      replace ha0 := ha0.nx nL133
      refine XC.seq ?_
      refine XC.seq ?_
      refine XC.text ?_
      refine XO.c (.move rfl) rfl rfl ?_
      refine XO.c (.move rfl) rfl rfl ?_
      refine XO.a (.len rfl (ha0.len el39)) rfl rfl ?_
      refine XO.c (.lss rfl rfl) rfl rfl ?_
      refine XO.nil (thenC.go ?_)
      refine XC.condD rfl (fun c4 => ?_) (fun c4 => ?_)
      · refine XC.skip (thenC.go ?_)
        refine XC.seq ?_
        refine XC.block ?_
        refine XC.seq ?_
        refine XC.text ?_
        refine XO.c (.move rfl) rfl rfl ?_
        refine XO.c (.move rfl) rfl rfl ?_
        refine XO.c (.indexAddr rfl rfl rfl (ha0.ix (j := j) el39 (by omega))) rfl rfl ?_
        refine XO.c (.fieldAddr rfl (((ha0.at (j := j) (by omega))).fa (f := 0) (k := 0) (by kernel_rfl))) rfl rfl ?_
        obtain ⟨u134, e134, s134⟩ := (((ha0.at (j := j) (by omega))).base.fst').ldSl vt22
        refine XO.r (.load rfl (e134)) rfl rfl ?_
        refine XO.a (.len rfl (s134.len el22)) rfl rfl ?_
        refine XO.c (.gtr rfl rfl) rfl rfl ?_
        refine XO.c (.move rfl) rfl rfl ?_
        refine XO.splitD (x := 25) rfl (fun g6_7 => ?_) (fun g6_7 => ?_)
        · refine XO.gc rfl rfl rfl (.move rfl) rfl rfl ?_
          refine XO.gc rfl rfl rfl (.move rfl) rfl rfl ?_
          refine XO.gc rfl rfl rfl (.indexAddr rfl rfl rfl (ha0.ix (j := j) el39 (by omega))) rfl rfl ?_
          refine XO.gc rfl rfl rfl (.fieldAddr rfl (((ha0.at (j := j) (by omega))).fa (f := 0) (k := 0) (by kernel_rfl))) rfl rfl ?_
          obtain ⟨u135, e135, s135⟩ := (((ha0.at (j := j) (by omega))).base.fst').ldSl vt22
          refine XO.gr rfl rfl rfl (.load rfl (e135)) rfl rfl ?_
          refine XO.ga rfl rfl rfl (.len rfl (s135.len el22)) rfl rfl ?_
          refine XO.gc rfl rfl rfl (.neq rfl rfl) rfl rfl ?_
          refine XO.c (.pickT rfl rfl) rfl rfl ?_
          refine XO.c (.move rfl) rfl rfl ?_
          refine XO.splitD (x := 34) rfl (fun g6_16 => ?_) (fun g6_16 => ?_)
          · refine XO.skip rfl rfl rfl rfl rfl ?_
            refine XO.skip rfl rfl rfl rfl rfl ?_
            refine XO.skip rfl rfl rfl rfl rfl ?_
            refine XO.skip rfl rfl rfl rfl rfl ?_
            refine XO.skip rfl rfl rfl rfl rfl ?_
            refine XO.skip rfl rfl rfl rfl rfl ?_
            refine XO.skip rfl rfl rfl rfl rfl ?_
            refine XO.c (.pickT rfl rfl) rfl rfl ?_
            refine XO.nil (thenC.go ?_)
            refine XC.condT rfl ?_
            refine XC.seq ?_
            refine XC.text ?_
            refine XO.c (.assign rfl) rfl rfl ?_
            refine XO.nil (thenC.go ?_)
            refine XC.ret fun tf htf => ?_
            refine inBlock_ret ?_
            refine thenC_ret ?_
            refine loopQ_ret ?_
            refine inBlock_ret ?_
            refine thenC_ret ?_
            refine endF.one rfl rfl (htf 2 _ rfl) ?_
            exact ⟨congrArg Value.bool (by first | (refine (decide_eq_false fun h => ?_).symm; have h1 := h.1; omega) | (refine (decide_eq_false fun h => ?_).symm; have h1 := h.2 _ (List.getElem_mem (show j < l.length by omega)); omega) | (refine (decide_eq_true ⟨hl0, ?_⟩).symm; rw [List.take_of_length_le (by omega)] at hf; exact hf)), hA.leftAf rfl⟩
          · refine XO.gc rfl rfl rfl (.move rfl) rfl rfl ?_
            refine XO.gc rfl rfl rfl (.move rfl) rfl rfl ?_
            refine XO.gc rfl rfl rfl (.indexAddr rfl rfl rfl (ha0.ix (j := j) el39 (by omega))) rfl rfl ?_
            refine XO.gc rfl rfl rfl (.fieldAddr rfl (((ha0.at (j := j) (by omega))).fa (f := 1) (k := 1) (by kernel_rfl))) rfl rfl ?_
            obtain ⟨u136, e136, s136⟩ := ((((ha0.at (j := j) (by omega))).base.snd' (m := 1) rfl ((ha0.at (j := j) (by omega))).isP)).ldSl vt22
            refine XO.gr rfl rfl rfl (.load rfl (e136)) rfl rfl ?_
            refine XO.ga rfl rfl rfl (.len rfl (s136.len el22)) rfl rfl ?_
            refine XO.gc rfl rfl rfl (.gtr rfl rfl) rfl rfl ?_
            refine XO.c (.pickF rfl rfl) rfl rfl ?_
            refine XO.nil (thenC.go ?_)
            refine XC.condD rfl (fun c6 => ?_) (fun c6 => ?_)
            · refine XC.seq ?_
              refine XC.text ?_
              refine XO.c (.assign rfl) rfl rfl ?_
              refine XO.nil (thenC.go ?_)
              refine XC.ret fun tf htf => ?_
              refine inBlock_ret ?_
              refine thenC_ret ?_
              refine loopQ_ret ?_
              refine inBlock_ret ?_
              refine thenC_ret ?_
              refine endF.one rfl rfl (htf 2 _ rfl) ?_
              exact ⟨congrArg Value.bool (by first | (refine (decide_eq_false fun h => ?_).symm; have h1 := h.1; omega) | (refine (decide_eq_false fun h => ?_).symm; have h1 := h.2 _ (List.getElem_mem (show j < l.length by omega)); omega) | (refine (decide_eq_true ⟨hl0, ?_⟩).symm; rw [List.take_of_length_le (by omega)] at hf; exact hf)), hA.leftAf rfl⟩
            · refine XC.skip ?_
              intro tf htf
              refine inBlock_nrm ?_
              refine thenC.go ?_ tf htf
              refine XC.text ?_
              refine XO.c (.move rfl) rfl rfl ?_
              refine XO.c (.add rfl rfl (by omega)) rfl rfl ?_
              refine XO.c (.assign rfl) rfl rfl ?_
              refine XO.nil ?_
              intro tf htf
              refine ⟨rfl, rfl, _, [(0, v0), (3, .int .i64 (((j + 1) : Nat) : Int))], ?_, htf.keep _ ⟨rfl, rfl, trivial⟩, (j + 1), rfl, rfl, hA, aL133, nL133, (by omega), (by exact hl0), (by exact all_take (by omega) hf (by omega))⟩
              omega
        · refine XO.skip rfl rfl rfl rfl rfl ?_
          refine XO.skip rfl rfl rfl rfl rfl ?_
          refine XO.skip rfl rfl rfl rfl rfl ?_
          refine XO.skip rfl rfl rfl rfl rfl ?_
          refine XO.skip rfl rfl rfl rfl rfl ?_
          refine XO.skip rfl rfl rfl rfl rfl ?_
          refine XO.skip rfl rfl rfl rfl rfl ?_
          refine XO.c (.pickF rfl rfl) rfl rfl ?_
          refine XO.c (.move rfl) rfl rfl ?_
          refine XO.gc rfl rfl rfl (.move rfl) rfl rfl ?_
          refine XO.gc rfl rfl rfl (.move rfl) rfl rfl ?_
          refine XO.gc rfl rfl rfl (.indexAddr rfl rfl rfl (ha0.ix (j := j) el39 (by omega))) rfl rfl ?_
          refine XO.gc rfl rfl rfl (.fieldAddr rfl (((ha0.at (j := j) (by omega))).fa (f := 1) (k := 1) (by kernel_rfl))) rfl rfl ?_
          obtain ⟨u137, e137, s137⟩ := ((((ha0.at (j := j) (by omega))).base.snd' (m := 1) rfl ((ha0.at (j := j) (by omega))).isP)).ldSl vt22
          refine XO.gr rfl rfl rfl (.load rfl (e137)) rfl rfl ?_
          refine XO.ga rfl rfl rfl (.len rfl (s137.len el22)) rfl rfl ?_
          refine XO.gc rfl rfl rfl (.gtr rfl rfl) rfl rfl ?_
          refine XO.c (.pickF rfl rfl) rfl rfl ?_
          refine XO.nil (thenC.go ?_)
          refine XC.condD rfl (fun c6 => ?_) (fun c6 => ?_)
          · refine XC.seq ?_
            refine XC.text ?_
            refine XO.c (.assign rfl) rfl rfl ?_
            refine XO.nil (thenC.go ?_)
            refine XC.ret fun tf htf => ?_
            refine inBlock_ret ?_
            refine thenC_ret ?_
            refine loopQ_ret ?_
            refine inBlock_ret ?_
            refine thenC_ret ?_
            refine endF.one rfl rfl (htf 2 _ rfl) ?_
            exact ⟨congrArg Value.bool (by first | (refine (decide_eq_false fun h => ?_).symm; have h1 := h.1; omega) | (refine (decide_eq_false fun h => ?_).symm; have h1 := h.2 _ (List.getElem_mem (show j < l.length by omega)); omega) | (refine (decide_eq_true ⟨hl0, ?_⟩).symm; rw [List.take_of_length_le (by omega)] at hf; exact hf)), hA.leftAf rfl⟩
          · refine XC.skip ?_
            intro tf htf
            refine inBlock_nrm ?_
            refine thenC.go ?_ tf htf
            refine XC.text ?_
            refine XO.c (.move rfl) rfl rfl ?_
            refine XO.c (.add rfl rfl (by omega)) rfl rfl ?_
            refine XO.c (.assign rfl) rfl rfl ?_
            refine XO.nil ?_
            intro tf htf
            refine ⟨rfl, rfl, _, [(0, v0), (3, .int .i64 (((j + 1) : Nat) : Int))], ?_, htf.keep _ ⟨rfl, rfl, trivial⟩, (j + 1), rfl, rfl, hA, aL133, nL133, (by omega), (by exact hl0), (by exact all_take (by omega) hf (by omega))⟩
            omega
      · refine XC.exit ?_
        intro tf htf
        refine thenC_exit ?_
        refine loopQ_exit ?_
        refine inBlock_eq ?_
        refine thenC.go ?_ tf htf
        refine XC.seq ?_
        refine XC.text ?_
        refine XO.c (.assign rfl) rfl rfl ?_
        refine XO.nil (thenC.go ?_)
        refine XC.ret fun tf htf => ?_
        refine endF.one rfl rfl (htf 2 _ rfl) ?_
        exact ⟨congrArg Value.bool (by first | (refine (decide_eq_false fun h => ?_).symm; have h1 := h.1; omega) | (refine (decide_eq_false fun h => ?_).symm; have h1 := h.2 _ (List.getElem_mem (show j < l.length by omega)); omega) | (refine (decide_eq_true ⟨hl0, ?_⟩).symm; rw [List.take_of_length_le (by omega)] at hf; exact hf)), hA.leftAf rfl⟩
  · refine XO.skip rfl rfl rfl rfl rfl ?_
    refine XO.skip rfl rfl rfl rfl rfl ?_
    refine XO.skip rfl rfl rfl rfl rfl ?_
    refine XO.c (.pickF rfl rfl) rfl rfl ?_
    refine XO.nil (thenC.go ?_)
    refine XC.condF rfl ?_
    refine XC.skip (thenC.go ?_)
    refine XC.seq ?_
    refine XC.seq ?_
    refine XC.text ?_
    refine XO.c (.assign rfl) rfl rfl ?_
    refine XO.nil (thenC.go ?_)
    refine XC.block ?_
    have hAL138 := hA
    have hkL138 := hA.ok hok
    have hSL138 := (hA.inS hS)
    refine XC.keep [(0, v0), (3, .int .i64 ((0 : Nat) : Int))] ⟨rfl, rfl, trivial⟩ ?_
    refine XC.loopI (I := fun (kk : Nat) (ff : FL) (hh : Heap) => ∃ (j : Nat), kk = l.length - j ∧ ff = [(0, v0), (3, .int .i64 ((j : Nat) : Int))] ∧ After (entry h) hh ∧ After (entry h) hh ∧ Goes (entry h) S hh S ∧ (j ≤ l.length) ∧ (l.length ≤ 6 ∨ l.length = 65) ∧ (∀ c ∈ l.take j, (c.1.length ≤ 12 ∨ c.1.length = 97) ∧ c.2.length ≤ 13)) ?_ _ _ _ ⟨0, rfl, rfl, hA, After.refl _, Goes.refl, (by omega), (by omega), (by simp)⟩
    clear hA
    rintro kk ff hh138 ⟨j, hk138, rfl, hA, aL138, nL138, hj, hl0, hf⟩
    replace ha0 := ha0.nx nL138
    refine XC.seq ?_
    refine XC.seq ?_
    refine XC.text ?_
    refine XO.c (.move rfl) rfl rfl ?_
    refine XO.c (.move rfl) rfl rfl ?_
    refine XO.a (.len rfl (ha0.len el39)) rfl rfl ?_
    refine XO.c (.lss rfl rfl) rfl rfl ?_
    refine XO.nil (thenC.go ?_)
    refine XC.condD rfl (fun c4 => ?_) (fun c4 => ?_)
    · refine XC.skip (thenC.go ?_)
      refine XC.seq ?_
      refine XC.block ?_
      refine XC.seq ?_
      refine XC.text ?_
      refine XO.c (.move rfl) rfl rfl ?_
      refine XO.c (.move rfl) rfl rfl ?_
      refine XO.c (.indexAddr rfl rfl rfl (ha0.ix (j := j) el39 (by omega))) rfl rfl ?_
      refine XO.c (.fieldAddr rfl (((ha0.at (j := j) (by omega))).fa (f := 0) (k := 0) (by kernel_rfl))) rfl rfl ?_
      obtain ⟨u139, e139, s139⟩ := (((ha0.at (j := j) (by omega))).base.fst').ldSl vt22
      refine XO.r (.load rfl (e139)) rfl rfl ?_
      refine XO.a (.len rfl (s139.len el22)) rfl rfl ?_
      refine XO.c (.gtr rfl rfl) rfl rfl ?_
      refine XO.c (.move rfl) rfl rfl ?_
      refine XO.splitD (x := 25) rfl (fun g6_7 => ?_) (fun g6_7 => ?_)
      · refine XO.gc rfl rfl rfl (.move rfl) rfl rfl ?_
        refine XO.gc rfl rfl rfl (.move rfl) rfl rfl ?_
        refine XO.gc rfl rfl rfl (.indexAddr rfl rfl rfl (ha0.ix (j := j) el39 (by omega))) rfl rfl ?_
        refine XO.gc rfl rfl rfl (.fieldAddr rfl (((ha0.at (j := j) (by omega))).fa (f := 0) (k := 0) (by kernel_rfl))) rfl rfl ?_
        obtain ⟨u140, e140, s140⟩ := (((ha0.at (j := j) (by omega))).base.fst').ldSl vt22
        refine XO.gr rfl rfl rfl (.load rfl (e140)) rfl rfl ?_
        refine XO.ga rfl rfl rfl (.len rfl (s140.len el22)) rfl rfl ?_
        refine XO.gc rfl rfl rfl (.neq rfl rfl) rfl rfl ?_
        refine XO.c (.pickT rfl rfl) rfl rfl ?_
        refine XO.c (.move rfl) rfl rfl ?_
        refine XO.splitD (x := 34) rfl (fun g6_16 => ?_) (fun g6_16 => ?_)
        · refine XO.skip rfl rfl rfl rfl rfl ?_
          refine XO.skip rfl rfl rfl rfl rfl ?_
          refine XO.skip rfl rfl rfl rfl rfl ?_
          refine XO.skip rfl rfl rfl rfl rfl ?_
          refine XO.skip rfl rfl rfl rfl rfl ?_
          refine XO.skip rfl rfl rfl rfl rfl ?_
          refine XO.skip rfl rfl rfl rfl rfl ?_
          refine XO.c (.pickT rfl rfl) rfl rfl ?_
          refine XO.nil (thenC.go ?_)
          refine XC.condT rfl ?_
          refine XC.seq ?_
          refine XC.text ?_
          refine XO.c (.assign rfl) rfl rfl ?_
          refine XO.nil (thenC.go ?_)
          refine XC.ret fun tf htf => ?_
          refine inBlock_ret ?_
          refine thenC_ret ?_
          refine loopQ_ret ?_
          refine inBlock_ret ?_
          refine thenC_ret ?_
          refine endF.one rfl rfl (htf 2 _ rfl) ?_
          exact ⟨congrArg Value.bool (by first | (refine (decide_eq_false fun h => ?_).symm; have h1 := h.1; omega) | (refine (decide_eq_false fun h => ?_).symm; have h1 := h.2 _ (List.getElem_mem (show j < l.length by omega)); omega) | (refine (decide_eq_true ⟨hl0, ?_⟩).symm; rw [List.take_of_length_le (by omega)] at hf; exact hf)), hA.leftAf rfl⟩
        · refine XO.gc rfl rfl rfl (.move rfl) rfl rfl ?_
          refine XO.gc rfl rfl rfl (.move rfl) rfl rfl ?_
          refine XO.gc rfl rfl rfl (.indexAddr rfl rfl rfl (ha0.ix (j := j) el39 (by omega))) rfl rfl ?_
          refine XO.gc rfl rfl rfl (.fieldAddr rfl (((ha0.at (j := j) (by omega))).fa (f := 1) (k := 1) (by kernel_rfl))) rfl rfl ?_
          obtain ⟨u141, e141, s141⟩ := ((((ha0.at (j := j) (by omega))).base.snd' (m := 1) rfl ((ha0.at (j := j) (by omega))).isP)).ldSl vt22
          refine XO.gr rfl rfl rfl (.load rfl (e141)) rfl rfl ?_
          refine XO.ga rfl rfl rfl (.len rfl (s141.len el22)) rfl rfl ?_
          refine XO.gc rfl rfl rfl (.gtr rfl rfl) rfl rfl ?_
          refine XO.c (.pickF rfl rfl) rfl rfl ?_
          refine XO.nil (thenC.go ?_)
          refine XC.condD rfl (fun c6 => ?_) (fun c6 => ?_)
          · refine XC.seq ?_
            refine XC.text ?_
            refine XO.c (.assign rfl) rfl rfl ?_
            refine XO.nil (thenC.go ?_)
            refine XC.ret fun tf htf => ?_
            refine inBlock_ret ?_
            refine thenC_ret ?_
            refine loopQ_ret ?_
            refine inBlock_ret ?_
            refine thenC_ret ?_
            refine endF.one rfl rfl (htf 2 _ rfl) ?_
            exact ⟨congrArg Value.bool (by first | (refine (decide_eq_false fun h => ?_).symm; have h1 := h.1; omega) | (refine (decide_eq_false fun h => ?_).symm; have h1 := h.2 _ (List.getElem_mem (show j < l.length by omega)); omega) | (refine (decide_eq_true ⟨hl0, ?_⟩).symm; rw [List.take_of_length_le (by omega)] at hf; exact hf)), hA.leftAf rfl⟩
          · refine XC.skip ?_
            intro tf htf
            refine inBlock_nrm ?_
            refine thenC.go ?_ tf htf
            refine XC.text ?_
            refine XO.c (.move rfl) rfl rfl ?_
            refine XO.c (.add rfl rfl (by omega)) rfl rfl ?_
            refine XO.c (.assign rfl) rfl rfl ?_
            refine XO.nil ?_
            intro tf htf
            refine ⟨rfl, rfl, _, [(0, v0), (3, .int .i64 (((j + 1) : Nat) : Int))], ?_, htf.keep _ ⟨rfl, rfl, trivial⟩, (j + 1), rfl, rfl, hA, aL138, nL138, (by omega), (by exact hl0), (by exact all_take (by omega) hf (by omega))⟩
            omega
      · refine XO.skip rfl rfl rfl rfl rfl ?_
        refine XO.skip rfl rfl rfl rfl rfl ?_
        refine XO.skip rfl rfl rfl rfl rfl ?_
        refine XO.skip rfl rfl rfl rfl rfl ?_
        refine XO.skip rfl rfl rfl rfl rfl ?_
        refine XO.skip rfl rfl rfl rfl rfl ?_
        refine XO.skip rfl rfl rfl rfl rfl ?_
        refine XO.c (.pickF rfl rfl) rfl rfl ?_
        refine XO.c (.move rfl) rfl rfl ?_
        refine XO.gc rfl rfl rfl (.move rfl) rfl rfl ?_
        refine XO.gc rfl rfl rfl (.move rfl) rfl rfl ?_
        refine XO.gc rfl rfl rfl (.indexAddr rfl rfl rfl (ha0.ix (j := j) el39 (by omega))) rfl rfl ?_
        refine XO.gc rfl rfl rfl (.fieldAddr rfl (((ha0.at (j := j) (by omega))).fa (f := 1) (k := 1) (by kernel_rfl))) rfl rfl ?_
        obtain ⟨u142, e142, s142⟩ := ((((ha0.at (j := j) (by omega))).base.snd' (m := 1) rfl ((ha0.at (j := j) (by omega))).isP)).ldSl vt22
        refine XO.gr rfl rfl rfl (.load rfl (e142)) rfl rfl ?_
        refine XO.ga rfl rfl rfl (.len rfl (s142.len el22)) rfl rfl ?_
        refine XO.gc rfl rfl rfl (.gtr rfl rfl) rfl rfl ?_
        refine XO.c (.pickF rfl rfl) rfl rfl ?_
        refine XO.nil (thenC.go ?_)
        refine XC.condD rfl (fun c6 => ?_) (fun c6 => ?_)
        · refine XC.seq ?_
          refine XC.text ?_
          refine XO.c (.assign rfl) rfl rfl ?_
          refine XO.nil (thenC.go ?_)
          refine XC.ret fun tf htf => ?_
          refine inBlock_ret ?_
          refine thenC_ret ?_
          refine loopQ_ret ?_
          refine inBlock_ret ?_
          refine thenC_ret ?_
          refine endF.one rfl rfl (htf 2 _ rfl) ?_
          exact ⟨congrArg Value.bool (by first | (refine (decide_eq_false fun h => ?_).symm; have h1 := h.1; omega) | (refine (decide_eq_false fun h => ?_).symm; have h1 := h.2 _ (List.getElem_mem (show j < l.length by omega)); omega) | (refine (decide_eq_true ⟨hl0, ?_⟩).symm; rw [List.take_of_length_le (by omega)] at hf; exact hf)), hA.leftAf rfl⟩
        · refine XC.skip ?_
          intro tf htf
          refine inBlock_nrm ?_
          refine thenC.go ?_ tf htf
          refine XC.text ?_
          refine XO.c (.move rfl) rfl rfl ?_
          refine XO.c (.add rfl rfl (by omega)) rfl rfl ?_
          refine XO.c (.assign rfl) rfl rfl ?_
          refine XO.nil ?_
          intro tf htf
          refine ⟨rfl, rfl, _, [(0, v0), (3, .int .i64 (((j + 1) : Nat) : Int))], ?_, htf.keep _ ⟨rfl, rfl, trivial⟩, (j + 1), rfl, rfl, hA, aL138, nL138, (by omega), (by exact hl0), (by exact all_take (by omega) hf (by omega))⟩
          omega
    · refine XC.exit ?_
      intro tf htf
      refine thenC_exit ?_
      refine loopQ_exit ?_
      refine inBlock_eq ?_
      refine thenC.go ?_ tf htf
      refine XC.seq ?_
      refine XC.text ?_
      refine XO.c (.assign rfl) rfl rfl ?_
      refine XO.nil (thenC.go ?_)
      refine XC.ret fun tf htf => ?_
      refine endF.one rfl rfl (htf 2 _ rfl) ?_
      exact ⟨congrArg Value.bool (by first | (refine (decide_eq_false fun h => ?_).symm; have h1 := h.1; omega) | (refine (decide_eq_false fun h => ?_).symm; have h1 := h.2 _ (List.getElem_mem (show j < l.length by omega)); omega) | (refine (decide_eq_true ⟨hl0, ?_⟩).symm; rw [List.take_of_length_le (by omega)] at hf; exact hf)), hA.leftAf rfl⟩
theorem lNights_ok {h : Heap} {S : List Nat} {v0 : Value} {l : List ((List Int) × (List Int))} (hok : HOk h) (hS : ∀ b ∈ S, b < h.next) (ha0 : SlV h S (.pair (.sl (.int .i64)) (.sl (.int .i64))) v0 l) (hl : l.length < 100000) (hc : ∀ c ∈ l, c.1.length < 100000 ∧ c.2.length < 100000) : EvF Tryz.prog OA 28 [v0] h fun r h' => After h h' ∧ SlV h' S (.pair (.sl (.int .i64)) (.sl (.int .i64))) r l := by
  refine XF.enter Tryz.func28 rfl rfl rfl ?_
  have hok : HOk (entry h) := hok
  have hA := After.refl (entry h)
  replace ha0 := ha0.entry
  show XC Tryz.prog OA none _ _ [] [(0, v0)] (entry h) _
  refine XC.seq ?_
  refine XC.text ?_
  refine XO.c (.assign rfl) rfl rfl ?_
  refine XO.nil (thenC.go ?_)
  refine XC.seq ?_
  refine XC.text ?_
  refine XO.c (.assign rfl) rfl rfl ?_
  refine XO.nil (thenC.go ?_)
  refine XC.seq ?_
  refine XC.seq ?_
  refine XC.text ?_
  refine XO.c (.move rfl) rfl rfl ?_
  refine XO.a (.len rfl (ha0.len el39)) rfl rfl ?_
  refine XO.c (.move rfl) rfl rfl ?_
  refine XO.nil (thenC.go ?_)
  refine XC.block ?_
  have hAL143 := hA
  have hkL143 := hA.ok hok
  have hSL143 := (hA.inS hS)
  refine XC.keep [(3, .slice none 0 0), (6, v0), (7, .int .i64 ((l.length : Nat) : Int)), (8, .int .i64 ((0 : Nat) : Int))] ⟨rfl, rfl, rfl, rfl, trivial⟩ ?_
  refine XC.loopI (I := fun (kk : Nat) (ff : FL) (hh : Heap) => ∃ (j : Nat) (out : Value), kk = l.length - j ∧ ff = [(3, out), (6, v0), (7, .int .i64 ((l.length : Nat) : Int)), (8, .int .i64 ((j : Nat) : Int))] ∧ After (entry h) hh ∧ After (entry h) hh ∧ Goes (entry h) S hh (ownB out ++ S) ∧ GrowR hh (ownB out ++ S) (entry h).next 172 true (.pair (.sl (.int .i64)) (.sl (.int .i64))) out (l.take j) ∧ (j ≤ l.length)) ?_ _ _ _ ⟨0, .slice none 0 0, rfl, rfl, hA, After.refl _, Goes.refl, (GrowR.nil), (by omega)⟩
  clear hA
  rintro kk ff hh143 ⟨j, out, hk143, rfl, hA, aL143, nL143, g_out143, hj⟩
  replace ha0 := ha0.nx nL143
  refine XC.seq ?_
  refine XC.text ?_
  refine XO.c (.lss rfl rfl) rfl rfl ?_
  refine XO.nil (thenC.go ?_)
  refine XC.seq ?_
  refine XC.condD rfl (fun c3 => ?_) (fun c3 => ?_)
  · refine XC.skip (thenC.go ?_)
    refine XC.seq ?_
    refine XC.block ?_
    refine XC.seq ?_
    refine XC.text ?_
    refine XO.c (.indexAddr rfl rfl rfl (ha0.ix (j := j) el39 (by omega))) rfl rfl ?_
    obtain ⟨u144, e144, r144⟩ := ((ha0.at (j := j) (by omega))).ldV vt88
    obtain ⟨c145_0, c145_1, rfl, r145_0, r145_1⟩ := r144.st2 rfl rfl
    replace r145_0 := r145_0.sl
    replace r145_1 := r145_1.sl
    refine XO.r (.load rfl (e144)) rfl rfl ?_
    refine XO.allocP (S := (ownB out ++ S)) (z := .agg #[.slice none 0 0, .slice none 0 0]) (by kernel_rfl) rfl rfl aL143 hkL143 (g_out143.inS (hA.ok hok) (hA.inS hS)) rfl rfl ?_
    intro p146 h146 b146 a146 gs146
    have ok147 := hA.ok hok
    have gg147 : Goes hh143 (ownB out ++ S) h146 (ownP p146 ++ (ownB out ++ S)) := gs146
    replace hA := hA.trans a146
    replace aL143 := aL143.trans a146
    replace nL143 := nL143.trans gg147
    replace ha0 := ha0.nx gg147
    replace r145_0 := r145_0.nx gg147
    replace r145_1 := r145_1.nx gg147
    replace g_out143 := g_out143.up a146 ok147 gg147 (fun b hb => by simp [hb])
    refine XO.stP (S := (ownB out ++ S)) (h0 := (entry h)) (τ := (.pair (.sl (.int .i64)) (.sl (.int .i64)))) rfl rfl b146 (RepV.mk2 (a := (.sl (.int .i64))) (b := (.sl (.int .i64))) (x := l[j]) (r145_0).rep (r145_1).rep rfl rfl) vt88 aL143 ?_
    intro h148 b148 a148 gs148 nx148 fr148
    have ok149 := hA.ok hok
    have gg149 : Goes h146 (ownP p146 ++ (ownB out ++ S)) h148 (ownB out ++ S) := gs148
    replace hA := hAL143.trans a148
    replace aL143 := a148
    replace nL143 := nL143.trans gg149
    replace ha0 := ha0.nx gg149
    replace r145_0 := r145_0.nx gg149
    replace r145_1 := r145_1.nx gg149
    replace g_out143 := g_out143.chg (fun b hb => fr148 b (by simp [hb])) gg149 (fun b hb => by simp [hb])
    refine XO.nil (thenC.go ?_)
    refine XC.drawn ?_
    have hkr150 := hA.ok hok
    have hSr150 := (g_out143.inS (hA.ok hok) (hA.inS hS))
    have hlj := hc _ (List.getElem_mem (show j < l.length by omega))
    refine XD.c (b := 0) (.move rfl) rfl rfl rfl ?_
    refine XD.c (b := 0) (.fieldAddr rfl ((b148).fa (f := 0) (k := 0) (by kernel_rfl))) rfl rfl rfl ?_
    obtain ⟨u151, e151, s151⟩ := ((b148).base.fst').ldSl vt22
    refine XD.ld (b := 2) (After.refl _) SegsOk.nil hkr150 rfl (e151) rfl rfl rfl rfl ?_
    refine XD.callU (bb := 6) (After.refl _) (SegsOk.cons ((After.refl _)).next SegsOk.nil) hkr150 rfl rfl rfl rfl rfl rfl ?_
    intro M152 aM152 kM152 nM152 sM152 oM152
    refine EvF.mono (lInts_ok kM152 (by first | exact aM152.inS hSr150 | exact (g_out143.inS (hA.ok hok) (hA.inS hS))) (s151.nx (aM152.nx hkr150)) (by first | assumption | omega)) ?_
    rintro u152 hM152 ⟨a152, s152⟩
    refine ⟨a152, ?_⟩
    clear a152
    intro h152 a152 gM152
    replace s152 := s152.nx (gM152 _)
    have ha0o := ha0
    have r145_0o := r145_0
    have r145_1o := r145_1
    have b148o := b148
    have s151o := s151
    have rg150 : Goes h148 (ownB out ++ S) h148 (ownB out ++ S) := Goes.refl
    have ra150 := After.refl h148
    have ok153 := hA.ok hok
    have gg153 : Goes h148 (ownB out ++ S) h152 (ownB out ++ S) := a152.nx ok153
    replace hA := hA.trans a152
    replace aL143 := aL143.trans a152
    replace nL143 := nL143.trans gg153
    replace ha0 := ha0.nx gg153
    replace r145_0 := r145_0.nx gg153
    replace r145_1 := r145_1.nx gg153
    replace b148 := b148.nx gg153
    replace s151 := s151.nx gg153
    replace g_out143 := g_out143.up a152 ok153 gg153 (fun b hb => by simp [hb])
    replace rg150 := rg150.trans gg153
    have ra150_152 := ra150.trans a152
    refine XD.c (b := 0) (.fieldAddr rfl ((b148).fa (f := 1) (k := 1) (by kernel_rfl))) rfl rfl rfl ?_
    obtain ⟨u154, e154, s154⟩ := (((b148).base.snd' (m := 1) rfl (b148).isP)).ldSl vt22
    obtain ⟨u155, e155, o155⟩ := (((b148o).base.snd' (m := 1) rfl (b148o).isP)).ldSl vt22
    have s155 := o155.nx rg150
    refine XD.ld (b := 16) ra150_152 (SegsOk.cons (ra150).next (SegsOk.cons ((After.refl _)).next SegsOk.nil)) hkr150 rfl (e155) rfl rfl rfl rfl ?_
    refine XD.callU (bb := 62) ra150_152 (SegsOk.cons (ra150_152).next (SegsOk.cons (ra150).next (SegsOk.cons ((After.refl _)).next SegsOk.nil))) hkr150 rfl rfl rfl rfl rfl rfl ?_
    intro M156 aM156 kM156 nM156 sM156 oM156
    refine EvF.mono (lInts_ok kM156 (by first | exact aM156.inS hSr150 | exact (g_out143.inS (hA.ok hok) (hA.inS hS))) (o155.nx (aM156.nx hkr150)) (by first | assumption | omega)) ?_
    rintro u156 hM156 ⟨a156, s156⟩
    refine ⟨a156, ?_⟩
    clear a156
    intro h156 a156 gM156
    replace s156 := s156.nx (gM156 _)
    have ok157 := hA.ok hok
    have gg157 : Goes h152 (ownB out ++ S) h156 (ownB out ++ S) := a156.nx ok157
    replace hA := hA.trans a156
    replace aL143 := aL143.trans a156
    replace nL143 := nL143.trans gg157
    replace ha0 := ha0.nx gg157
    replace r145_0 := r145_0.nx gg157
    replace r145_1 := r145_1.nx gg157
    replace b148 := b148.nx gg157
    replace s151 := s151.nx gg157
    replace s152 := s152.nx gg157
    replace s154 := s154.nx gg157
    replace s155 := s155.nx gg157
    replace g_out143 := g_out143.up a156 ok157 gg157 (fun b hb => by simp [hb])
    replace rg150 := rg150.trans gg157
    have ra150_156 := ra150_152.trans a156
    refine XD.c (b := 126) (.buildS (vs := [u152, u156]) ⟨(s152).one, ⟨(s156).one, trivial⟩⟩ (by kernel_rfl) rfl) rfl rfl rfl ?_
    refine XD.pushR (b := 254) (b2 := 511) (S0 := S) (h0 := (entry h)) el45 el45 rfl (fun _ => rfl) g_out143 (RepV.mk2 (a := (.sl (.int .i64))) (b := (.sl (.int .i64))) (x := (((l[j]).1), ((l[j]).2))) (s152).rep (s156).rep rfl rfl) aL143 hkL143 (hA.inS hS) (by simp; omega) (by decide) rfl rfl rfl rfl rfl rfl rfl ?_
    intro out158 h158 t158 g158 a158 n158 l158 w158 k158
    have ok159 := hA.ok hok
    have gg159 : Goes h156 (ownB out ++ S) h158 (ownB out158 ++ S) := n158
    replace hA := hAL143.trans a158
    replace aL143 := a158
    replace nL143 := nL143.trans gg159
    replace ha0 := ha0.nx gg159
    replace r145_0 := r145_0.nx gg159
    replace r145_1 := r145_1.nx gg159
    replace b148 := b148.nx gg159
    replace s151 := s151.nx gg159
    replace s152 := s152.nx gg159
    replace s154 := s154.nx gg159
    replace s155 := s155.nx gg159
    replace s156 := s156.nx gg159
    refine XD.c (b := 1023) (.assign rfl) rfl rfl rfl ?_
    refine XD.nil ?_
    intro tf htf
    refine inBlock_nrm ?_
    refine thenC.go ?_ tf htf
    refine XC.text ?_
    refine XO.c (.add rfl rfl (by omega)) rfl rfl ?_
    refine XO.c (.move rfl) rfl rfl ?_
    refine XO.nil ?_
    intro tf htf
    refine ⟨rfl, rfl, _, [(3, out158), (6, v0), (7, .int .i64 ((l.length : Nat) : Int)), (8, .int .i64 (((j + 1) : Nat) : Int))], ?_, htf.keep _ ⟨rfl, rfl, rfl, rfl, trivial⟩, (j + 1), out158, rfl, rfl, hA, aL143, nL143, (by rw [List.take_succ_eq_append_getElem (by omega)]; exact g158), (by omega)⟩
    omega
  · refine XC.exit ?_
    intro tf htf
    refine thenC_exit ?_
    refine loopQ_exit ?_
    refine inBlock_eq ?_
    refine thenC.go ?_ tf htf
    refine XC.seq ?_
    refine XC.text ?_
    refine XO.c (.move rfl) rfl rfl ?_
    refine XO.c (.assign rfl) rfl rfl ?_
    refine XO.nil (thenC.go ?_)
    refine XC.ret fun tf htf => ?_
    have s160 := g_out143.shut hSL143
    have gg160 : Goes hh143 (ownB out ++ S) hh143 S := nx_own
    replace ha0 := ha0.nx gg160
    refine endF.one rfl rfl (htf 2 _ rfl) ?_
    refine ⟨hA.left _, ?_⟩
    have hw := (s160).ret hA
    rw [List.take_of_length_le (by omega)] at hw; exact hw
end Go.Proofs
