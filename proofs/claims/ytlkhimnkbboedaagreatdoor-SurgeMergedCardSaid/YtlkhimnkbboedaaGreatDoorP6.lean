/- Parts of the proof: an evaluator of the model, what it is sound for, and contracts of functions. No condition. -/
import Derived.Test.YtlkhimnkbboedaaGreatDoorP5
set_option linter.all false
namespace Go.Proofs
open Go.Fs Ieee
abbrev y33 : Ty := (.sl (.pair (.int .i64) (.pair .str (.pair (.int .i64) (.pair (.int .i64) (.sl (.flt .f32)))))))
abbrev y43 : Ty := (.pair (.int .i64) (.pair .str (.pair (.int .i64) (.pair (.int .i64) (.sl (.flt .f32))))))
abbrev y101 : Ty := (.sl (.pair (.pair (.int .i64) (.pair .str (.pair (.int .i64) (.pair (.int .i64) (.sl (.flt .f32)))))) (.int .i64)))
abbrev y104 : Ty := (.pair (.pair (.int .i64) (.pair .str (.pair (.int .i64) (.pair (.int .i64) (.sl (.flt .f32)))))) (.int .i64))
theorem vt39 : ValT Tryz.prog 39 y39 := valT_of (by kernel_rfl)
theorem vt43 : ValT Tryz.prog 43 y43 := valT_of (by kernel_rfl)
theorem vt104 : ValT Tryz.prog 104 y104 := valT_of (by kernel_rfl)
theorem vt131 : ValT Tryz.prog 131 y131 := valT_of (by kernel_rfl)
theorem el33 : ElT Tryz.prog 33 43 y43 := elT_of (by kernel_rfl)
theorem el101 : ElT Tryz.prog 101 104 y104 := elT_of (by kernel_rfl)
theorem zt43 : ZerT Tryz.prog 43 y43 := zerT_of (z := .agg #[.int .i64 0, .string ByteArray.empty, .int .i64 0, .int .i64 0, .slice none 0 0]) (by kernel_rfl) rfl rfl
theorem zt104 : ZerT Tryz.prog 104 y104 := zerT_of (z := .agg #[.int .i64 0, .string ByteArray.empty, .int .i64 0, .int .i64 0, .slice none 0 0, .int .i64 0]) (by kernel_rfl) rfl rfl
theorem zt131 : ZerT Tryz.prog 131 y131 := zerT_of (z := .map none) (by kernel_rfl) rfl rfl
theorem bt104 : BldT Tryz.prog 104 y104 [(0, 5), (5, 1)] := bldT_of zt104 rfl (by kernel_rfl)
abbrev Dom := Int × Int × Int × Mems
abbrev Pc := Int × ByteArray × Int × Int × List Nat
theorem dom_ok {d : Dom} (h : domE d = 0) : (1 ≤ d.1 ∧ d.1 ≤ 8) ∧ (1 ≤ d.2.1 ∧ d.2.1 ≤ 8) ∧ (1 ≤ d.2.2.1 ∧ d.2.2.1 ≤ 96) ∧ d.2.2.2.length ≤ 16 ∧ d.2.2.2.length ≠ 0 ∧ ∀ k, k < d.2.2.2.length → memE d.2.2.2 k = 0 := by
  unfold domE at h; split at h
  · rename_i h0; have hl := domP_len h0; rw [firstE_zero] at h; unfold domP at h0; rw [firstE_zero] at h0; exact ⟨rangeE_zero.1 (h0 _ (by simp)), rangeE_zero.1 (h0 _ (by simp)), rangeE_zero.1 (h0 _ (by simp)), hl.1, hl.2, fun k hk => h _ (List.mem_map_of_mem (List.mem_range.2 hk))⟩
  contradiction
def hasM (d : Dom) (x : ByteArray) : Option Int := mget (idxM d.2.2.2 d.2.2.2.length) x
def pcPre (d : Dom) (p : Pc) : Int := firstE [rangeE p.1 0 100000, whenE (!(hasM d p.2.1).isSome) 10, rangeE p.2.2.1 0 (d.2.2.1 - 1), rangeE p.2.2.2.1 0 (d.1 - 1), whenE (decide ((p.2.2.2.2.length : Int) ≠ d.2.1)) 2]
def pcE (d : Dom) (p : Pc) : Int := if pcPre d p = 0 then firstE (p.2.2.2.2.map lvlE) else pcPre d p
theorem sTime_ok {t : Int} : VF Tryz.prog OA 45 [I t] (I (rangeE t 0 100000)) := by
  refine VF.enter Tryz.func45 rfl (fun _ _ => rfl) rfl ?_; show VC _ _ _ _ _ [(0, I t)] [] _; refine VC.seq (VC.text ?_); refine VO.c (.assign rfl) ?_; refine VO.go (VC.seq (VC.text ?_)); refine VO.c (.move rfl) ?_; refine VO.call rfl rfl (VF.call (sWithin_ok )) ?_; refine VO.c (.assign rfl) (VO.go ?_); refine VC.ret ?_; exact VEnd.one rfl evT (pvI (by first | rfl | simp))
theorem sPc_ok {d : Int × Int × Int × (List (ByteArray × Int))} {p : Int × ByteArray × Int × Int × (List Nat)} (hd : domE d = 0) (hv : p.2.2.2.2.length < 100000) : VF Tryz.prog OA 43 [.v y39 d, .v y43 p] (I (pcE d p)) := by
  refine VF.enter Tryz.func43 rfl (fun _ _ => rfl) rfl ?_; show VC _ _ _ _ _ [(0, .v y39 d), (1, .v y43 p)] [] _; refine VC.seq (VC.text ?_); have hdd := dom_ok hd; refine VO.new (.box) ?_; refine VO.new (.box) ?_; refine VO.c (.assign rfl) ?_; refine VO.go (VC.seq (VC.drawn ?_)); refine VD.r [] (.ld vt39) (.inl rfl) ?_; refine VD.call rfl rfl (VF.call (sMems_ok (by omega))) ?_; refine VD.c (.fa (.r (.l .o))) ?_; refine VD.r [] (.ld vt9) (.inl rfl) ?_; refine VD.ro (.lookOk mt131) ?_; refine VD.c (.move rfl) (VD.nw [8, 13, 10] (VD.c (.extract) (VD.c (.extract) ?_))); refine VD.c (.assign rfl) (VD.c (.assign rfl) ?_); refine VD.go (VC.seq (VC.seq (VC.drawn ?_))); refine VD.c (.fa (.l .o)) ?_; refine VD.r [] (.ld vt3) (.inl rfl) ?_; refine VD.call rfl rfl (VF.call (sTime_ok )) ?_; refine VD.c (.move rfl) (VD.c (.not) ?_); refine VD.call rfl rfl (VF.call (sWhen_ok )) ?_; refine VD.nw [] (VD.c (.fa (.r (.r (.l .o)))) ?_); refine VD.r [] (.ld vt3) (.inl rfl) ?_; refine VD.c (.fa (.r (.r (.l .o)))) ?_; refine VD.r [] (.ld vt3) (.inl rfl) ?_; refine VD.c (.sub rfl rfl (by omega)) ?_; refine VD.call rfl rfl (VF.call (sWithin_ok )) ?_; refine VD.c (.fa (.r (.r (.r (.l .o))))) (VD.nw [] ?_); refine VD.r [] (.ld vt3) (.inl rfl) ?_; refine VD.c (.fa (.l .o)) ?_; refine VD.r [] (.ld vt3) (.inl rfl) ?_; refine VD.c (.sub rfl rfl (by omega)) ?_; refine VD.call rfl rfl (VF.call (sWithin_ok )) ?_; refine VD.c (.fa (.r (.r (.r (.r .o))))) ?_; refine VD.r [] (.ld vt41) (.inl rfl) ?_; refine VD.nw [] ?_; refine VD.r [] (.len el41) (.inl rfl) ?_; refine VD.c (.fa (.r (.l .o))) ?_; refine VD.r [] (.ld vt3) (.inl rfl) ?_; refine VD.c (.neq) ?_; refine VD.call rfl rfl (VF.call (sWhen_ok )) ?_; refine VD.new (.lit [rangeE p.1 0 100000, whenE (!((mget (idxM d.2.2.2 d.2.2.2.length) p.2.1).isSome)) (10 : Int), rangeE p.2.2.1 (0 : Int) (d.2.2.1 - (1 : Int)), rangeE p.2.2.2.1 (0 : Int) (d.1 - (1 : Int)), whenE (decide (((p.2.2.2.2.length : Nat) : Int) ≠ d.2.1)) (2 : Int)] el164) ?_; refine VD.callO rfl rfl (VF.call (sFirst_ok (by first | assumption | omega | simp))) ?_; refine VD.nw [41] (VD.c (.assign rfl) ?_); refine VD.go (VC.seq ?_); refine VC.keep [(3, .p y43 p), (7, I (firstE [rangeE p.1 0 100000, whenE (!((mget (idxM d.2.2.2 d.2.2.2.length) p.2.1).isSome)) (10 : Int), rangeE p.2.2.1 (0 : Int) (d.2.2.1 - (1 : Int)), rangeE p.2.2.2.1 (0 : Int) (d.1 - (1 : Int)), whenE (decide (((p.2.2.2.2.length : Nat) : Int) ≠ d.2.1)) (2 : Int)]))] ⟨rfl, rfl, trivial⟩ ?_; refine VC.text ?_; refine VO.c (.move rfl) (VO.c (.neq) (VO.go ?_)); refine VC.condD rfl (fun c3 => ?_) (fun c3 => ?_)
  · have c3' : ¬ pcPre d p = 0 := c3; refine VC.seq (VC.text ?_); refine VO.c (.move rfl) (VO.c (.assign rfl) (VO.go ?_)); refine VC.ret ?_; exact VEnd.one rfl evT (pvI (by rw [pcE, if_neg c3'] <;> rfl))
  have c3' : pcPre d p = 0 := by simpa [pcPre, hasM] using c3
  refine VC.skip (VC.seq (VC.text ?_)); refine VO.c (.fa (.r (.r (.r (.r .o))))) ?_; refine VO.r (.ld vt41) ?_; refine VO.call rfl rfl (VF.call (sMapFE_ok (F := lvlE) hv (fun _ _ => VF.call gLv_ok))) ?_; refine VO.call rfl rfl (VF.call (sFirst_ok (by simp; omega))) ?_; refine VO.c (.assign rfl) (VO.go ?_); refine VC.ret ?_; exact VEnd.one rfl evT (pvI (by rw [pcE, if_pos c3']))
def cmpI (a b : Int) : Int := if a < b then -1 else if b < a then 1 else 0
theorem cCmp_ok {a : Int} {b : Int} : VF Tryz.prog OA 92 [I a, I b] (I (cmpI a b)) := by
  refine VF.enter Tryz.func92 rfl (fun _ _ => rfl) rfl ?_; show VC _ _ _ _ _ [(0, I a), (1, I b)] [] _; refine VC.seq (VC.text ?_); refine VO.c (.assign rfl) ?_; refine VO.go (VC.seq (VC.text ?_)); refine VO.c (.move rfl) ?_; refine VO.call rfl rfl (VF.call (cNaN_ok )) ?_; refine VO.c (.assign rfl) ?_; refine VO.go (VC.seq (VC.text ?_)); refine VO.c (.move rfl) ?_; refine VO.call rfl rfl (VF.call (cNaN_ok )) ?_; refine VO.c (.assign rfl) ?_; refine VO.go (VC.seq (VC.seq (VC.text ?_))); refine VO.c (.move rfl) (VO.go ?_); refine VC.condF rfl ?_; refine VC.skip (VC.seq (VC.seq (VC.text ?_))); refine VO.c (.move rfl) (VO.go ?_); refine VC.condF rfl ?_; refine VC.skip (VC.seq (VC.seq (VC.text ?_))); refine VO.c (.move rfl) (VO.c (.move rfl) (VO.c (.lss) (VO.go ?_))); refine VC.condD rfl (fun c9 => ?_) (fun c9 => ?_)
  · refine VC.seq (VC.text ?_); refine VO.c (.assign rfl) (VO.go ?_); refine VC.ret ?_; exact VEnd.one rfl evT (pvI (by rw [cmpI, if_pos c9]))
  refine VC.skip (VC.seq (VC.seq (VC.text ?_))); refine VO.c (.move rfl) (VO.c (.move rfl) (VO.c (.gtr) (VO.go ?_))); refine VC.condD rfl (fun c11 => ?_) (fun c11 => ?_)
  · refine VC.seq (VC.text ?_); refine VO.c (.assign rfl) (VO.go ?_); refine VC.ret ?_; exact VEnd.one rfl evT (pvI (by rw [cmpI, if_neg c9, if_pos c11]))
  refine VC.skip (VC.seq (VC.text ?_)); refine VO.c (.assign rfl) (VO.go ?_); refine VC.ret ?_; exact VEnd.one rfl evT (pvI (by rw [cmpI, if_neg c9, if_neg c11]))
theorem cOr_ok {l : List Int} (hl : l.length < 1000000) : VF Tryz.prog OA 91 [.v y31 l] (I (firstE l)) := by
  refine VF.enter Tryz.func91 rfl (fun _ _ => rfl) rfl ?_; show VC _ _ _ _ _ [(0, .v y31 l)] [] _; refine VC.seq (VC.text ?_); refine VO.c (.assign rfl) ?_; refine VO.go (VC.seq (VC.text ?_)); refine VO.c (.assign rfl) ?_; refine VO.go (VC.seq (VC.seq (VC.text ?_))); refine VO.c (.move rfl) ?_; refine VO.r (.len el31) ?_; refine VO.c (.move rfl) ?_; refine VO.go (VC.block ?_); refine VC.keep [(3, I (0 : Int)), (6, .v y31 l), (7, I ((l.length : Nat) : Int)), (8, I ((0 : Nat) : Int))] ⟨rfl, rfl, rfl, rfl, trivial⟩ ?_; refine VC.loop (I := fun kk ff ss => ∃ (j : Nat), kk = l.length - j ∧ ff = [(3, I (0 : Int)), (6, .v y31 l), (7, I ((l.length : Nat) : Int)), (8, I ((j : Nat) : Int))] ∧ ss = [] ∧ (j ≤ l.length) ∧ (firstE l = firstE (l.drop j))) ?_ _ _ _ ⟨0, rfl, rfl, rfl, Nat.zero_le _, (by rfl)⟩; rintro kk ff ss ⟨j, hk0, rfl, rfl, hj, hf⟩; refine VC.seq (VC.text ?_); refine VO.c (.lss) ?_; refine VO.go (VC.seq ?_); refine VC.condD rfl (fun c3 => ?_) (fun c3 => ?_)
  · refine VC.skip (VC.seq (VC.block (VC.seq (VC.text ?_)))); refine VO.c (.ix (j := j) rfl rfl el31 (by omega)) ?_; refine VO.r (.ld vt3) ?_; refine VO.c (.assign rfl) ?_; refine VO.go (VC.seq (VC.text ?_)); refine VO.c (.move rfl) (VO.c (.move rfl) (VO.c (.neq) (VO.go ?_))); refine VC.condD rfl (fun c5 => ?_) (fun c5 => ?_)
    · refine VC.seq (VC.text ?_); refine VO.c (.move rfl) (VO.c (.assign rfl) (VO.go ?_)); refine VC.ret ?_; exact VEnd.one rfl evT (pvI (by rw [hf, firstE_drop (by omega), if_neg c5]))
    refine VC.skip (VC.text ?_); refine VO.c (.add rfl rfl (by omega)) (VO.c (.move rfl) ?_); refine VO.nil ?_; refine ⟨_, [(3, I (0 : Int)), (6, .v y31 l), (7, I ((l.length : Nat) : Int)), (8, I (((j + 1) : Nat) : Int))], ?_, ⟨rfl, rfl, rfl, rfl, trivial⟩, (j + 1), rfl, rfl, rfl, (by omega), (by rw [hf, firstE_drop (by omega), if_pos (by simpa using c5)])⟩; omega
  refine VC.exit (VC.seq (VC.text ?_)); refine VO.c (.move rfl) (VO.c (.assign rfl) (VO.go ?_)); refine VC.ret ?_; exact VEnd.one rfl evT (pvI (by rw [hf, firstE_end (by omega)]))
def cmpP (a b : Pc × Int) : Int := firstE [cmpI a.1.1 b.1.1, cmpI a.2 b.2, cmpI a.1.2.2.1 b.1.2.2.1, cmpI a.1.2.2.2.1 b.1.2.2.2.1]
theorem sCmpP_ok {a : (Int × ByteArray × Int × Int × (List Nat)) × Int} {b : (Int × ByteArray × Int × Int × (List Nat)) × Int} : VF Tryz.prog OA 38 [.v y104 a, .v y104 b] (I (cmpP a b)) := by
  refine VF.enter Tryz.func38 rfl (fun _ _ => rfl) rfl ?_; show VC _ _ _ _ _ [(0, .v y104 a), (1, .v y104 b)] [] _; refine VC.seq (VC.text ?_); refine VO.new (.box) ?_; refine VO.new (.box) ?_; refine VO.c (.assign rfl) ?_; refine VO.go (VC.seq (VC.drawn ?_)); refine VD.c (.fa (.l .o)) (VD.c (.fa (.l .o)) ?_); refine VD.r [] (.ld vt3) (.inl rfl) ?_; refine VD.c (.fa (.l .o)) (VD.c (.fa (.l .o)) ?_); refine VD.r [] (.ld vt3) (.inl rfl) ?_; refine VD.nw [] ?_; refine VD.call rfl rfl (VF.call (cCmp_ok )) ?_; refine VD.c (.fa (.r .o)) ?_; refine VD.r [] (.ld vt3) (.inl rfl) ?_; refine VD.c (.fa (.r .o)) ?_; refine VD.r [] (.ld vt3) (.inl rfl) ?_; refine VD.call rfl rfl (VF.call (cCmp_ok )) ?_; refine VD.c (.fa (.l .o)) (VD.nw [] (VD.c (.fa (.r (.r (.l .o)))) ?_)); refine VD.r [] (.ld vt3) (.inl rfl) ?_; refine VD.c (.fa (.l .o)) (VD.c (.fa (.r (.r (.l .o)))) ?_); refine VD.r [] (.ld vt3) (.inl rfl) ?_; refine VD.call rfl rfl (VF.call (cCmp_ok )) ?_; refine VD.c (.fa (.l .o)) (VD.nw [] (VD.c (.fa (.r (.r (.r (.l .o))))) ?_)); refine VD.r [] (.ld vt3) (.inl rfl) ?_; refine VD.c (.fa (.l .o)) (VD.c (.fa (.r (.r (.r (.l .o))))) ?_); refine VD.r [] (.ld vt3) (.inl rfl) ?_; refine VD.call rfl rfl (VF.call (cCmp_ok )) ?_; refine VD.new (.lit [cmpI a.1.1 b.1.1, cmpI a.2 b.2, cmpI a.1.2.2.1 b.1.2.2.1, cmpI a.1.2.2.2.1 b.1.2.2.2.1] el31) ?_; refine VD.nw [31] ?_; refine VD.callO rfl rfl (VF.call (cOr_ok (by first | assumption | omega | simp))) ?_; refine VD.c (.assign rfl) (VD.go ?_); refine VC.ret ?_; exact VEnd.one rfl evT (pvI (by first | rfl | simp))
theorem sMapPl_ok {F : Int × ByteArray × Int × Int × List Nat → (Int × ByteArray × Int × Int × List Nat) × Int} {l : List (Int × ByteArray × Int × Int × (List Nat))} {f : PV} (hl : l.length < 100000) (hf : ∀ x ∈ l, VCall Tryz.prog OA f [.v y43 x] (.v y104 (F x))) : VF Tryz.prog OA 88 [.v y33 l, f] (.v y101 (l.map F)) := by
  refine VF.enter Tryz.func88 rfl (fun _ _ => rfl) rfl ?_; show VC _ _ _ _ _ [(0, .v y33 l), (1, f)] [] _; refine VC.seq (VC.text ?_); refine VO.c (.assign rfl) ?_; refine VO.go (VC.seq (VC.text ?_)); refine VO.c (.assign rfl) ?_; refine VO.go (VC.seq (VC.seq (VC.text ?_))); refine VO.c (.move rfl) ?_; refine VO.r (.len el33) ?_; refine VO.c (.move rfl) ?_; refine VO.go (VC.block ?_); refine VC.cell0 104 y104 ?_; refine VC.keep [(1, f), (5, .raw (.slice none 0 0)), (8, .v y33 l), (9, I ((l.length : Nat) : Int)), (10, I ((0 : Nat) : Int))] ⟨rfl, rfl, rfl, rfl, rfl, trivial⟩ ?_; refine VC.loop (I := fun kk ff ss => ∃ (j : Nat) (out : Value), kk = l.length - j ∧ ff = [(1, f), (5, .raw out), (8, .v y33 l), (9, I ((l.length : Nat) : Int)), (10, I ((j : Nat) : Int))] ∧ ss = [(out, .row 104 y104 ((l.take j).map F))] ∧ (j ≤ l.length)) ?_ _ _ _ ⟨0, (.slice none 0 0), rfl, rfl, rfl, Nat.zero_le _⟩; rintro kk ff ss ⟨j, out, hk0, rfl, rfl, hj⟩; refine VC.seq (VC.text ?_); refine VO.c (.lss) ?_; refine VO.go (VC.seq ?_); refine VC.condD rfl (fun c3 => ?_) (fun c3 => ?_)
  · refine VC.skip (VC.seq (VC.block (VC.seq (VC.text ?_)))); refine VO.c (.ix (j := j) rfl rfl el33 (by omega)) ?_; refine VO.r (.ld vt43) ?_; refine VO.cell (.alloc zt43) ?_; intro ww1; refine VO.setV (cs' := [I ((l[j]).1), St ((l[j]).2.1), I ((l[j]).2.2.1), I ((l[j]).2.2.2.1), .v y41 ((l[j]).2.2.2.2)]) vt43 .v ?_; refine VO.shut [(7, .p y43 (l[j]))] (.cons rfl (.var m0 .refl) .nil) ?_; refine VO.go (VC.text ?_); refine VO.c (.move rfl) (VO.c (.move rfl) ?_); refine VO.r (.ld vt43) ?_; refine VO.call rfl rfl ((hf _ (List.getElem_mem _)) ) ?_; refine VO.new (.lit [F (l[j])] el101) ?_; refine VO.app rfl rfl el101 el101 (by simp; omega) ?_; intro ww2; refine VO.c (.assign rfl) ?_; refine VO.nil (VC.text ?_); refine VO.c (.add rfl rfl (by omega)) (VO.c (.move rfl) ?_); refine VO.nil ?_; refine ⟨_, [(1, f), (5, .raw ww2), (8, .v y33 l), (9, I ((l.length : Nat) : Int)), (10, I (((j + 1) : Nat) : Int))], ?_, ⟨rfl, rfl, rfl, rfl, rfl, trivial⟩, (j + 1), ww2, rfl, rfl, (by rw [List.take_succ_eq_append_getElem (by omega), List.map_append] <;> rfl), (by omega)⟩; omega
  refine VC.exit (VC.seq (VC.text ?_)); refine VO.c (.move rfl) (VO.c (.assign rfl) (VO.go ?_)); refine VC.ret ?_; exact VEnd.one rfl (evC (.row m0)) (pvE (by rw [List.take_of_length_le (by omega)]))
def plE (d : Dom) (p : Pc) : Pc × Int := (p, (hasM d p.2.1).getD 0)
theorem sPl1_ok {p : Int × ByteArray × Int × Int × (List Nat)} {m : List (ByteArray × Int)} : VF Tryz.prog OA 89 [.v y43 p, .p y131 m] (.v y104 (p, (mget m p.2.1).getD 0)) := by
  refine VF.enter Tryz.func89 rfl (fun _ _ => rfl) rfl ?_; show VC _ _ _ _ _ [(0, .v y43 p), (1, .p y131 m)] [] _; refine VC.seq (VC.text ?_); refine VO.new (.box) ?_; refine VO.cell (.alloc zt104) ?_; intro ww3; refine VO.go (VC.seq (VC.text ?_)); refine VO.r (.ld vt43) ?_; refine VO.r (.ld vt131) ?_; refine VO.c (.fa (.r (.l .o))) ?_; refine VO.r (.ld vt9) ?_; refine VO.r (.look mt131) ?_; refine VO.c (.build (p, ((mget m p.2.1).getD 0)) bt104) ?_; refine VO.setV (cs' := [I p.1, St p.2.1, I p.2.2.1, I p.2.2.2.1, .v y41 p.2.2.2.2, I ((mget m p.2.1).getD 0)]) vt104 .v ?_; refine VO.go ?_; refine VC.ret ?_; exact VEnd.one rfl (.cell (x := (p, ((mget m p.2.1).getD 0))) rfl m0 vt104 .refl) (pvE (by first | rfl | simp))
theorem sPl_ok {d : Int × Int × Int × (List (ByteArray × Int))} {l : List (Int × ByteArray × Int × Int × (List Nat))} (hd : d.2.2.2.length ≤ 16) (hl : l.length < 100000) : VF Tryz.prog OA 36 [.v y39 d, .v y33 l] (.v y101 (l.map (plE d))) := by
  refine VF.enter Tryz.func36 rfl (fun _ _ => rfl) rfl ?_; show VC _ _ _ _ _ [(0, .v y39 d), (1, .v y33 l)] [] _; refine VC.seq (VC.text ?_); refine VO.new (.box) ?_; refine VO.c (.assign rfl) ?_; refine VO.go (VC.seq (VC.text ?_)); refine VO.r (.ld vt39) ?_; refine VO.call rfl rfl (VF.call (sMems_ok hd)) ?_; refine VO.cell (.alloc zt131) ?_; intro ww4; refine VO.setV (cs' := [.v y131 (idxM d.2.2.2 d.2.2.2.length)]) vt131 .v ?_; refine VO.shut [(5, .p y131 (idxM d.2.2.2 d.2.2.2.length))] (.cons rfl (.var m0 .refl) .nil) ?_; refine VO.go (VC.seq (VC.text ?_)); refine VO.c (.move rfl) (VO.c (.func) ?_); refine VO.call rfl rfl (VF.call (sMapPl_ok (F := plE d) hl (fun _ _ => VF.clo sPl1_ok))) ?_; refine VO.c (.assign rfl) (VO.go ?_); refine VC.ret ?_; exact VEnd.one rfl evT (pvE (by first | rfl | simp))
def pcA (l : List Pc) (i : Nat) : Pc := l.getD i (0, ByteArray.empty, 0, 0, [])
theorem pcA_eq {l : List Pc} {i : Nat} (h : i < l.length) : l[i] = pcA l i := by simp [pcA, h]
def pieceE (d : Dom) (l : List Pc) (i : Nat) : Int := firstE [pcE d (pcA l i), whenE (decide (0 < i) && decide (0 ≤ cmpP (plE d (pcA l (i - 1))) (plE d (pcA l i)))) 11]
def storeP (d : Dom) (l : List Pc) : Int := firstE [domE d, whenE (decide ((4096 : Int) < l.length)) 5]
def storeE (d : Dom) (l : List Pc) : Int := if storeP d l = 0 then firstE ((List.range l.length).map (pieceE d l)) else storeP d l
theorem storeP_ok {d : Dom} {l : List Pc} (h : storeP d l = 0) : domE d = 0 ∧ l.length ≤ 4096 := by
  unfold storeP at h; rw [firstE_zero] at h; have h1 := whenE_zero (by decide) (h _ (List.mem_cons_of_mem _ List.mem_cons_self)); exact ⟨h _ List.mem_cons_self, by omega⟩
theorem piece_t {d : Dom} {l : List Pc} {i j : Nat} (h : i < l.length) (hi : 0 < i) (hj : j < (l.map (plE d)).length) (hj' : i < (l.map (plE d)).length) (e : j = i - 1) : firstE [pcE d ((l.map (plE d))[i]).1, whenE (decide (0 ≤ cmpP ((l.map (plE d))[j]) ((l.map (plE d))[i]))) 11] = pieceE d l i := by
  subst e; rw [pieceE, List.getElem_map, List.getElem_map, pcA_eq, pcA_eq, decide_eq_true hi, Bool.true_and] <;> rfl
theorem piece_f {d : Dom} {l : List Pc} {i : Nat} (h : i < l.length) (hi : ¬ 0 < i) (hj' : i < (l.map (plE d)).length) : firstE [pcE d ((l.map (plE d))[i]).1, whenE false 11] = pieceE d l i := by
  rw [pieceE, List.getElem_map, pcA_eq, decide_eq_false hi, Bool.false_and] <;> rfl
theorem sStore_ok {d : Int × Int × Int × (List (ByteArray × Int))} {l : List (Int × ByteArray × Int × Int × (List Nat))} (hl : l.length < 100000) (hv : ∀ p ∈ l, p.2.2.2.2.length < 100000) : VF Tryz.prog OA 12 [.v y39 d, .v y33 l] (I (storeE d l)) := by
  refine VF.enter Tryz.func12 rfl (fun _ _ => rfl) rfl ?_; show VC _ _ _ _ _ [(0, .v y39 d), (1, .v y33 l)] [] _; refine VC.seq (VC.text ?_); refine VO.new (.box) ?_; refine VO.c (.assign rfl) ?_; refine VO.go (VC.seq (VC.seq (VC.text ?_))); refine VO.r (.ld vt39) ?_; refine VO.call rfl rfl (VF.call (sDom_ok )) ?_; refine VO.c (.move rfl) ?_; refine VO.r (.len el33) ?_; refine VO.c (.gtr) ?_; refine VO.call rfl rfl (VF.call (sWhen_ok )) ?_; refine VO.new (.lit [domE d, whenE (decide ((4096 : Int) < ((l.length : Nat) : Int))) (5 : Int)] el164) ?_; refine VO.call rfl rfl (VF.call (sFirst_ok (by first | assumption | omega | simp))) ?_; refine VO.c (.assign rfl) ?_; refine VO.go (VC.seq (VC.text ?_)); refine VO.c (.move rfl) (VO.c (.neq) (VO.go ?_)); refine VC.condD rfl (fun c2 => ?_) (fun c2 => ?_)
  · have c2' : ¬ storeP d l = 0 := c2; refine VC.seq (VC.text ?_); refine VO.c (.move rfl) (VO.c (.assign rfl) (VO.go ?_)); refine VC.ret ?_; exact VEnd.one rfl evT (pvI (by rw [storeE, if_neg c2'] <;> rfl))
  have c2' : storeP d l = 0 := by simpa [storeP] using c2
  have hs := storeP_ok c2'; have hdd := dom_ok hs.1; refine VC.skip (VC.seq (VC.text ?_)); refine VO.r (.ld vt39) ?_; refine VO.c (.move rfl) ?_; refine VO.call rfl rfl (VF.call (sPl_ok (by omega) hl)) ?_; refine VO.c (.assign rfl) ?_; refine VO.go (VC.seq (VC.seq (VC.text ?_))); refine VO.c (.move rfl) ?_; refine VO.r (.len el101) ?_; refine VO.c (.move rfl) ?_; refine VO.go (VC.block ?_); refine VC.keep [(2, .p y39 d), (6, .v y101 (l.map (plE d))), (24, .v y101 (l.map (plE d))), (25, I (((l.map (plE d)).length : Nat) : Int)), (26, I ((0 : Nat) : Int))] ⟨rfl, rfl, rfl, rfl, rfl, trivial⟩ ?_; refine VC.loop (I := fun kk ff ss => ∃ (i : Nat), kk = l.length - i ∧ ff = [(2, .p y39 d), (6, .v y101 (l.map (plE d))), (24, .v y101 (l.map (plE d))), (25, I (((l.map (plE d)).length : Nat) : Int)), (26, I ((i : Nat) : Int))] ∧ ss = [] ∧ (i ≤ l.length) ∧ (∀ k, k < i → pieceE d l k = 0)) ?_ _ _ _ ⟨0, rfl, rfl, rfl, Nat.zero_le _, (by intro k hk; omega)⟩; rintro kk ff ss ⟨i, hk0, rfl, rfl, hi, hz⟩; refine VC.seq (VC.text ?_); refine VO.c (.lss) ?_; refine VO.go (VC.seq ?_); refine VC.condD rfl (fun c6 => ?_) (fun c6 => ?_)
  · have hi' : i < l.length := by simpa using c6
    refine VC.skip (VC.seq (VC.block (VC.seq (VC.text ?_)))); refine VO.c (.move rfl) (VO.c (.ix (j := i) rfl rfl el101 (by simp; omega)) ?_); refine VO.r (.ld vt104) ?_; refine VO.cell (.alloc zt104) ?_; intro ww5; refine VO.c (.assign rfl) ?_; refine VO.setV (cs' := [I ((((l.map (plE d))[i]).1).1), St ((((l.map (plE d))[i]).1).2.1), I ((((l.map (plE d))[i]).1).2.2.1), I ((((l.map (plE d))[i]).1).2.2.2.1), .v y41 ((((l.map (plE d))[i]).1).2.2.2.2), I (((l.map (plE d))[i]).2)]) vt104 .v ?_; refine VO.shut [(8, .p y104 ((l.map (plE d))[i]))] (.cons rfl (.var m0 .refl) .nil) ?_; refine VO.go (VC.seq ?_); refine VC.join [(2, .p y39 d), (6, .v y101 (l.map (plE d))), (9, I (pieceE d l i)), (24, .v y101 (l.map (plE d))), (25, I (((l.map (plE d)).length : Nat) : Int)), (26, I ((i : Nat) : Int))] [] ?_ ?_
    · skip
      refine VC.drawn ?_; refine VD.r [] (.ld vt39) (.inl rfl) ?_; refine VD.c (.fa (.l .o)) ?_; refine VD.r [] (.ld vt43) (.inl rfl) ?_; refine VD.call rfl rfl (VF.call (sPc_ok hs.1 (by simp only [List.getElem_map]; exact hv _ (List.getElem_mem _)))) ?_; refine VD.c (.move rfl) (VD.c (.gtr) (VD.nw [] (VD.c (.move rfl) ?_))); refine VD.splitD (x := 37) rfl (fun g8_6 => ?_) (fun g8_6 => ?_)
      · refine VD.c (.move rfl) (VD.c (.move rfl) (VD.c (.sub rfl rfl (by omega)) ?_)); refine VD.r [] (.max) (.inl rfl) ?_; refine VD.c (.ixZ (k := (max (0 : Int) (((i : Nat) : Int) - (1 : Int)))) rfl rfl el101 (by omega) (by simp; omega)) (VD.nw [] ?_); refine VD.r [] (.ld vt104) (.inl rfl) ?_; refine VD.r [] (.ld vt104) (.inl rfl) ?_; refine VD.call rfl rfl (VF.call (sCmpP_ok )) ?_; refine VD.c (.geq) (VD.c (.pickT rfl rfl) ?_); refine VD.call rfl rfl (VF.call (sWhen_ok )) ?_; refine VD.new (.lit [pcE d (((l.map (plE d))[i]).1), whenE (decide ((0 : Int) ≤ cmpP ((l.map (plE d))[Int.toNat (max (0 : Int) (((i : Nat) : Int) - (1 : Int)))]) ((l.map (plE d))[i]))) (11 : Int)] el164) ?_; refine VD.nw [49] ?_; refine VD.callO rfl rfl (VF.call (sFirst_ok (by first | assumption | omega | simp))) ?_; refine VD.c (.assign rfl) ?_; refine VD.nil ?_; exact ⟨⟨rfl, rfl, slI rfl (by first | exact piece_t hi' (by omega) _ _ (by omega) | exact piece_f hi' (by omega) _), rfl, rfl, rfl, trivial⟩, rfl⟩
      refine VD.skip (VD.skip (VD.skip (VD.skip ?_))); refine VD.skip (VD.nw [] (VD.skip (VD.skip ?_))); refine VD.skip (VD.skip (VD.c (.pickF rfl rfl) ?_)); refine VD.call rfl rfl (VF.call (sWhen_ok )) ?_; refine VD.new (.lit [pcE d (((l.map (plE d))[i]).1), whenE false (11 : Int)] el164) ?_; refine VD.nw [49] ?_; refine VD.callO rfl rfl (VF.call (sFirst_ok (by first | assumption | omega | simp))) ?_; refine VD.c (.assign rfl) ?_; refine VD.nil ?_; exact ⟨⟨rfl, rfl, slI rfl (by first | exact piece_t hi' (by omega) _ _ (by omega) | exact piece_f hi' (by omega) _), rfl, rfl, rfl, trivial⟩, rfl⟩
    refine VC.seq (VC.text ?_); refine VO.c (.move rfl) (VO.c (.neq) (VO.go ?_)); refine VC.condD rfl (fun c9 => ?_) (fun c9 => ?_)
    · refine VC.seq (VC.text ?_); refine VO.c (.move rfl) (VO.c (.assign rfl) (VO.go ?_)); refine VC.ret ?_; exact VEnd.one rfl evT (pvI (by rw [storeE, if_pos c2', ← firstE_range hi' hz c9]))
    refine VC.skip (VC.text ?_); refine VO.c (.add rfl rfl (by omega)) (VO.c (.move rfl) ?_); refine VO.nil ?_; refine ⟨_, [(2, .p y39 d), (6, .v y101 (l.map (plE d))), (24, .v y101 (l.map (plE d))), (25, I (((l.map (plE d)).length : Nat) : Int)), (26, I (((i + 1) : Nat) : Int))], ?_, ⟨rfl, rfl, rfl, rfl, rfl, trivial⟩, (i + 1), rfl, rfl, rfl, (by omega), (by intro k hk; rcases Nat.lt_succ_iff_lt_or_eq.1 hk with h | h; exact hz k h; subst h; simpa using c9)⟩; omega
  have hi' : l.length ≤ i := by simpa using c6
  refine VC.exit (VC.seq (VC.text ?_)); refine VO.c (.assign rfl) (VO.go ?_); refine VC.ret ?_; exact VEnd.one rfl evT (pvI (by rw [storeE, if_pos c2']; exact firstE_range0 (fun k hk => hz k (by omega))))
end Go.Proofs
namespace Go.Fs
variable {P : Program} {orc : FuncId → List Value → Heap → Option (Value × Heap)} {fl : VL} {σ : Sto} {T T' e ty : TypeId} {τ : Ty} {ops : Array Oper} {n : Nat} {l : List Oper} {K : VL → Sto → Prop} {d : Tmp} {pos : String} {after : Array Edge} {g : Option (Nat × Bool)} {x y : Operand} {xs : List τ.den}
theorem keyAggB {K : TypeId} {κ : Ty} (hE : EqT P K κ) (hB : (match P.underlying K with | some td => isAggD td | none => false) = true) (ha : κ.agg = true) (hf : κ.isFlat = true) (hc : ∀ (em : Bool) (x : κ.den), (runPure P (Instr.checkKey em 10000 K (.agg (κ.flatC x).toArray))).isSome = true) : KeyT P K κ := by
  cases h : P.underlying K with
  | none => rw [h] at hB; cases hB
  | some td => rw [h] at hB; exact keyAgg hE h hB ha hf hc
theorem agg_one {w : Value} (h : oneCell w = true) : isAggV w = false := by
  cases w <;> first | rfl | cases h
end Go.Fs
namespace Go.Fs
variable {P : Program} {orc : FuncId → List Value → Heap → Option (Value × Heap)} {h h1 h2 h' : Heap} {S S0 : List Nat} {σ γ σr : Sto} {fl : VL} {ops : Array Oper} {n : Nat} {l : List Oper} {K : VL → Sto → Prop} {d : Tmp} {ty : TypeId} {pos : String} {after : Array Edge} {g : Option (Nat × Bool)}
theorem stepAt_yield {o : Oper} {c : Call} {f : Operand} {j : Nat} {ev : Operand → Value} (ho : o.op = .call c) (hc : c.callee = .value f) (hf : ev f = .func (.yield j) #[] #[]) (m : Nat) (h : Heap) :
    stepAt P orc m o ev h = fsYield (fsCode P orc m) j (c.args.toList.map ev) h := by
  unfold stepAt fsOp; rw [ho]; simp only [hc, hf]
theorem EvO.yield {QO : Tr → Heap → Prop} {o : Oper} {t : Tr} {c : Call} {f : Operand} {j : Nat} (hw : fsWanted ops t o = some true) (ho : o.op = .call c) (hc : c.callee = .value f) (hf : evalO t f = .func (.yield j) #[] #[])
    (hl : EvY P orc j (c.args.toList.map (evalO t)) h fun v h' => ∃ t', put n t o.dst v = some t' ∧ EvO P orc ops n l t' h' QO) : EvO P orc ops n (o :: l) t h QO := by
  obtain ⟨m, v, h1, hr, t1, hp, k, t2, h2, hr2, hq⟩ := hl; refine ⟨max m k, t2, h2, ?_, hq⟩; have h3 := fsYield_mono (fsCode_mono (P := P) (orc := orc) (Nat.le_max_left m k)) _ _ _ _ hr; have h4 : stepM P orc (max m k) o (evalO t) h = some (v, h1) := stepAt_M _ _ _ _ (by rw [stepAt_yield ho hc hf]; exact h3); simp only [fsOps, hw, h4, hp]; exact fsOps_mono (stepM_mono (Nat.le_max_right m k)) _ _ _ _ hr2
theorem EvY.mono {j : Nat} {args : List Value} {Q Q' : Value → Heap → Prop} (hc : EvY P orc j args h Q) (hq : ∀ v h', Q v h' → Q' v h') : EvY P orc j args h Q' :=
  let ⟨m, v, h', h1, h2⟩ := hc; ⟨m, v, h', h1, hq _ _ h2⟩
theorem EvY.round {Q : Value → Heap → Prop} {j : Nat} {j0 : Option Code} {tmps t : Tr} {params : Array Tmp} {assign body : Code} {dm : Nat} {args : List Value} (hg : h.get j = some (.loopo .ready j0 tmps n params assign body dm)) (hlen : Nat.beq args.length params.size = true) (ht : setAll n tmps (params.toList.zip args) = some t)
    (ha : EvC P orc (some j) assign ⟨t, n, []⟩ h fun e fr h1 => e = .normal ∧ ∃ jp tm n' ps' as' bo' d', h1.get j = some (.loopo .ready jp tm n' ps' as' bo' d') ∧
      EvC P orc (some j) body fr (h1.set j (.loopo .busy jp tm n' ps' as' bo' d')) fun e _ h2 => ∃ st jp2 tm2 n2 ps2 as2 bo2 d2, h2.get j = some (.loopo st jp2 tm2 n2 ps2 as2 bo2 d2) ∧
        Q (.bool (jumpOf e).isNone) (h2.set j (.loopo (bif (jumpOf e).isNone then .ready else .done) (jumpOf e) tm2 n2 ps2 as2 bo2 d2))) : EvY P orc j args h Q := by
  obtain ⟨m, e, fr, h1, hr, rfl, jp, tm, n', ps', as', bo', d', hg1, k, e2, fr2, h2, hr2, st, jp2, tm2, n2, ps2, as2, bo2, d2, hg2, hq⟩ := ha; refine ⟨max m k, _, _, ?_, hq⟩; have a1 := fsCode_mono (P := P) (orc := orc) (Nat.le_max_left m k) _ _ _ _ _ hr; have a2 := fsCode_mono (P := P) (orc := orc) (Nat.le_max_right m k) _ _ _ _ _ hr2; unfold fsYield; simp only [hg, hlen, cond_true, ht, a1, hg1, a2, hg2]
def EvFK (P : Program) (orc : FuncId → List Value → Heap → Option (Value × Heap)) (f : FuncId) (args : List Value) (h : Heap) (Q : Value → Heap → Prop) : Prop := ∃ m v h', fsEnterK P true (fsCode P orc m) f args h = some (v, h') ∧ Q v h'
theorem EvFK.mono {f : FuncId} {args : List Value} {Q Q' : Value → Heap → Prop} (hc : EvFK P orc f args h Q) (hq : ∀ v h', Q v h' → Q' v h') : EvFK P orc f args h Q' :=
  let ⟨m, v, h', h1, h2⟩ := hc; ⟨m, v, h', h1, hq _ _ h2⟩
theorem EvFK.enter {f : FuncId} {args : List Value} {fn : Func} {c : Code} {QF : Value → Heap → Prop} (hfn : P.funcs[f]? = some fn) (hc : fn.body = some c) (hn : (Nat.blt 4000 fn.ntmps || Nat.blt fn.ntmps args.length) = false)
    (hb : EvC P orc none c ⟨fillTr .leaf 0 args, fn.ntmps, []⟩ { next := h.next, low := h.next, objs := h.objs } fun e fr h1 =>
      e.goes = true ∧ ∃ h2 vs, dropMarks fr.marks h1 = some h2 ∧ fsResults P fr.t h2 fn.results.toList = some vs ∧ QF (tupled vs) { next := h2.next, low := min h.low h2.low, objs := h2.objs }) : EvFK P orc f args h QF := by
  obtain ⟨m, e, fr, h1, hr, hg, h2, vs, hd, hvs, hq⟩ := hb; refine ⟨m, _, _, ?_, hq⟩; unfold fsEnterK; simp only [hfn, hc, hn, cond_false, hr, hg, cond_true, hd, hvs, Bool.not_true, Bool.false_and]
theorem EvC.rangeFunc {fr : Fr} {Q : Ex → Fr → Heap → Prop} {x : Operand} {f : FuncId} {a c : Array Value} {ps : Array Tmp} {assign body : Code} (hgv : evalO fr.t x = .func (.func f) a c)
    (hl : EvFK P orc f (a.toList ++ [.func (.yield (h.push .defd).next) #[] #[]] ++ c.toList) ((h.push .defd).push (.loopo .ready none fr.t fr.n ps assign body h.next)) fun _ h3 =>
      ∃ st e tm n' ps' as' bo' d', h3.get (h.push .defd).next = some (.loopo st (jumpOf e) tm n' ps' as' bo' d') ∧ st ≠ .busy ∧ Q e ⟨fr.t, fr.n, h.next :: fr.marks⟩ (h3.set (h.push .defd).next (.loopo .exhausted (jumpOf e) tm n' ps' as' bo' d'))) :
    EvC P orc none (.rangeFunc x ps assign body) fr h Q := by
  obtain ⟨m, v, h3, hr, st, e, tm, n', ps', as', bo', d', hg, hst, hq⟩ := hl; refine ⟨m + 1, e, _, _, ?_, hq⟩; show fsRangeFunc P (fsCode P orc m) none x ps assign body fr h = _; unfold fsRangeFunc fsMark; simp only [hgv, hr, hg]
  cases st with
  | busy => exact absurd rfl hst
  | _ => cases e <;> rfl
section
variable (P orc)
def VYG (yv : Value) (args : List PV) (γ : Sto) (Q : PV → Sto → Prop) : Prop := ∀ (h : Heap) (S : List Nat) (us : List Value), HOk h → (∀ b ∈ S, b < h.next) → (∀ c ∈ γ, CellR h (own γ ++ S) c.1 c.2) → (own γ).Nodup → (∀ b ∈ own γ, b ∉ S) → RepL h (own γ ++ S) args us →
  ∃ j, yv = .func (.yield j) #[] #[] ∧ EvY P orc j us h fun u h' => ∃ r γ', Q r γ' ∧ Made S h h' γ γ' ∧ RepPV h' (own γ' ++ S) r u
end
theorem VO.callY {f : Operand} {args : Array Operand} {ats : Array TypeId} {yv : Value} {asl : List PV} {Q : PV → Sto → Prop} (γ : Sto) (hσ : γ ++ σ = σr) (hf : evV fl f = some (.raw yv)) (ha : evVs fl args.toList = some asl) (hc : VYG P orc yv asl γ Q) (hk : ∀ r γ', Q r γ' → VO P orc ops n l ((d, r) :: fl) (γ' ++ σ) K)
    (hw : wantV ops fl g = some true := by rfl) (hn : (Nat.blt d n && Nat.ble n 4000) = true := by rfl) : VO P orc ops n (⟨some d, .call { callee := .value f, args := args, argTypes := ats }, ty, pos, after, g⟩ :: l) fl σr K := fun h0 G S0 t h ms Iv0 => by
  subst hσ; obtain ⟨n1, n2⟩ := fits hn; have L := Iv0.lc; have hap := L.apart; rw [own_app] at hap; obtain ⟨hap1, hap2, hap3⟩ := List.nodup_append.1 hap; have hfv : evalO t f = yv := evV_ok Iv0.slots hf; have hargs := evVs_ok Iv0.slots ha; rw [own_app, List.append_assoc] at hargs
  have hcells : ∀ c ∈ γ, CellR h (own γ ++ (own σ ++ S0)) c.1 c.2 := fun c hc => by
    have := L.cells c (List.mem_append_left _ hc)
    rwa [own_app, List.append_assoc] at this
  obtain ⟨j, hj, hY⟩ := hc h (own σ ++ S0) _ Iv0.ok (fun b hb => L.lt b (by
    rcases List.mem_append.1 hb with hb | hb
    · exact List.mem_append_left _ (by rw [own_app]; exact List.mem_append_right _ hb)
    · exact List.mem_append_right _ hb)) hcells hap1 (fun b hb hm => by
    rcases List.mem_append.1 hm with hm | hm
    · exact hap3 b hb b hm rfl
    exact L.sep b (by rw [own_app]; exact List.mem_append_left _ hb) hm) hargs
  refine EvO.yield (want_ok Iv0.slots hw) rfl rfl (hfv.trans hj) (hY.mono fun u h' hq => ?_); obtain ⟨r, γ', q1, q2, q3⟩ := hq; refine ⟨_, put_fits n1 t u, hk r γ' q1 h0 G S0 _ h' ms ((Iv0.made (Made.app L q2)).set ?_ n2)⟩; rw [own_app, List.append_assoc]; exact q3
def prmVL : List Tmp → List PV → VL → VL
  | p :: ps, a :: asl, fl => prmVL ps asl ((p, a) :: fl)
  | _, _, fl => fl
theorem slots_setAll (hn4 : n ≤ 4000) : ∀ {ps : List Tmp} {asl : List PV} {us : List Value} {t : Tr} {fl : VL}, (∀ p ∈ ps, Nat.blt p n = true) → Slots h S t fl → RepL h S asl us → ps.length = asl.length →
    ∃ t', setAll n t (ps.zip us) = some t' ∧ Slots h S t' (prmVL ps asl fl)
  | [], asl, us, t, fl, _, hs, hr, _ => ⟨t, by cases us <;> rfl, by cases asl <;> exact hs⟩
  | p :: ps, [], us, t, fl, _, hs, hr, hl => by cases hl
  | p :: ps, a :: asl, us, t, fl, hp, hs, ⟨u, r, h1, h2, h3⟩, hl => by
    subst h1; have hpn := hp p List.mem_cons_self; have hp4 : p < 4000 := Nat.lt_of_lt_of_le (nblt hpn) hn4; obtain ⟨t', e1, e2⟩ := slots_setAll (ps := ps) (asl := asl) (us := r) (t := t.set depth p u) (fl := (p, a) :: fl) hn4 (fun q hq => hp q (List.mem_cons_of_mem _ hq)) (hs.set h2 hp4) h3 (by simpa using hl); refine ⟨t', ?_, e2⟩; show setAll n t ((p, u) :: ps.zip r) = _; unfold setAll; rw [put_fits hpn]; exact e1
theorem VYG.round {yv : Value} {fl0 : VL} {ps : Array Tmp} {assign body : Code} {args : List PV} {Qb : Ex → VL → Sto → Prop} (hlen : ps.size = args.length) (hps : ∀ p ∈ ps.toList, Nat.blt p n = true) (hn4 : n ≤ 4000)
    (hb : ∀ j, VC P orc (some j) assign n (prmVL ps.toList args fl0) γ (fun e fl σ => e = .normal ∧ VC P orc (some j) body n fl σ Qb)) :
    VYG P orc yv args ((yv, .loop .ready none n fl0 ps assign body) :: γ) (fun r γ' => ∃ e fl σ', Qb e fl σ' ∧ r = .v .bool (jumpOf e).isNone ∧ γ' = (yv, .loop (bif (jumpOf e).isNone then .ready else .done) (jumpOf e) n fl0 ps assign body) :: σ') := by
  intro h S us hok hS hcells hnd hsep ha; obtain ⟨j, tmps, dm, hyv, hjS, hg, hsl⟩ := hcells _ List.mem_cons_self; have hyv' : yv = .func (.yield j) #[] #[] := hyv; subst hyv'; have how : ∀ (c : Cell) (s : Sto), own ((.func (.yield j) #[] #[], c) :: s) = j :: own s := fun c s => rfl; rw [how] at hcells hnd hsep ha hsl; obtain ⟨hj1, hnd2⟩ := List.nodup_cons.1 hnd; have hjn : j < h.next := hok j _ hg; have hjS' : j ∉ S := hsep j List.mem_cons_self
  have goes0 : Goes h (j :: own γ ++ S) h (own γ ++ (j :: S)) := Goes.less fun b hb => by
    rcases List.mem_append.1 hb with hb | hb
    · exact List.mem_append_left _ (List.mem_cons_of_mem _ hb)
    rcases List.mem_cons.1 hb with hb | hb
    · subst hb; exact List.mem_append_left _ List.mem_cons_self
    exact List.mem_append_right _ hb
  obtain ⟨t1, hset, hsl1⟩ := slots_setAll (n := n) hn4 hps hsl ha hlen; have hlu := ha.len
  have I1 : Iv h (own γ) (j :: S) h γ t1 [] (prmVL ps.toList args fl0) := {
    ok := hok
    s0 := fun b hb => by
      rcases List.mem_cons.1 hb with hb | hb
      · subst hb; exact hjn
      exact hS b hb
    aft := Aft.refl _ _
    cells := fun c hc => (hcells c (List.mem_cons_of_mem _ hc)).keep (fun _ _ => rfl) goes0 fun b hb => List.mem_append_left _ (List.mem_flatMap.2 ⟨c, hc, hb⟩)
    new := fun b hb => ⟨.inl hb, fun hm => by
      rcases List.mem_cons.1 hm with hm | hm
      · subst hm; exact hj1 hb
      exact hsep b (List.mem_cons_of_mem _ hb) hm⟩
    apart := hnd2
    mark := fun d hd => by cases hd
    marks := List.nodup_nil
    slots := hsl1.nx goes0 }
  refine ⟨j, rfl, EvY.round hg (by rw [hlu, ← hlen]; exact Nat.beq_refl _) hset ((hb j h (own γ) (j :: S) t1 h [] I1).mono fun e fr h1 hq => ?_)⟩; obtain ⟨hfn, fl1, σ1, Iv1, he, hbody⟩ := hq; have g1 : h1.get j = h.get j := Iv1.aft.get j hjn hj1; have hg1 := g1.trans hg; refine ⟨he, _, _, _, _, _, _, _, hg1, ?_⟩
  let B : AObj := .loopo .busy none tmps n ps assign body dm
  have hgB : ∀ b, (h1.set j B).get b = if b = j then some B else h1.get b := fun b => Heap.get_set hg1 ..; have hgA : ∀ b, (h.set j B).get b = if b = j then some B else h.get b := fun b => Heap.get_set hg ..; have hj2 : j ∉ own σ1 := fun hm => (Iv1.new j hm).2 List.mem_cons_self
  have goes1 : Goes h1 (own σ1 ++ (j :: S)) (h1.set j B) (own σ1 ++ (j :: S)) := fun b o hb hn => ⟨by
    rw [hgB, if_neg (fun e => hn (by subst e; exact List.mem_append_right _ List.mem_cons_self))]; exact hb, hn⟩
  have a2 := (Aft.set (h := h1) (o' := B) (B := [j]) hg1 List.mem_cons_self)
  have I2 : Iv (h.set j B) (own γ) (j :: S) (h1.set j B) σ1 fr.t fr.marks fl1 := {
    ok := a2.ok Iv1.ok
    s0 := I1.s0
    aft := {
      next := Iv1.aft.next
      get := fun b hb hn => by
        rw [hgB, hgA]; split
        · rfl
        exact Iv1.aft.get b hb hn
      ok := fun _ => a2.ok Iv1.ok
      low := fun e h3 h4 h5 => by
        have h6 : e ≤ h.low := Nat.le_trans h3 (Nat.min_le_left _ _); have h7 : e ≤ j := Nat.le_trans h3 (Nat.min_le_right _ _); exact Nat.le_min.2 ⟨Iv1.aft.low e h6 h4 h5, h7⟩
      chg := fun b hb => by
        rw [hgB, hgA]; by_cases e : b = j
        · rw [if_pos e, if_pos e]; exact .inl rfl
        rw [if_neg e, if_neg e]; rcases Iv1.aft.chg b hb with h3 | h3
        · exact .inl h3
        exact .inr (Nat.le_trans (Nat.min_le_left _ _) h3)
      lowle := by
        show min h1.low j ≤ min h.low j; have := Iv1.aft.lowle
        omega }
    cells := fun c hc => (Iv1.cells c hc).keep (fun b hb => by
      rw [hgB, if_neg (fun e => hj2 (by subst e; exact List.mem_flatMap.2 ⟨c, hc, hb⟩))]) goes1 fun b hb => List.mem_append_left _ (List.mem_flatMap.2 ⟨c, hc, hb⟩)
    new := Iv1.new
    apart := Iv1.apart
    mark := fun d hd => by
      obtain ⟨m1, m2⟩ := Iv1.mark d hd; refine ⟨m1, ?_⟩; rw [hgB, if_neg (fun e => by subst e; rw [hg1] at m2; cases m2)]; exact m2
    marks := Iv1.marks
    slots := Iv1.slots.nx goes1 }
  have hfr : fr = ⟨fr.t, n, fr.marks⟩ := by cases fr; cases hfn; rfl
  rw [hfr]; refine (hbody (h.set j B) (own γ) (j :: S) fr.t (h1.set j B) fr.marks I2).mono fun e2 fr2 h2 hq2 => ?_; obtain ⟨_, fl2, σ2, Iv2, hQb⟩ := hq2; have hj3 : j ∉ own σ2 := fun hm => (Iv2.new j hm).2 List.mem_cons_self
  have g2 : h2.get j = some B := by
    rw [Iv2.aft.get j hjn hj1, hgA, if_pos rfl]
  refine ⟨_, _, _, _, _, _, _, _, g2, .v .bool (jumpOf e2).isNone, _, ⟨e2, fl2, σ2, hQb, rfl, rfl⟩, ?_, RepV.ofBool _⟩
  let C : AObj := .loopo (bif (jumpOf e2).isNone then .ready else .done) (jumpOf e2) tmps n ps assign body dm
  have hgC : ∀ b, (h2.set j C).get b = if b = j then some C else h2.get b := fun b => Heap.get_set g2 ..; have at1 : Aft h (h.set j B) (j :: own γ) := Aft.set hg List.mem_cons_self; have at2 : Aft h h2 (j :: own γ) := at1.trans Iv2.aft fun i hi => .inl (List.mem_cons_of_mem _ hi); have at3 : Aft h (h2.set j C) (j :: own γ) := at2.trans (Aft.set (B := [j]) g2 List.mem_cons_self) fun i hi => .inl (by rw [List.mem_singleton.1 hi]; exact List.mem_cons_self)
  have hnew : ∀ b ∈ j :: own σ2, b ∈ j :: own γ ∨ h.next ≤ b := fun b hb => by
    rcases List.mem_cons.1 hb with hb | hb
    · subst hb; exact .inl List.mem_cons_self
    rcases (Iv2.new b hb).1 with h3 | h3
    · exact .inl (List.mem_cons_of_mem _ h3)
    exact .inr h3
  have goes3 : Goes h (j :: own γ ++ S) (h2.set j C) (j :: own σ2 ++ S) := at3.goes hok (fun b hb => List.mem_append_left _ hb) fun b hb => by
    rcases List.mem_append.1 hb with hb | hb
    · rcases hnew b hb with h3 | h3
      · exact .inl (List.mem_append_left _ h3)
      exact .inr h3
    exact .inl (List.mem_append_right _ hb)
  refine ⟨at3, hnew, List.nodup_cons.2 ⟨hj3, Iv2.apart⟩, fun c hc => ?_⟩; show CellR (h2.set j C) (j :: own σ2 ++ S) c.1 c.2; rcases List.mem_cons.1 hc with hc' | hc'
  · subst hc'; exact ⟨j, tmps, dm, rfl, List.mem_append_left _ List.mem_cons_self, by rw [hgC, if_pos rfl], hsl.nx goes3⟩
  refine (Iv2.cells c hc').keep (fun b hb => ?_) (fun b o hb hn => ⟨?_, fun hm => ?_⟩) fun b hb => List.mem_append_left _ (List.mem_cons_of_mem _ (List.mem_flatMap.2 ⟨c, hc', hb⟩))
  · rw [hgC, if_neg (fun e => hj3 (by subst e; exact List.mem_flatMap.2 ⟨c, hc', hb⟩))]
  · rw [hgC, if_neg (fun e => hn (by subst e; exact List.mem_append_right _ List.mem_cons_self))]; exact hb
  rcases List.mem_append.1 hm with hm | hm
  · rcases List.mem_cons.1 hm with hm | hm
    · exact hn (by subst hm; exact List.mem_append_right _ List.mem_cons_self)
    exact hn (List.mem_append_left _ hm)
  exact hn (List.mem_append_right _ (List.mem_cons_of_mem _ hm))
theorem VYG.mono {yv : Value} {args : List PV} {Q Q' : PV → Sto → Prop} (hy : VYG P orc yv args γ Q) (hq : ∀ r s, Q r s → Q' r s) : VYG P orc yv args γ Q' := fun h S us a1 a2 a3 a4 a5 a6 => by
  obtain ⟨j, e, hY⟩ := hy h S us a1 a2 a3 a4 a5 a6; exact ⟨j, e, hY.mono fun u h' ⟨r, γ', q1, q2⟩ => ⟨r, γ', hq _ _ q1, q2⟩⟩
section
variable (P orc)
def VFGK (f : FuncId) (args : List PV) (γ : Sto) (Q : Sto → Prop) : Prop := ∀ (h : Heap) (S : List Nat) (us : List Value), HOk h → (∀ b ∈ S, b < h.next) → (∀ c ∈ γ, CellR h (own γ ++ S) c.1 c.2) → (own γ).Nodup → (∀ b ∈ own γ, b ∉ S) → RepL h (own γ ++ S) args us →
  EvFK P orc f us h fun _ h' => ∃ γ', Q γ' ∧ Made S h h' γ γ'
def IterC {X : Type} (f : FuncId) (a c : List PV) (asl : X → List PV) (xs : List X) : Prop := ∀ (yv : Value) (I : List X → Sto → Prop) (E : Sto → Prop) (γ : Sto),
  (∀ x rest γ, I (x :: rest) γ → VYG P orc yv (asl x) γ fun r γ' => (r = .v .bool true ∧ I rest γ') ∨ (r = .v .bool false ∧ E γ')) → I xs γ → VFGK P orc f (a ++ [.raw yv] ++ c) γ fun γ' => I [] γ' ∨ E γ'
end
theorem VFGK.enter {f : FuncId} {args : List PV} {fn : Func} {c : Code} {Q : Sto → Prop} (hfn : P.funcs[f]? = some fn) (hc : fn.body = some c) (hres : fn.results.toList = []) (hn : (Nat.blt 4000 fn.ntmps || Nat.blt fn.ntmps args.length) = false)
    (hb : VC P orc none c fn.ntmps (argVL 0 args) γ (fun e _ σ => e.goes = true ∧ Q σ)) : VFGK P orc f args γ Q := fun h S us hok hS hcells hnd hsep ha => by
  have hl := ha.len
  have hn2 : Nat.blt 4000 fn.ntmps = false ∧ Nat.blt fn.ntmps args.length = false := by simpa using hn
  have n3 := nble_no hn2.1; have n4 := nble_no hn2.2; have ha' : RepL (entry h) (own γ ++ S) args us := RepL.nx (h := h) (h' := entry h) (fun _ _ a b => ⟨a, b⟩) ha
  have I0 : Iv (entry h) (own γ) S (entry h) γ (fillTr .leaf 0 us) [] (argVL 0 args) := {
    ok := hok
    s0 := hS
    aft := Aft.refl _ _
    cells := fun c hc => (hcells c hc).keep (fun _ _ => rfl) (fun _ _ a b => ⟨a, b⟩) fun b hb => List.mem_append_left _ (List.mem_flatMap.2 ⟨c, hc, hb⟩)
    new := fun b hb => ⟨.inl hb, hsep b hb⟩
    apart := hnd
    mark := fun d hd => by cases hd
    marks := List.nodup_nil
    slots := slots_args ha' (by omega) }
  refine EvFK.enter hfn hc (by rw [hl]; exact hn) ((hb (entry h) (own γ) S _ (entry h) [] I0).mono fun e fr h1 hq => ?_); obtain ⟨_, fl', σ', Iv1, he, hQ⟩ := hq; obtain ⟨h2, d1, d2, d3⟩ := drops_ok Iv1.marks fun d hd => (Iv1.mark d hd).2
  have hgd : ∀ b o, h1.get b = some o → o ≠ .defd → h2.get b = some o := fun b o hg hne => by
    rw [d3 b (fun hm => hne (by have := (Iv1.mark b hm).2; rw [hg] at this; exact Option.some.inj this))]; exact hg
  have a2 : Aft (entry h) h2 (own γ) := Iv1.aft.trans d2 fun i hi => .inr (Iv1.mark i hi).1
  have hrow : ∀ c ∈ σ', ∀ b ∈ blk c.1, h2.get b = h1.get b := fun c hc b hb => by
    obtain ⟨o, hg, hne⟩ := (Iv1.cells c hc).isObj b hb; rw [hgd b _ hg hne, hg]
  have hcell2 : ∀ c ∈ σ', CellR h2 (own σ' ++ S) c.1 c.2 := fun c hc => by
    have hx := Iv1.cells c hc; have hN : GoesR h1 (own σ' ++ S) h2 (own σ' ++ S) := fun b _ hg hne hbS => ⟨hgd b _ hg hne, hbS⟩; have hgb := hrow c hc; obtain ⟨w, cc⟩ := c
    cases cc with
    | row e τ xs =>
      rcases hx with hx | ⟨b, rs, m, h3, h4, h5, h6⟩
      · exact .inl hx
      exact .inr ⟨b, rs, m, h3, h4, hgd b _ h5 (by simp), h6.1, fun i hi => (h6.2 i hi).nxR hN⟩
    | var cs =>
      obtain ⟨b, e, vs, h3, h4, h5, h6, h7⟩ := hx
      exact ⟨b, e, vs, h3, h4, hgd b _ h5 (by simp), h6.nxR hN, h7⟩
    | cap e k τ xs =>
      obtain ⟨b, rs, m, h3, h4, h5, h6, h7, h8⟩ := hx
      exact ⟨b, rs, m, h3, h4, hgd b _ h5 (by simp), h6, h7, h8.1, fun i hi => (h8.2 i hi).nxR hN⟩
    | mp κ ν kvs =>
      obtain ⟨b, es, c, h3, h4, h5, h6, h7⟩ := hx
      exact ⟨b, es, c, h3, h4, hgd b _ h5 (by simp), h6, fun i hi hj => ⟨⟨(h7 i hi hj).1.1, (h7 i hi hj).1.2.nxR hN⟩, ⟨(h7 i hi hj).2.1, (h7 i hi hj).2.2.nxR hN⟩⟩⟩
    | it s pos =>
      obtain ⟨b, h3, h4, h5⟩ := hx
      exact ⟨b, h3, h4, hgd b _ h5 (by simp)⟩
    | loop st jump n fl ps assign body =>
      obtain ⟨l, tmps, d, h3, h4, h5, h6⟩ := hx
      exact ⟨l, tmps, d, h3, h4, hgd l _ h5 (by simp), h6.nxR hN⟩
    | cel e n cs =>
      rcases hx with hx | ⟨b, rs, m, h3, h4, h5, h6, h7⟩
      · exact .inl hx
      exact .inr ⟨b, rs, m, h3, h4, hgd b _ h5 (by simp), h6.nxR hN, h7⟩
  have hnew2 : ∀ b ∈ own σ', b ∈ own γ ∨ h.next ≤ b := fun b hb => (Iv1.new b hb).1; refine ⟨he, h2, [], d1, by rw [hres]; rfl, σ', hQ, ⟨⟨a2.next, a2.get, fun x => a2.ok x, fun e h3 h4 h5 => Nat.le_min.2 ⟨h3, a2.low e (Nat.le_trans h4 (Nat.le_refl _)) h4 h5⟩, fun b hb => ?_, Nat.min_le_left _ _⟩, hnew2, Iv1.apart, fun c hc => (hcell2 c hc).keep (fun _ _ => rfl) (fun _ _ a b => ⟨a, b⟩) fun b hb => List.mem_append_left _ (List.mem_flatMap.2 ⟨c, hc, hb⟩)⟩⟩; rcases a2.chg b hb with h3 | h3
  · exact .inl h3
  exact .inr (Nat.le_trans (Nat.min_le_right _ _) h3)
theorem IterC.enter {X : Type} {f : FuncId} {a c : List PV} {asl : X → List PV} {xs : List X} {fn : Func} {cd : Code} (hfn : P.funcs[f]? = some fn) (hc : fn.body = some cd) (hres : fn.results.toList = []) (hn : ∀ yv : Value, (Nat.blt 4000 fn.ntmps || Nat.blt fn.ntmps (a ++ [PV.raw yv] ++ c).length) = false)
    (hb : ∀ (yv : Value) (I : List X → Sto → Prop) (E : Sto → Prop) (γ : Sto), (∀ x rest γ, I (x :: rest) γ → VYG P orc yv (asl x) γ fun r γ' => (r = .v .bool true ∧ I rest γ') ∨ (r = .v .bool false ∧ E γ')) → I xs γ →
      VC P orc none cd fn.ntmps (argVL 0 (a ++ [.raw yv] ++ c)) γ (fun e _ σ => e.goes = true ∧ (I [] σ ∨ E σ))) : IterC P orc f a c asl xs := fun yv I E γ hy h0 => VFGK.enter hfn hc hres (hn yv) (hb yv I E γ hy h0)
theorem VC.rangeFunc {X : Type} {asl : X → List PV} {xs : List X} {f : FuncId} {a c : List PV} {x : Operand} {ps : Array Tmp} {assign body : Code} {Q : Ex → VL → Sto → Prop} (hg : evV fl x = some (.clo f a c)) (hit : IterC P orc f a c asl xs) (hlen : ∀ y, ps.size = (asl y).length) (hps : ps.toList.all (fun p => Nat.blt p n) = true) (hn4 : Nat.ble n 4000 = true)
    (I : List X → Sto → Prop) (E : Ex → Sto → Prop) (h0 : I xs σ)
    (hb : ∀ j y rest σ, I (y :: rest) σ → VC P orc (some j) assign n (prmVL ps.toList (asl y) fl) σ fun e fl' σ' => e = .normal ∧ VC P orc (some j) body n fl' σ' fun e _ σ' => (e = .normal ∧ I rest σ') ∨ (e ≠ .normal ∧ E e σ'))
    (h1 : ∀ σ', I [] σ' → Q .normal fl σ') (h2 : ∀ e σ', e ≠ .normal → E e σ' → Q e fl σ') : VC P orc none (.rangeFunc x ps assign body) n fl σ Q := fun hb0 G S0 t h ms Iv0 => by
  obtain ⟨va, vc, hv, ra, rc⟩ := (evV_ok Iv0.slots hg : RepPV h _ (.clo f a c) (evalO t x))
  let hm := h.push .defd
  let j := hm.next
  let yv : Value := .func (.yield j) #[] #[]
  let L : AObj := .loopo .ready none t n ps assign body h.next
  have hjd : j = h.next + 1 := rfl
  have hg2 : ∀ b, (hm.push L).get b = if b = h.next + 1 then some L else if b = h.next then some .defd else h.get b := fun b => by
    rw [Heap.get_push]; show (if b = h.next + 1 then _ else (h.push .defd).get b) = _; rw [Heap.get_push]
  have ap : Aft h (hm.push L) (j :: own σ) := (Aft.push h .defd _).trans (Aft.push hm L (j :: own σ)) fun i hi => .inl hi; have hlt : ∀ b ∈ own σ, b < h.next := own_lt Iv0.cells Iv0.ok; have Lc0 := Iv0.lc
  have goes0 : Goes h (own σ ++ S0) (hm.push L) (j :: own σ ++ S0) := fun b o hb hn => by
    have hbn : b < h.next := Iv0.ok b o hb; refine ⟨by rw [hg2, if_neg (by omega), if_neg (by omega)]; exact hb, fun hm2 => ?_⟩; rcases List.mem_append.1 hm2 with hm2 | hm2
    · rcases List.mem_cons.1 hm2 with hm2 | hm2
      · omega
      exact hn (List.mem_append_left _ hm2)
    exact hn (List.mem_append_right _ hm2)
  have hS0 : ∀ b ∈ S0, b < h.next := Lc0.s0
  have hj1 : j ∉ own σ := fun hm2 => by have := hlt j hm2; omega
  have hit2 := hit yv (fun rest γ => ∃ σ', γ = (yv, .loop .ready none n fl ps assign body) :: σ' ∧ I rest σ') (fun γ => ∃ e σ', e ≠ .normal ∧ γ = (yv, .loop .done (jumpOf e) n fl ps assign body) :: σ' ∧ E e σ') ((yv, .loop .ready none n fl ps assign body) :: σ)
    (fun y rest γ ⟨σ', hγ, hI⟩ => by
      subst hγ; refine (VYG.round (hlen y) (fun p hp => List.all_eq_true.1 hps p hp) (nble hn4) (fun jj => hb jj y rest σ' hI)).mono fun r s hq => ?_; obtain ⟨e, fl', σ2, hQ, rfl, rfl⟩ := hq; rcases hQ with ⟨rfl, hI2⟩ | ⟨hne, hE⟩
      · exact .inl ⟨rfl, σ2, rfl, hI2⟩
      refine .inr ⟨?_, e, σ2, hne, ?_, hE⟩
      · cases e <;> first | exact absurd rfl hne | rfl
      cases e <;> first | exact absurd rfl hne | rfl)
    ⟨σ, rfl, h0⟩
  have how : ∀ (c : Cell) (s : Sto), own ((yv, c) :: s) = j :: own s := fun c s => rfl; refine EvC.rangeFunc (fr := ⟨t, n, ms⟩) hv ((hit2 (hm.push L) S0 _ (ap.ok Iv0.ok) (fun b hb => by have := hS0 b hb; have := ap.next; omega) (fun cc hc => ?_) (by rw [how]; exact List.nodup_cons.2 ⟨hj1, Iv0.apart⟩) (fun b hb => ?_) ?_).mono fun u h3 hq => ?_)
  · rw [how]; rcases List.mem_cons.1 hc with hc' | hc'
    · subst hc'; exact ⟨j, t, h.next, rfl, List.mem_append_left _ List.mem_cons_self, by rw [hg2, if_pos hjd], Iv0.slots.nx goes0⟩
    refine (Iv0.cells cc hc').keep (fun b hb => ?_) goes0 fun b hb => List.mem_append_left _ (List.mem_cons_of_mem _ (List.mem_flatMap.2 ⟨cc, hc', hb⟩)); have := hlt b (List.mem_flatMap.2 ⟨cc, hc', hb⟩); rw [hg2, if_neg (by omega), if_neg (by omega)]
  · rw [how] at hb; intro hbs; rcases List.mem_cons.1 hb with hb | hb
    · have := hS0 b hbs; omega
    exact (Iv0.new b hb).2 hbs
  · rw [how]; have ry : RepL (hm.push L) (j :: own σ ++ S0) [.raw yv] [yv] := ⟨yv, [], rfl, rfl, rfl⟩; exact ((ra.nx goes0).append ry).append (rc.nx goes0)
  obtain ⟨γ', hq, made⟩ := hq
  have key : ∃ st e σ', st ≠ .busy ∧ γ' = (yv, .loop st (jumpOf e) n fl ps assign body) :: σ' ∧ Q e fl σ' := by
    rcases hq with ⟨σ', rfl, hI⟩ | ⟨e, σ', hne, rfl, hE⟩
    · exact ⟨.ready, .normal, σ', (fun e => by cases e), rfl, h1 σ' hI⟩
    exact ⟨.done, e, σ', (fun e => by cases e), rfl, h2 e σ' hne hE⟩
  obtain ⟨st, e, σ', hst, rfl, hQ⟩ := key; obtain ⟨j', tm, dm, hj', hjS, hgj, _⟩ := made.cells _ List.mem_cons_self
  have hjj : j = j' := by
    have : yv = .func (.yield j') #[] #[] := hj'; injection this with h5; injection h5
  subst hjj; refine ⟨st, e, tm, n, ps, assign, body, dm, hgj, hst, rfl, fl, σ', ?_, hQ⟩; have hnd := made.apart; rw [how] at hnd; obtain ⟨hj3, hnd2⟩ := List.nodup_cons.1 hnd
  let C : AObj := .loopo .exhausted (jumpOf e) tm n ps assign body dm
  have hgC : ∀ b, (h3.set j C).get b = if b = j then some C else h3.get b := fun b => Heap.get_set hgj ..; have ma : Aft (hm.push L) h3 (j :: own σ) := made.aft; have at3 : Aft h (h3.set j C) (j :: own σ) := (ap.trans ma fun i hi => .inl hi).trans (Aft.set (B := [j]) hgj List.mem_cons_self) fun i hi => .inl (by rw [List.mem_singleton.1 hi]; exact List.mem_cons_self)
  have hnew : ∀ b ∈ own σ', b ∈ own σ ∨ h.next ≤ b := fun b hb => by
    rcases made.new b (by rw [how]; exact List.mem_cons_of_mem _ hb) with h5 | h5
    · rw [how] at h5; rcases List.mem_cons.1 h5 with h5 | h5
      · subst h5; exact absurd hb hj3
      exact .inl h5
    have := ap.next; exact .inr (by omega)
  have goes3 : Goes h (own σ ++ S0) (h3.set j C) (own σ' ++ S0) := fun b o hb hn => by
    have hbn : b < h.next := Iv0.ok b o hb
    refine ⟨by rw [at3.get b hbn (fun hm2 => by
      rcases List.mem_cons.1 hm2 with hm2 | hm2
      · omega
      exact hn (List.mem_append_left _ hm2))]; exact hb, fun hm2 => ?_⟩
    rcases List.mem_append.1 hm2 with hm2 | hm2
    · rcases hnew b hm2 with h5 | h5
      · exact hn (List.mem_append_left _ h5)
      omega
    exact hn (List.mem_append_right _ hm2)
  have hdef : h3.get h.next = some .defd := by
    rw [ma.get h.next (by show h.next < h.next + 1 + 1; omega) (fun hm2 => by
      rcases List.mem_cons.1 hm2 with hm2 | hm2
      · omega
      have := hlt _ hm2; omega), hg2, if_neg (by omega), if_pos rfl]
  exact {
    ok := at3.ok Iv0.ok
    s0 := Iv0.s0
    aft := Iv0.aft.trans at3 fun i hi => by
      have := Iv0.aft.next; rcases List.mem_cons.1 hi with hi | hi
      · right; omega
      exact (Iv0.new i hi).1
    cells := fun c hc => (made.cells c (List.mem_cons_of_mem _ hc)).keep (fun b hb => by
        rw [hgC, if_neg (fun e => hj3 (by subst e; exact List.mem_flatMap.2 ⟨c, hc, hb⟩))]) (fun b o hb hn => ⟨by
        rw [hgC, if_neg (fun e => hn (by subst e; exact List.mem_append_left _ List.mem_cons_self))]; exact hb, fun hm2 => hn (by
        rcases List.mem_append.1 hm2 with hm2 | hm2
        · exact List.mem_append_left _ (List.mem_cons_of_mem _ hm2)
        exact List.mem_append_right _ hm2)⟩) fun b hb => List.mem_append_left _ (List.mem_flatMap.2 ⟨c, hc, hb⟩)
    new := fun b hb => by
      have := Iv0.aft.next; rcases hnew b hb with h5 | h5
      · exact Iv0.new b h5
      exact ⟨.inr (by omega), fun hm2 => by have := hS0 b hm2; omega⟩
    apart := hnd2
    mark := fun d hd => by
      have := Iv0.aft.next; rcases List.mem_cons.1 hd with hd | hd
      · subst hd; exact ⟨this, by rw [hgC, if_neg (by omega)]; exact hdef⟩
      obtain ⟨m1, m2⟩ := Iv0.mark d hd; refine ⟨m1, ?_⟩; have hdn : d < h.next := Iv0.ok d _ m2
      rw [at3.get d hdn (fun hm2 => by
        rcases List.mem_cons.1 hm2 with hm2 | hm2
        · omega
        obtain ⟨c, hc, hb⟩ := List.mem_flatMap.1 hm2; obtain ⟨o, hgo, hne⟩ := (Iv0.cells c hc).isObj d hb; rw [m2] at hgo
        exact hne (Option.some.inj hgo).symm)]
      exact m2
    marks := List.nodup_cons.2 ⟨fun hm2 => by have := Iv0.ok _ _ (Iv0.mark _ hm2).2; omega, Iv0.marks⟩
    slots := Iv0.slots.nx goes3 }
theorem VO.callY0 {f : Operand} {args : Array Operand} {ats : Array TypeId} {yv : Value} {asl : List PV} {Q : PV → Sto → Prop} (hf : evV fl f = some (.raw yv)) (ha : evVs fl args.toList = some asl) (hc : VYG P orc yv asl σ Q) (hk : ∀ r σ', Q r σ' → VO P orc ops n l ((d, r) :: fl) σ' K)
    (hw : wantV ops fl g = some true := by rfl) (hn : (Nat.blt d n && Nat.ble n 4000) = true := by rfl) : VO P orc ops n (⟨some d, .call { callee := .value f, args := args, argTypes := ats }, ty, pos, after, g⟩ :: l) fl σ K :=
  VO.callY (σ := []) σ (List.append_nil _) hf ha hc (fun r σ' hq => by rw [List.append_nil]; exact hk r σ' hq) hw hn
end Go.Fs
namespace Go.Fs
variable {P : Program} {orc : FuncId → List Value → Heap → Option (Value × Heap)} {h h' h0 h1 h2 : Heap} {S S' S0 B G : List Nat} {σ σ' σr : Sto} {t t' : Tr} {ms : List Nat} {fl : VL} {ops : Array Oper} {n i mem : Nat} {l : List Oper} {K : VL → Sto → Prop} {Q : Ex → VL → Sto → Prop}
  {d : Tmp} {ty : TypeId} {pos : String} {after : Array Edge} {op : Op} {v pv : PV} {g : Option (Nat × Bool)} {x y z : Operand} {T T' e : TypeId} {τ τ' : Ty} {w : Value}
def rowFrom (w : Value) (sz k : Nat) : Value :=
  match w with
  | .slice (some ⟨b, o, none⟩) n mk => cutAt sz b o k n mk
  | u => u
theorem rest_run {xs : List τ.den} {k b : Nat} {rs : List Value} {m : Bool} {H : Heap} (hT : ElT P T e τ) (hk : k ≤ xs.length) (hg : H.get b = some (.row e rs true m)) : fsSlice P T (.slice (some ⟨b, 0, none⟩) xs.length 0) (some (.int .i64 (k : Nat))) none none H = some (rowFrom (.slice (some ⟨b, 0, none⟩) xs.length 0) τ.size k) := by
  obtain ⟨i, z, hi1, hi2, _⟩ := hT.sl.info
  have e1 : Nat.ble k xs.length = true := by rw [Nat.ble_eq]; exact hk
  have e2 : Nat.ble xs.length xs.length = true := by rw [Nat.ble_eq]; exact Nat.le_refl _
  have e3 : Nat.beq e e = true := Nat.beq_refl _; have e4 : Nat.beq 0 1 = false := rfl; have e5 : Nat.beq 0 0 = true := rfl; have h0 : (0 : Int) ≤ (k : Nat) := Int.natCast_nonneg _
  have hmk : markOf e b k 0 H = 0 := by
    unfold markOf; rw [hg]; cases Nat.beq k 0 <;> simp [e3, e5]
  simp only [fsSlice, hT.sl.sl, hi1, boundOf, if_pos h0, Int.toNat_natCast, e1, e2, e4, Bool.and_self, cond_true, cond_false, hmk, hi2, rowFrom]
theorem ReadV.restO {xs : List τ.den} {k : Nat} {lo : Operand} (hx : evV fl x = some (.raw w)) (hl : evV fl lo = some (.v (.int .i64) ((k : Nat) : Int))) (hm : (w, Cell.row e τ xs) ∈ σ) (hT : ElT P T e τ) (h0 : 0 < xs.length) (hk : k ≤ xs.length) : ReadV P fl σ (.slice T x (some lo) none none) (.raw (rowFrom w τ.size k)) :=
  ⟨rfl, fun h S t hs hc => by
    have h1 : evalO t x = w := hs x (by simp [Op.operands]) _ hx; have h2 := RepV.int (hs lo (by simp [Op.operands]) _ hl); rcases hc _ hm with ⟨_, rfl⟩ | ⟨b, rs, m, h3, h4, h5, h6⟩
    · simp at h0
    have hw : w = _ := h3; refine ⟨_, rfl, fun H hH _ _ _ _ _ => ?_⟩; show (fsSlice P T (evalO t x) (some (evalO t lo)) none none H).map _ = _
    rw [h1, h2, hw, rest_run hT hk (hH _ _ h5)]; rfl⟩
theorem rest_eq {xs : List τ.den} {k b : Nat} (hk : k < xs.length) : rowFrom (.slice (some ⟨b, 0, none⟩) xs.length 0) τ.size k = .slice (some ⟨b, 0 + k * τ.size, none⟩) (xs.length - k) 0 := by
  have e1 : Nat.blt k xs.length = true := by show Nat.ble (k + 1) xs.length = true; rw [Nat.ble_eq]; exact hk
  simp [rowFrom, cutAt, e1]
theorem ReadV.lenF {xs : List τ.den} {k : Nat} (hm : (w, Cell.row e τ xs) ∈ σ) (hT : ElT P T e τ) (hk : k < xs.length) (hx : evV fl x = some (.raw (rowFrom w τ.size k)) := by rfl) : ReadV P fl σ (.call { callee := .builtin .len, args := #[x], argTypes := #[T] }) (.v (.int .i64) ((xs.length - k : Nat) : Int)) :=
  ⟨rfl, fun h S t hs hc => by
    have h1 : evalO t x = rowFrom w τ.size k := hs x (by simp [Op.operands, Call.operands]) _ hx; refine ⟨_, RepV.ofInt _ _, fun H _ _ _ _ _ _ => ?_⟩; show (fsLen P #[T] (evalO t x) H).map _ = _; rw [h1]; rcases hc _ hm with ⟨_, rfl⟩ | ⟨b, rs, m, h3, h4, h5, h6⟩
    · simp at hk
    have hw : w = _ := h3; rw [hw, rest_eq hk]
    simp [fsLen, hT.sl.sl]⟩
theorem CalmV.ixF {xs : List τ.den} {j k : Nat} (hx : evV fl x = some (.raw (rowFrom w τ.size k))) (hy : evV fl y = some (.v (.int .i64) ((j : Nat) : Int))) (hm : (w, Cell.row e τ xs) ∈ σ) (hT : ElT P T e τ) (hj : j < xs.length - k) : CalmV P fl σ (.indexAddr T x y) (.raw (ptrAt w τ.size (k + j))) :=
  ⟨rfl, fun h S t hs hc => by
    have h1 : evalO t x = rowFrom w τ.size k := hs x (by simp [Op.operands]) _ hx; have h2 := RepV.int (hs y (by simp [Op.operands]) _ hy); refine ⟨_, rfl, fun _ _ _ _ _ H => ?_⟩; show (if af (evalO t y) then (runPure P (Instr.indexAt T (evalO t x) (evalO t y))).map fun v => (v, H) else none) = _; rcases hc _ hm with ⟨_, rfl⟩ | ⟨b, rs, m, h3, h4, h5, h6⟩
    · simp at hj
    have hw : w = _ := h3; obtain ⟨i, z, hinf, hsz, _⟩ := hT.sl.info; rw [h1, h2, hw, rest_eq (by omega), if_pos (show af (Value.int .i64 ((j : Nat) : Int)) = true from rfl)]
    have h7 : (0 : Int) ≤ (j : Int) ∧ (j : Int) < ((xs.length - k : Nat) : Int) := by omega
    unfold Instr.indexAt; simp only [runPure_bind, asIntOf, runPure_pure, Option.bind_some, runPure_underlying hT.sl.sl, if_pos h7, runPure_sizeOf hinf, hsz, add_none, Int.toNat_natCast, ptrAt, Option.map_some]
    rw [Nat.add_mul, Nat.zero_add, Nat.zero_add]⟩
theorem CalmV.ixFZ {xs : List τ.den} {k : Nat} {z : Int} (hx : evV fl x = some (.raw (rowFrom w τ.size k))) (hy : evV fl y = some (.v (.int .i64) z)) (hm : (w, Cell.row e τ xs) ∈ σ) (hT : ElT P T e τ) (h0 : 0 ≤ z) (hz : z < ((xs.length - k : Nat) : Int)) : CalmV P fl σ (.indexAddr T x y) (.raw (ptrAt w τ.size (k + z.toNat))) := by
  obtain ⟨j, rfl⟩ := Int.eq_ofNat_of_zero_le h0; exact CalmV.ixF hx hy hm hT (by omega)
theorem splice_zero {rs : List Value} {xs : List τ.den} {k : Nat} {cs : List Value} {dx : τ.den} (he : Elems h S τ rs xs) (hk : k ≤ xs.length) (hx : RepC h S τ cs dx) : Elems h S τ (splice rs (k * τ.size) (List.replicate (xs.length - k) cs).flatten) (xs.take k ++ List.replicate (xs.length - k) dx) := by
  have hrl := he.1; have hk2 : k * τ.size ≤ xs.length * τ.size := Nat.mul_le_mul_right _ hk
  have hel : Elems h S τ (rs.take (k * τ.size)) (xs.take k) := ⟨by rw [List.length_take, List.length_take, Nat.min_eq_left hk, Nat.min_eq_left (by omega)], fun i hi => by
    have hi1 : i < k := by rw [List.length_take] at hi; omega
    have h2 : (i + 1) * τ.size ≤ k * τ.size := Nat.mul_le_mul_right _ hi1; rw [Nat.add_mul, Nat.one_mul] at h2; rw [List.drop_take, List.take_take, Nat.min_eq_left (by omega), List.getElem_take]
    exact he.2 i (by omega)⟩
  have hrep := elems_rep hx (xs.length - k); have hlen := hrep.1; rw [List.length_replicate] at hlen
  have hdrop : rs.drop (k * τ.size + (List.replicate (xs.length - k) cs).flatten.length) = [] := List.drop_eq_nil_of_le (by
    rw [hlen, hrl, ← Nat.add_mul]
    exact Nat.mul_le_mul_right _ (by omega))
  unfold splice; rw [hdrop, List.append_nil]; exact hel.append hrep
theorem MakeV.clearF {xs : List τ.den} {k : Nat} (hT : ElT P T e τ) (hZ : ZerT P e τ) (hk : k ≤ xs.length) (h0 : 0 < xs.length) (hx : evV fl x = some (.raw (rowFrom w τ.size k))) :
    MakeV P fl ((w, .row e τ xs) :: σ) (.call { callee := .builtin .clear, args := #[x], argTypes := #[T] }) fun v σ' => v = .raw undef ∧ σ' = (w, .row e τ (xs.take k ++ List.replicate (xs.length - k) (zeroD τ))) :: σ :=
  ⟨rfl, fun S0 h t L => by
    have h1 : evalO t x = rowFrom w τ.size k := evV_ok L.slots hx; rcases L.cells _ List.mem_cons_self with ⟨_, rfl⟩ | ⟨b, rs, m, h3, h4, h5, h6⟩
    · simp at h0
    have hw : w = _ := h3
    have hbk : blk w = [b] := by rw [hw]; rfl
    obtain ⟨z, z1, z2, z3⟩ := hZ.zero; obtain ⟨i, z', hi1, hi2, hi3, hi3', hi4, hi5, hi6⟩ := hT.sl.info
    obtain rfl : z' = z := by
      rw [hi1] at z1; simpa [hi4] using z1
    have hpos := hT.sl.pos; have hrl := h6.1; rcases Nat.lt_or_eq_of_le hk with hk1 | hk1
    · refine ⟨undef, h.set b (.row e (splice rs (k * τ.size) (List.replicate (xs.length - k) z'.cells.toList).flatten) true m), .raw undef, _, ⟨rfl, rfl⟩, Made.head L (Aft.set h5 (by rw [hbk]; simp)) (fun b hb => .inl hb) (by rw [hbk]; simp) fun hN => ?_, rfl, fun _ _ _ _ _ => ?_⟩
      · refine .inr ⟨b, _, m, by rw [List.length_append, List.length_take, List.length_replicate, Nat.min_eq_left hk]; rw [show k + (xs.length - k) = xs.length by omega]; exact h3, ?_, by rw [Heap.get_set h5, if_pos rfl], ?_⟩
        · rw [own_cons]; exact List.mem_append_left _ (List.mem_append_left _ (by rw [hbk]; simp))
        exact splice_zero (h6.nx hN) hk (by rw [z2]; exact (zero_rep _ _ τ).1)
      show (fsClear P #[T] (evalO t x) h).map _ = _; have e1 : Nat.beq (xs.length - k) 0 = false := beq_no (by omega); have hf : zeros z' (xs.length - k) = (List.replicate (xs.length - k) z'.cells.toList).flatten := zeros_flat (by omega) _
      have e2 : (zeros z' (xs.length - k)).all af0 = true := by
        rw [hf, List.all_eq_true]; intro q hq; obtain ⟨r, hr, hqr⟩ := List.mem_flatten.1 hq; rw [(List.mem_replicate.1 hr).2] at hqr; exact List.all_eq_true.1 hi6 q hqr
      have e3 : Nat.ble (0 + k * τ.size + (zeros z' (xs.length - k)).length) rs.length = true := by
        rw [Nat.ble_eq, zeros_len, hi5, hrl, Nat.zero_add, ← Nat.add_mul]; exact Nat.mul_le_mul_right _ (by omega)
      rw [h1, hw, rest_eq hk1]; simp only [fsClear, List.getElem?_toArray, List.getElem?_cons_zero, hT.sl.sl, e1, cond_false, hi1, h5, hi4, e2, e3, Bool.and_self, cond_true, Option.map_some]; rw [hf, Nat.zero_add]; rfl
    subst hk1; refine ⟨undef, h, .raw undef, _, ⟨rfl, rfl⟩, ?_, rfl, fun _ _ _ _ _ => ?_⟩
    · rw [List.take_length, Nat.sub_self, List.replicate_zero, List.append_nil]; exact Made.same L (Aft.refl _ _)
    show (fsClear P #[T] (evalO t x) h).map _ = _
    have e0 : Nat.blt xs.length xs.length = false := by show Nat.ble (xs.length + 1) xs.length = false; exact Bool.eq_false_iff.2 fun hh => by rw [Nat.ble_eq] at hh; omega
    have e1 : Nat.beq xs.length 0 = false := beq_no (by omega); have e2 : Nat.beq 0 0 = true := rfl; rw [h1, hw]
    simp only [rowFrom, cutAt, e0, e1, Bool.or_self, cond_false, fsClear, List.getElem?_toArray, List.getElem?_cons_zero, hT.sl.sl, e2, cond_true, Option.map_some]; rfl⟩
theorem VO.clear0 {xs : List τ.den} {k : Nat} (hT : ElT P T e τ) (hZ : ZerT P e τ) (hk : k ≤ xs.length) (h0 : 0 < xs.length) (hK : VO P orc ops n l fl ((w, .row e τ (xs.take k ++ List.replicate (xs.length - k) (zeroD τ))) :: σ) K) (hx : evV fl x = some (.raw (rowFrom w τ.size k)) := by rfl) (hw : wantV ops fl g = some true := by rfl) :
    VO P orc ops n (⟨none, .call { callee := .builtin .clear, args := #[x], argTypes := #[T] }, ty, pos, after, g⟩ :: l) fl ((w, .row e τ xs) :: σ) K :=
  VO.mk0 (MakeV.clearF hT hZ hk h0 hx) (by rintro _ _ ⟨rfl, rfl⟩; exact hK) hw
theorem VFG.enterC {γ : Sto} {f : FuncId} {args : List PV} {fn : Func} {c : Code} {r : PV} (hfn : P.funcs[f]? = some fn) (hc : fn.body = some c) (ho : ∀ us h, orc f us h = none) (hn : (Nat.blt 4000 fn.ntmps || Nat.blt fn.ntmps args.length) = false)
    (hb : VC P orc none c fn.ntmps (argVL 0 args) γ (VEnd P fn r)) : VFG P orc f args γ (fun r' g => r' = r ∧ g = []) := fun h S us hok hS hcells hnd hsep ha => by
  have hl := ha.len
  have hn2 : Nat.blt 4000 fn.ntmps = false ∧ Nat.blt fn.ntmps args.length = false := by simpa using hn
  have n3 := nble_no hn2.1; have n4 := nble_no hn2.2; have ha' : RepL (entry h) (own γ ++ S) args us := RepL.nx (h := h) (h' := entry h) (fun _ _ a b => ⟨a, b⟩) ha
  have I0 : Iv (entry h) (own γ) S (entry h) γ (fillTr .leaf 0 us) [] (argVL 0 args) := {
    ok := hok
    s0 := hS
    aft := Aft.refl _ _
    cells := fun c hc => (hcells c hc).keep (fun _ _ => rfl) (fun _ _ a b => ⟨a, b⟩) fun b hb => List.mem_append_left _ (List.mem_flatMap.2 ⟨c, hc, hb⟩)
    new := fun b hb => ⟨.inl hb, hsep b hb⟩
    apart := hnd
    mark := fun d hd => by cases hd
    marks := List.nodup_nil
    slots := slots_args ha' (by omega) }
  refine EvF.enter hfn hc (ho us h) (by rw [hl]; exact hn) ((hb (entry h) (own γ) S _ (entry h) [] I0).mono fun e fr h1 hq => ?_); obtain ⟨_, fl', σ', I, he, ps, hps, rfl⟩ := hq; obtain ⟨h2, d1, d2, d3⟩ := drops_ok I.marks fun d hd => (I.mark d hd).2
  have hgd : ∀ b o, h1.get b = some o → o ≠ .defd → h2.get b = some o := fun b o hg hne => by
    rw [d3 b (fun hm => hne (by have := (I.mark b hm).2; rw [hg] at this; exact Option.some.inj this))]; exact hg
  have a2 : Aft (entry h) h2 (own γ) := I.aft.trans d2 fun i hi => .inr (I.mark i hi).1; have hN : GoesR h1 S h2 S := fun b _ hg hne hbS => ⟨hgd b _ hg hne, hbS⟩; obtain ⟨us', e1, e2⟩ := hps.ok I.lc hgd hN; have hrep := tup_rep e2; refine ⟨he, h2, us', d1, e1, ?_⟩; unfold leftOf
  cases haf : (af (tupled us') && Nat.ble h.next h2.low) with
  | true => exact ⟨_, [], ⟨rfl, rfl⟩, ⟨Aft.refl _ _, fun b hb => (by cases hb), List.nodup_nil, fun c hc => (by cases hc)⟩, hrep.anyAf (band haf).1⟩
  | false =>
    refine ⟨_, [], ⟨rfl, rfl⟩, ⟨⟨a2.next, a2.get, fun x => a2.ok x, fun e h3 h4 h5 => Nat.le_min.2 ⟨h3, a2.low e (Nat.le_trans h4 (Nat.le_refl _)) h4 h5⟩, fun b hb => ?_, Nat.min_le_left _ _⟩, fun b hb => (by cases hb), List.nodup_nil, fun c hc => (by cases hc)⟩, RepPV.nx (h := h2) (h' := { next := h2.next, low := min h.low h2.low, objs := h2.objs }) (fun _ _ a b => ⟨a, b⟩) hrep⟩; rcases a2.chg b hb with h3 | h3
    · exact .inl h3
    exact .inr (Nat.le_trans (Nat.min_le_right _ _) h3)
theorem getDg {α : Type} (xs : List α) (d : α) {i : Nat} (h : i < xs.length) : xs.getD i d = xs[i] := by rw [List.getD_eq_getElem?_getD, List.getElem?_eq_getElem h]; rfl
def cptA {α : Type} [DecidableEq α] (d : α) (xs : List α) : Nat → List α
  | 0 => []
  | i + 1 => if 0 < i ∧ xs.getD i d = xs.getD (i - 1) d then cptA d xs i else cptA d xs i ++ [xs.getD i d]
def cptR {α : Type} [DecidableEq α] (d : α) (xs : List α) (m : Nat) : List α := cptA d xs m ++ xs.drop (cptA d xs m).length
section
variable {α : Type} [DecidableEq α] {dd : α} {xs : List α}
theorem cptA_len : ∀ {i : Nat}, (cptA dd xs i).length ≤ i
  | 0 => Nat.le_refl _
  | i + 1 => by
    unfold cptA; have := cptA_len (i := i); split
    · omega
    rw [List.length_append, List.length_singleton]; omega
theorem cptA_all : ∀ {i : Nat}, i ≤ xs.length → (∀ j, 0 < j → j < i → xs.getD j dd ≠ xs.getD (j - 1) dd) → cptA dd xs i = xs.take i
  | 0, _, _ => by simp [cptA]
  | i + 1, hi, h => by
    unfold cptA; rw [if_neg fun hh => h i hh.1 (Nat.lt_succ_self _) hh.2, cptA_all (by omega) fun j h1 h2 => h j h1 (by omega), List.take_succ_eq_append_getElem (by omega), getDg _ _ (by omega)]
theorem cptA_eq {i : Nat} (h0 : 0 < i) (h : xs.getD i dd = xs.getD (i - 1) dd) : cptA dd xs (i + 1) = cptA dd xs i := by rw [cptA, if_pos ⟨h0, h⟩]
theorem cptA_ne {i : Nat} (h : xs.getD i dd ≠ xs.getD (i - 1) dd) : cptA dd xs (i + 1) = cptA dd xs i ++ [xs.getD i dd] := by rw [cptA, if_neg fun hh => h hh.2]
theorem cptR_len {m : Nat} (hm : m ≤ xs.length) : (cptR dd xs m).length = xs.length := by
  have := cptA_len (dd := dd) (xs := xs) (i := m); rw [cptR, List.length_append, List.length_drop]; omega
theorem cptR_at {m i : Nat} (h : (cptA dd xs m).length ≤ i) : (cptR dd xs m).getD i dd = xs.getD i dd := by
  rw [cptR, List.getD_eq_getElem?_getD, List.getElem?_append_right h, List.getElem?_drop, List.getD_eq_getElem?_getD]; congr 2; omega
theorem cptR_eq {i : Nat} (h0 : 0 < i) (h : xs.getD i dd = xs.getD (i - 1) dd) : cptR dd xs (i + 1) = cptR dd xs i := by rw [cptR, cptA_eq h0 h]; rfl
theorem cptR_ne {i : Nat} (hi : i < xs.length) (h : xs.getD i dd ≠ xs.getD (i - 1) dd) : cptR dd xs (i + 1) = (cptR dd xs i).set (cptA dd xs i).length (xs.getD i dd) := by
  have := cptA_len (dd := dd) (xs := xs) (i := i); unfold cptR; rw [cptA_ne h, List.length_append, List.length_singleton, List.set_append_right _ _ (Nat.le_refl _), Nat.sub_self, List.drop_eq_getElem_cons (i := (cptA dd xs i).length) (by omega), List.set_cons_zero, List.append_assoc]; rfl
theorem cptR_start {k : Nat} (hk : k ≤ xs.length) (hall : ∀ j, 0 < j → j < k → xs.getD j dd ≠ xs.getD (j - 1) dd) : cptR dd xs k = xs := by
  rw [cptR, cptA_all hk hall, List.length_take, Nat.min_eq_left hk, List.take_append_drop]
theorem cptR_take {m : Nat} : (cptR dd xs m).take (cptA dd xs m).length = cptA dd xs m := by rw [cptR, List.take_left]
end
end Go.Fs
namespace Go.Fs
variable {α : Type}
structure Weak (lt : α → α → Bool) : Prop where
  asym : ∀ a b, lt a b = true → lt b a = false
  neg : ∀ a b c, lt a b = false → lt b c = false → lt a c = false
variable {lt : α → α → Bool}
theorem Weak.irr (W : Weak lt) (a : α) : lt a a = false := by
  cases h : lt a a with
  | false => rfl
  | true => have := W.asym a a h; rw [h] at this; cases this
def eqv (lt : α → α → Bool) (a b : α) : Bool := !lt a b && !lt b a
theorem eqv_iff {a b : α} : eqv lt a b = true ↔ lt a b = false ∧ lt b a = false := by simp [eqv]
theorem Weak.eqv_self (W : Weak lt) (a : α) : eqv lt a a = true := eqv_iff.2 ⟨W.irr a, W.irr a⟩
theorem Weak.eqv_two (W : Weak lt) {a x y : α} (h1 : eqv lt a x = true) (h2 : eqv lt a y = true) : eqv lt x y = true := by
  obtain ⟨h3, h4⟩ := eqv_iff.1 h1; obtain ⟨h5, h6⟩ := eqv_iff.1 h2; exact eqv_iff.2 ⟨W.neg _ _ _ h4 h5, W.neg _ _ _ h6 h3⟩
def SameEq (lt : α → α → Bool) (xs ys : List α) : Prop := ∀ a, xs.filter (eqv lt a) = ys.filter (eqv lt a)
theorem SameEq.refl (xs : List α) : SameEq lt xs xs := fun _ => rfl
theorem SameEq.trans {xs ys zs : List α} (h1 : SameEq lt xs ys) (h2 : SameEq lt ys zs) : SameEq lt xs zs := fun a => (h1 a).trans (h2 a)
theorem SameEq.symm {xs ys : List α} (h1 : SameEq lt xs ys) : SameEq lt ys xs := fun a => (h1 a).symm
theorem SameEq.mem (W : Weak lt) {xs ys : List α} (h : SameEq lt xs ys) {x : α} (hx : x ∈ xs) : x ∈ ys := by
  have h1 : x ∈ xs.filter (eqv lt x) := List.mem_filter.2 ⟨hx, W.eqv_self x⟩; rw [h x] at h1; exact (List.mem_filter.1 h1).1
theorem SameEq.append {xs ys us vs : List α} (h1 : SameEq lt xs ys) (h2 : SameEq lt us vs) : SameEq lt (xs ++ us) (ys ++ vs) := fun a => by rw [List.filter_append, List.filter_append, h1 a, h2 a]
theorem SameEq.strip {p s xs ys : List α} (h : SameEq lt (p ++ (xs ++ s)) (p ++ (ys ++ s))) : SameEq lt xs ys := fun a => by
  have := h a; simp only [List.filter_append] at this; exact List.append_cancel_right (List.append_cancel_left this)
theorem SameEq.swap (W : Weak lt) {p u v s : List α} (hu : ∀ x ∈ u, ∀ y ∈ v, eqv lt x y = false) : SameEq lt (p ++ (u ++ (v ++ s))) (p ++ (v ++ (u ++ s))) := fun a => by
  simp only [List.filter_append]; congr 1; rw [← List.append_assoc, ← List.append_assoc]; congr 1
  cases h1 : u.filter (eqv lt a) with
  | nil => simp
  | cons x r =>
    have hx : x ∈ u.filter (eqv lt a) := by rw [h1]; exact List.mem_cons_self
    obtain ⟨hx1, hx2⟩ := List.mem_filter.1 hx
    have h2 : v.filter (eqv lt a) = [] := List.filter_eq_nil_iff.2 fun y hy h3 => by
      have := hu x hx1 y hy; rw [W.eqv_two hx2 h3] at this; cases this
    rw [h2]; simp
def Srt (lt : α → α → Bool) (xs : List α) : Prop := xs.Pairwise (fun x y => lt y x = false)
theorem srt_uniq (W : Weak lt) : ∀ {xs ys : List α}, Srt lt xs → Srt lt ys → SameEq lt xs ys → xs = ys
  | [], [], _, _, _ => rfl
  | [], y :: ys, _, _, h => by have := SameEq.mem W h.symm (x := y) List.mem_cons_self; cases this
  | x :: xs, [], _, _, h => by have := SameEq.mem W h (x := x) List.mem_cons_self; cases this
  | x :: xs, y :: ys, hx, hy, h => by
    obtain ⟨hx1, hx2⟩ := List.pairwise_cons.1 hx; obtain ⟨hy1, hy2⟩ := List.pairwise_cons.1 hy
    have key : ∀ {x y : α} {xs ys : List α}, (∀ z ∈ ys, lt z y = false) → SameEq lt (x :: xs) (y :: ys) → lt x y = false := fun {x y xs ys} h1 h2 => by
      rcases List.mem_cons.1 (SameEq.mem W h2 (x := x) List.mem_cons_self) with h3 | h3
      · subst h3; exact W.irr _
      exact h1 _ h3
    have e1 : lt x y = false := key hy1 h; have e2 : lt y x = false := key hx1 h.symm; have e3 := h x; rw [List.filter_cons_of_pos (W.eqv_self x), List.filter_cons_of_pos (eqv_iff.2 ⟨e1, e2⟩)] at e3; injection e3 with e4 e5; subst e4
    rw [srt_uniq W hx2 hy2 fun a => by
      have := h a; by_cases ha : eqv lt a x = true
      · rw [List.filter_cons_of_pos ha, List.filter_cons_of_pos ha] at this; injection this
      rwa [List.filter_cons_of_neg ha, List.filter_cons_of_neg ha] at this]
def insS (lt : α → α → Bool) (x : α) : List α → List α
  | [] => [x]
  | y :: ys => if lt y x then y :: insS lt x ys else x :: y :: ys
def sortS (lt : α → α → Bool) : List α → List α
  | [] => []
  | x :: xs => insS lt x (sortS lt xs)
theorem insS_mem {x z : α} : ∀ {ys : List α}, z ∈ insS lt x ys → z = x ∨ z ∈ ys
  | [], h => .inl (by simpa [insS] using h)
  | y :: ys, h => by
    unfold insS at h; split at h
    · rcases List.mem_cons.1 h with h | h
      · exact .inr (by rw [h]; exact List.mem_cons_self)
      rcases insS_mem h with h | h
      · exact .inl h
      exact .inr (List.mem_cons_of_mem _ h)
    rcases List.mem_cons.1 h with h | h
    · exact .inl h
    exact .inr h
theorem insS_srt (W : Weak lt) {x : α} : ∀ {ys : List α}, Srt lt ys → Srt lt (insS lt x ys)
  | [], _ => List.pairwise_singleton _ _
  | y :: ys, h => by
    obtain ⟨h1, h2⟩ := List.pairwise_cons.1 h; unfold insS; split
    · rename_i hl; refine List.pairwise_cons.2 ⟨fun z hz => ?_, insS_srt W h2⟩; rcases insS_mem hz with hz | hz
      · subst hz; exact W.asym _ _ hl
      exact h1 z hz
    rename_i hl
    have hl' : lt y x = false := by simpa using hl
    refine List.pairwise_cons.2 ⟨fun z hz => ?_, h⟩; rcases List.mem_cons.1 hz with hz | hz
    · subst hz; exact hl'
    exact W.neg _ _ _ (h1 z hz) hl'
theorem insS_same (W : Weak lt) {x : α} : ∀ {ys : List α}, SameEq lt (x :: ys) (insS lt x ys)
  | [] => SameEq.refl _
  | y :: ys => by
    unfold insS; split
    · rename_i hl
      have h1 : SameEq lt (x :: y :: ys) (y :: x :: ys) := SameEq.swap W (p := []) (u := [x]) (v := [y]) (s := ys) fun a ha b hb => by
        rw [List.mem_singleton] at ha hb; subst ha; subst hb
        cases he : eqv lt a b with
        | false => rfl
        | true => have := (eqv_iff.1 he).2; rw [hl] at this; cases this
      exact h1.trans (SameEq.append (SameEq.refl [y]) (insS_same W))
    exact SameEq.refl _
theorem sortS_srt (W : Weak lt) : ∀ (xs : List α), Srt lt (sortS lt xs)
  | [] => List.Pairwise.nil
  | x :: xs => insS_srt W (sortS_srt W xs)
theorem sortS_same (W : Weak lt) : ∀ (xs : List α), SameEq lt xs (sortS lt xs)
  | [] => SameEq.refl _
  | x :: xs => (SameEq.append (SameEq.refl [x]) (sortS_same W xs)).trans (insS_same W)
theorem sortS_eq (W : Weak lt) {xs ys : List α} (h1 : Srt lt ys) (h2 : SameEq lt xs ys) : sortS lt xs = ys := srt_uniq W (sortS_srt W xs) h1 ((sortS_same W xs).symm.trans h2)
theorem insS_len {x : α} : ∀ {ys : List α}, (insS lt x ys).length = ys.length + 1
  | [] => rfl
  | y :: ys => by
    unfold insS; split
    · rw [List.length_cons, insS_len, List.length_cons]
    rfl
theorem sortS_len : ∀ (xs : List α), (sortS lt xs).length = xs.length
  | [] => rfl
  | x :: xs => by rw [sortS, insS_len, sortS_len, List.length_cons]
variable {d : α}
abbrev at_ (xs : List α) (i : Nat) (d : α) : α := xs.getD i d
theorem ext_at {xs ys : List α} (d : α) (hl : xs.length = ys.length) (h : ∀ i, i < xs.length → xs.getD i d = ys.getD i d) : xs = ys := List.ext_getElem hl fun i h1 h2 => by
  have := h i h1
  rwa [getDg _ _ h1, getDg _ _ h2] at this
def SrtI (lt : α → α → Bool) (d : α) (ys : List α) (a b : Nat) : Prop := ∀ p q, a ≤ p → p < q → q < b → lt (ys.getD q d) (ys.getD p d) = false
def srtSeg (lt : α → α → Bool) (xs : List α) (a b : Nat) : List α := xs.take a ++ (sortS lt ((xs.take b).drop a) ++ xs.drop b)
structure Seg (lt : α → α → Bool) (xs ys : List α) (a b : Nat) : Prop where
  len : ys.length = xs.length
  lo : ys.take a = xs.take a
  hi : ys.drop b = xs.drop b
  same : SameEq lt xs ys
theorem Seg.refl (xs : List α) (a b : Nat) : Seg lt xs xs a b := ⟨rfl, rfl, rfl, SameEq.refl _⟩
theorem Seg.trans {xs ys zs : List α} {a b : Nat} (h1 : Seg lt xs ys a b) (h2 : Seg lt ys zs a b) : Seg lt xs zs a b := ⟨h2.len.trans h1.len, h2.lo.trans h1.lo, h2.hi.trans h1.hi, h1.same.trans h2.same⟩
theorem Seg.wider {xs ys : List α} {a b a' b' : Nat} (h : Seg lt xs ys a b) (ha : a' ≤ a) (hb : b ≤ b') : Seg lt xs ys a' b' where
  len := h.len
  lo := by rw [← Nat.min_eq_left ha, ← List.take_take, h.lo, List.take_take]
  hi := by
    have e : b' = b + (b' - b) := by omega
    rw [e, ← List.drop_drop, h.hi, List.drop_drop]
  same := h.same
theorem drop_two {p m s : List α} {b : Nat} (h : p.length + m.length = b) : (p ++ (m ++ s)).drop b = s := by subst h; rw [← List.append_assoc, ← List.length_append, List.drop_left]
theorem three (xs : List α) {a b : Nat} (h : a ≤ b) : xs = xs.take a ++ ((xs.take b).drop a ++ xs.drop b) := by
  conv => lhs; rw [← List.take_append_drop b xs]
  rw [← List.append_assoc]; congr 1
  conv => lhs; rw [← List.take_append_drop a (xs.take b)]
  rw [List.take_take, Nat.min_eq_left h]
theorem Seg.below {xs ys : List α} {a b i : Nat} (h : Seg lt xs ys a b) (hi : i < a) : ys.getD i d = xs.getD i d := by
  have : (ys.take a).getD i d = (xs.take a).getD i d := by rw [h.lo]
  simpa [List.getD_eq_getElem?_getD, List.getElem?_take, hi] using this
theorem Seg.above {xs ys : List α} {a b i : Nat} (h : Seg lt xs ys a b) (hi : b ≤ i) : ys.getD i d = xs.getD i d := by
  have : (ys.drop b).getD (i - b) d = (xs.drop b).getD (i - b) d := by rw [h.hi]
  simpa [List.getD_eq_getElem?_getD, List.getElem?_drop, show b + (i - b) = i by omega] using this
theorem Seg.mid {xs ys : List α} {a b : Nat} (hab : a ≤ b) (h : Seg lt xs ys a b) : SameEq lt ((xs.take b).drop a) ((ys.take b).drop a) := by
  have h1 := h.same; rw [three xs hab, three ys hab, h.lo, h.hi] at h1; exact h1.strip
theorem mem_mid {xs : List α} {a b : Nat} {x : α} (hb : b ≤ xs.length) : x ∈ (xs.take b).drop a ↔ ∃ i, a ≤ i ∧ i < b ∧ xs.getD i d = x := by
  constructor
  · intro h; obtain ⟨i, hi, rfl⟩ := List.getElem_of_mem h; rw [List.length_drop, List.length_take] at hi; refine ⟨a + i, by omega, by omega, ?_⟩; rw [getDg _ _ (by omega)]; simp
  rintro ⟨i, h1, h2, rfl⟩; rw [getDg _ _ (by omega), List.mem_iff_getElem]; refine ⟨i - a, by rw [List.length_drop, List.length_take]; omega, ?_⟩; simp [show a + (i - a) = i by omega]
theorem Seg.come (W : Weak lt) {xs ys : List α} {a b i : Nat} (h : Seg lt xs ys a b) (hb : b ≤ xs.length) (h1 : a ≤ i) (h2 : i < b) : ∃ j, a ≤ j ∧ j < b ∧ xs.getD j d = ys.getD i d := by
  have hm : ys.getD i d ∈ (ys.take b).drop a := (mem_mid (by rw [h.len]; exact hb)).2 ⟨i, h1, h2, rfl⟩; exact (mem_mid hb).1 (SameEq.mem W (h.mid (by omega)).symm hm)
theorem srtI_mid {ys : List α} {a b : Nat} (hb : b ≤ ys.length) (h : SrtI lt d ys a b) : Srt lt ((ys.take b).drop a) := by
  unfold Srt; rw [List.pairwise_iff_getElem]; intro i j hi hj hij; rw [List.length_drop, List.length_take] at hi hj; have := h (a + i) (a + j) (by omega) (by omega) (by omega); rw [getDg _ _ (by omega), getDg _ _ (by omega)] at this; simpa using this
theorem seg_srt (W : Weak lt) {xs ys : List α} {a b : Nat} (hab : a ≤ b) (hb : b ≤ xs.length) (h : Seg lt xs ys a b) (hs : SrtI lt d ys a b) : ys = srtSeg lt xs a b := by
  unfold srtSeg; rw [sortS_eq W (srtI_mid (by rw [h.len]; exact hb) hs) (h.mid hab), ← h.lo, ← h.hi]; exact three ys hab
theorem srtSeg_seg (W : Weak lt) {xs : List α} {a b : Nat} (hab : a ≤ b) (hb : b ≤ xs.length) : Seg lt xs (srtSeg lt xs a b) a b := by
  have hl : (xs.take a).length = a := by rw [List.length_take]; omega
  have hm : (sortS lt ((xs.take b).drop a)).length = b - a := by rw [sortS_len, List.length_drop, List.length_take]; omega
  refine ⟨?_, ?_, ?_, ?_⟩
  · unfold srtSeg; rw [List.length_append, List.length_append, hl, hm, List.length_drop]; omega
  · unfold srtSeg; rw [List.take_append_of_le_length (by omega), List.take_of_length_le (by omega)]
  · unfold srtSeg; exact drop_two (by omega)
  unfold srtSeg
  conv => arg 2; rw [three xs hab]
  exact SameEq.append (SameEq.refl _) (SameEq.append (sortS_same W _) (SameEq.refl _))
theorem srtSeg_srt (W : Weak lt) {xs : List α} {a b : Nat} (hab : a ≤ b) (hb : b ≤ xs.length) : SrtI lt d (srtSeg lt xs a b) a b := by
  intro p q h1 h2 h3; have hs := sortS_srt W ((xs.take b).drop a); unfold Srt at hs; rw [List.pairwise_iff_getElem] at hs
  have hm : (sortS lt ((xs.take b).drop a)).length = b - a := by rw [sortS_len, List.length_drop, List.length_take]; omega
  have hl : (xs.take a).length = a := by rw [List.length_take]; omega
  have e : ∀ i, a ≤ i → (hi : i < b) → (srtSeg lt xs a b).getD i d = (sortS lt ((xs.take b).drop a))[i - a]'(by omega) := fun i h4 h5 => by
    unfold srtSeg; rw [List.getD_eq_getElem?_getD, List.getElem?_append_right (by omega), List.getElem?_append_left (by omega), hl, List.getElem?_eq_getElem (by omega)]; rfl
  rw [e p h1 (by omega), e q (by omega) h3]; exact hs _ _ (by omega) (by omega) (by omega)
def swp (ys : List α) (i j : Nat) (d : α) : List α := (ys.set i (ys.getD j d)).set j (ys.getD i d)
theorem swp_len {ys : List α} {i j : Nat} : (swp ys i j d).length = ys.length := by simp [swp]
theorem swp_at {ys : List α} {i j k : Nat} (hi : i < ys.length) (hj : j < ys.length) : (swp ys i j d).getD k d = if k = j then ys.getD i d else if k = i then ys.getD j d else ys.getD k d := by
  unfold swp; simp only [List.getD_eq_getElem?_getD, List.getElem?_set, List.length_set]; by_cases h1 : k = j
  · subst h1; simp [hj]
  rw [if_neg (Ne.symm h1), if_neg h1]; by_cases h2 : k = i
  · subst h2; simp [hi]
  rw [if_neg (Ne.symm h2), if_neg h2]
theorem two_at {ys : List α} {k : Nat} (h : k + 1 < ys.length) : ys = ys.take k ++ ([ys.getD k d] ++ ([ys.getD (k + 1) d] ++ ys.drop (k + 2))) := by
  conv => lhs; rw [← List.take_append_drop k ys]
  congr 1; rw [List.drop_eq_getElem_cons (by omega), List.drop_eq_getElem_cons (by omega), getDg _ _ (by omega), getDg _ _ h]; rfl
theorem swp_two {ys : List α} {k : Nat} (h : k + 1 < ys.length) : swp ys (k + 1) k d = ys.take k ++ ([ys.getD (k + 1) d] ++ ([ys.getD k d] ++ ys.drop (k + 2))) := by
  have hl : (ys.take k).length = k := by rw [List.length_take]; omega
  refine ext_at d (by rw [swp_len]; simp; omega) fun i hi => ?_; rw [swp_at (by omega) (by omega)]; by_cases h1 : i < k
  · rw [if_neg (by omega), if_neg (by omega), List.getD_eq_getElem?_getD, List.getD_eq_getElem?_getD, List.getElem?_append_left (by omega), List.getElem?_take, if_pos h1]
  by_cases h2 : i = k
  · subst h2; rw [if_pos rfl, List.getD_eq_getElem?_getD (l := _ ++ _), List.getElem?_append_right (by omega), hl, Nat.sub_self]; rfl
  by_cases h3 : i = k + 1
  · subst h3; rw [if_neg h2, if_pos rfl, List.getD_eq_getElem?_getD (l := _ ++ _), List.getElem?_append_right (by omega), hl, show k + 1 - k = 1 by omega]; rfl
  rw [if_neg h2, if_neg h3, List.getD_eq_getElem?_getD (l := _ ++ _), List.getElem?_append_right (by omega), hl, List.getElem?_append_right (by simp; omega), List.getElem?_append_right (by simp; omega), List.getElem?_drop, List.getD_eq_getElem?_getD]; congr 2
  simp; omega
theorem swp_seg (W : Weak lt) {ys : List α} {a b k : Nat} (ha : a ≤ k) (hb : k + 1 < b) (hl : k + 1 < ys.length) (h : lt (ys.getD (k + 1) d) (ys.getD k d) = true) : Seg lt ys (swp ys (k + 1) k d) a b where
  len := swp_len
  lo := by
    rw [swp_two hl, List.take_append_of_le_length (by rw [List.length_take]; omega), List.take_take, Nat.min_eq_left ha]
  hi := by
    have e : (ys.take k ++ ([ys.getD (k + 1) d] ++ ([ys.getD k d] ++ ys.drop (k + 2)))).drop (k + 2) = ys.drop (k + 2) := by
      rw [← List.append_assoc [_] [_]]; exact drop_two (by simp; omega)
    obtain ⟨c, rfl⟩ : ∃ c, b = (k + 2) + c := ⟨b - (k + 2), by omega⟩; rw [swp_two hl, ← List.drop_drop, e, List.drop_drop]
  same := by
    rw [swp_two hl]
    conv => arg 2; rw [two_at (d := d) hl]
    exact SameEq.swap W fun x hx y hy => by
      rw [List.mem_singleton] at hx hy; subst hx; subst hy
      cases he : eqv lt (ys.getD k d) (ys.getD (k + 1) d) with
      | false => rfl
      | true => have := (eqv_iff.1 he).2; rw [h] at this; cases this
structure Insd (lt : α → α → Bool) (d : α) (ys : List α) (a j i : Nat) : Prop where
  srt : ∀ p q, a ≤ p → p < q → q ≤ i → q ≠ j → p ≠ j → lt (ys.getD q d) (ys.getD p d) = false
  less : ∀ q, j < q → q ≤ i → lt (ys.getD j d) (ys.getD q d) = true
theorem Insd.start {ys : List α} {a i : Nat} (h : SrtI lt d ys a i) : Insd lt d ys a i i := ⟨fun p q h1 h2 h3 h4 _ => h p q h1 h2 (by omega), fun q h1 h2 => by omega⟩
theorem Insd.step {ys : List α} {a j i : Nat} (h : Insd lt d ys a (j + 1) i) (haj : a ≤ j) (hji : j + 1 ≤ i) (hi : i < ys.length) (hl : lt (ys.getD (j + 1) d) (ys.getD j d) = true) : Insd lt d (swp ys (j + 1) j d) a j i := by
  have e : ∀ k, (swp ys (j + 1) j d).getD k d = if k = j then ys.getD (j + 1) d else if k = j + 1 then ys.getD j d else ys.getD k d := fun k => swp_at (by omega) (by omega); constructor
  · intro p q h1 h2 h3 h4 h5; rw [e, e, if_neg h4, if_neg h5]; by_cases hp : p = j + 1
    · rw [if_pos hp, if_neg (by omega)]; exact h.srt j q haj (by omega) h3 (by omega) (by omega)
    rw [if_neg hp]; by_cases hq : q = j + 1
    · rw [if_pos hq]; exact h.srt p j h1 (by omega) (by omega) (by omega) (by omega)
    rw [if_neg hq]; exact h.srt p q h1 h2 h3 hq hp
  intro q h1 h2; rw [e, e, if_pos rfl, if_neg (by omega)]; by_cases hq : q = j + 1
  · rw [if_pos hq]; exact hl
  rw [if_neg hq]; exact h.less q (by omega) h2
theorem Insd.done (W : Weak lt) {ys : List α} {a j i : Nat} (h : Insd lt d ys a j i) (haj : a ≤ j) (hji : j ≤ i) (hl : a < j → lt (ys.getD j d) (ys.getD (j - 1) d) = false) : SrtI lt d ys a (i + 1) := by
  intro p q h1 h2 h3; by_cases hq : q = j
  · subst hq; have h4 := hl (by omega); by_cases hp : p = q - 1
    · subst hp; exact h4
    exact W.neg _ _ _ h4 (h.srt p (q - 1) h1 (by omega) (by omega) (by omega) (by omega))
  by_cases hp : p = j
  · subst hp; exact W.asym _ _ (h.less q h2 (by omega))
  exact h.srt p q h1 h2 (by omega) hq hp
end Go.Fs
namespace Go.Fs
variable {α : Type} {lt : α → α → Bool} {d : α} {ys : List α} {a b m n s e i j k : Nat}
def swR (ys : List α) (a b : Nat) (d : α) : Nat → List α
  | 0 => ys
  | n + 1 => swp (swR ys a b d n) (a + n) (b + n) d
theorem swR_len : ∀ {n : Nat}, (swR ys a b d n).length = ys.length
  | 0 => rfl
  | n + 1 => by rw [swR, swp_len, swR_len]
theorem swR_at {k : Nat} : ∀ {n : Nat}, a + n ≤ b → b + n ≤ ys.length → (swR ys a b d n).getD k d = if a ≤ k ∧ k < a + n then ys.getD (b + (k - a)) d else if b ≤ k ∧ k < b + n then ys.getD (a + (k - b)) d else ys.getD k d
  | 0, _, _ => by rw [if_neg (by omega), if_neg (by omega)]; rfl
  | n + 1, h1, h2 => by
    rw [swR, swp_at (by rw [swR_len]; omega) (by rw [swR_len]; omega)]; by_cases hk : k = b + n
    · subst hk; rw [if_pos rfl, if_neg (by omega), if_pos (by omega), swR_at (by omega) (by omega), if_neg (by omega), if_neg (by omega)]; congr 1; omega
    rw [if_neg hk]; by_cases hk2 : k = a + n
    · subst hk2; rw [if_pos rfl, if_pos (by omega), swR_at (by omega) (by omega), if_neg (by omega), if_neg (by omega)]; congr 1; omega
    rw [if_neg hk2, swR_at (by omega) (by omega)]; by_cases h3 : a ≤ k ∧ k < a + n
    · rw [if_pos h3, if_pos (show a ≤ k ∧ k < a + (n + 1) by omega)]
    rw [if_neg h3, if_neg (show ¬ (a ≤ k ∧ k < a + (n + 1)) by omega)]; by_cases h4 : b ≤ k ∧ k < b + n
    · rw [if_pos h4, if_pos (show b ≤ k ∧ k < b + (n + 1) by omega)]
    rw [if_neg h4, if_neg (show ¬ (b ≤ k ∧ k < b + (n + 1)) by omega)]
def rotE (ys : List α) (a m b : Nat) : List α := ys.take a ++ ((ys.drop m).take (b - m) ++ ((ys.drop a).take (m - a) ++ ys.drop b))
theorem rotE_len (h1 : a ≤ m) (h2 : m ≤ b) (h3 : b ≤ ys.length) : (rotE ys a m b).length = ys.length := by
  unfold rotE; simp only [List.length_append, List.length_take, List.length_drop]; omega
theorem rotE_at (h1 : a ≤ m) (h2 : m ≤ b) (h3 : b ≤ ys.length) : (rotE ys a m b).getD k d = if k < a then ys.getD k d else if k < a + (b - m) then ys.getD (m + (k - a)) d else if k < b then ys.getD (a + (k - (a + (b - m)))) d else ys.getD k d := by
  have l1 : (ys.take a).length = a := by rw [List.length_take]; omega
  have l2 : ((ys.drop m).take (b - m)).length = b - m := by rw [List.length_take, List.length_drop]; omega
  have l3 : ((ys.drop a).take (m - a)).length = m - a := by rw [List.length_take, List.length_drop]; omega
  unfold rotE; simp only [List.getD_eq_getElem?_getD]; by_cases h4 : k < a
  · rw [if_pos h4, List.getElem?_append_left (by omega), List.getElem?_take, if_pos h4]
  rw [if_neg h4, List.getElem?_append_right (by omega), l1]; by_cases h5 : k < a + (b - m)
  · rw [if_pos h5, List.getElem?_append_left (by omega), List.getElem?_take, if_pos (by omega), List.getElem?_drop]
  rw [if_neg h5, List.getElem?_append_right (by omega), l2]; by_cases h6 : k < b
  · rw [if_pos h6, List.getElem?_append_left (by omega), List.getElem?_take, if_pos (by omega), List.getElem?_drop, Nat.sub_sub]
  rw [if_neg h6, List.getElem?_append_right (by omega), l3, List.getElem?_drop]; congr 2; omega
theorem rotE_none (h : a = m ∨ m = b) (h1 : a ≤ m) (h2 : m ≤ b) (h3 : b ≤ ys.length) : rotE ys a m b = ys := by
  rcases h with rfl | rfl
  · unfold rotE; rw [Nat.sub_self, List.take_zero, List.nil_append]
    conv => rhs; rw [← List.take_append_drop a ys, ← List.take_append_drop (b - a) (ys.drop a), List.drop_drop, show a + (b - a) = b by omega]
  unfold rotE; rw [Nat.sub_self, List.take_zero, List.nil_append]
  conv => rhs; rw [← List.take_append_drop a ys, ← List.take_append_drop (m - a) (ys.drop a), List.drop_drop, show a + (m - a) = m by omega]
theorem rot_more (h1 : j < i) (h2 : i ≤ m) (h3 : m + j ≤ ys.length) : rotE (swR ys (m - i) m d j) (m - i + j) m (m + j) = rotE ys (m - i) m (m + j) := by
  have hl : (swR ys (m - i) m d j).length = ys.length := swR_len; refine ext_at d (by rw [rotE_len (by omega) (by omega) (by omega), rotE_len (by omega) (by omega) (by omega), hl]) fun k hk => ?_; rw [rotE_at (by omega) (by omega) (by omega), rotE_at (by omega) (by omega) (by omega)]; simp only [swR_at (ys := ys) (a := m - i) (b := m) (n := j) (d := d) (by omega) (by omega)]
  repeat' split
  all_goals first | omega | rfl | (congr 1; omega)
theorem rot_less (h1 : i < j) (h2 : i ≤ m) (h3 : m + j ≤ ys.length) : rotE (swR ys (m - i) (m + j - i) d i) (m - i) m (m + j - i) = rotE ys (m - i) m (m + j) := by
  have hl : (swR ys (m - i) (m + j - i) d i).length = ys.length := swR_len; refine ext_at d (by rw [rotE_len (by omega) (by omega) (by omega), rotE_len (by omega) (by omega) (by omega), hl]) fun k hk => ?_; rw [rotE_at (by omega) (by omega) (by omega), rotE_at (by omega) (by omega) (by omega)]; simp only [swR_at (ys := ys) (a := m - i) (b := m + j - i) (n := i) (d := d) (by omega) (by omega)]
  repeat' split
  all_goals first | omega | rfl | (congr 1; omega)
theorem rot_end (h2 : i ≤ m) (h3 : m + i ≤ ys.length) : swR ys (m - i) m d i = rotE ys (m - i) m (m + i) := by
  have hl : (swR ys (m - i) m d i).length = ys.length := swR_len; refine ext_at d (by rw [rotE_len (by omega) (by omega) (by omega), hl]) fun k hk => ?_; rw [rotE_at (by omega) (by omega) (by omega), swR_at (by omega) (by omega)]
  repeat' split
  all_goals first | omega | rfl | (congr 1; omega)
theorem rot_fwd (h1 : a ≤ k) (h3 : k + 2 ≤ ys.length) : swp (rotE ys a (a + 1) (k + 1)) k (k + 1) d = rotE ys a (a + 1) (k + 2) := by
  have hl : (rotE ys a (a + 1) (k + 1)).length = ys.length := rotE_len (by omega) (by omega) (by omega); refine ext_at d (by rw [swp_len, hl, rotE_len (by omega) (by omega) (by omega)]) fun q hq => ?_; rw [swp_at (by omega) (by omega)]; simp only [rotE_at (ys := ys) (a := a) (m := a + 1) (b := k + 1) (d := d) (by omega) (by omega) (by omega), rotE_at (ys := ys) (a := a) (m := a + 1) (b := k + 2) (d := d) (by omega) (by omega) (by omega)]
  repeat' split
  all_goals first | omega | rfl | (congr 1; omega)
theorem rot_bwd (h1 : k < m) (h3 : m + 1 ≤ ys.length) : swp (rotE ys (k + 1) m (m + 1)) (k + 1) k d = rotE ys k m (m + 1) := by
  have hl : (rotE ys (k + 1) m (m + 1)).length = ys.length := rotE_len (by omega) (by omega) (by omega); refine ext_at d (by rw [swp_len, hl, rotE_len (by omega) (by omega) (by omega)]) fun q hq => ?_; rw [swp_at (by omega) (by omega)]; simp only [rotE_at (ys := ys) (a := k + 1) (m := m) (b := m + 1) (d := d) (by omega) (by omega) (by omega), rotE_at (ys := ys) (a := k) (m := m) (b := m + 1) (d := d) (by omega) (by omega) (by omega)]
  repeat' split
  all_goals first | omega | rfl | (congr 1; omega)
theorem four (h1 : s ≤ m) (h2 : m ≤ e) : ys = ys.take s ++ ((ys.drop s).take (m - s) ++ ((ys.drop m).take (e - m) ++ ys.drop e)) := by
  conv => lhs; rw [← List.take_append_drop s ys, ← List.take_append_drop (m - s) (ys.drop s), List.drop_drop, show s + (m - s) = m by omega, ← List.take_append_drop (e - m) (ys.drop m), List.drop_drop, show m + (e - m) = e by omega]
theorem mem_part {x : α} (h : e ≤ ys.length) (hx : x ∈ (ys.drop s).take (e - s)) : ∃ p, s ≤ p ∧ p < e ∧ ys.getD p d = x := by
  obtain ⟨p, hp, rfl⟩ := List.getElem_of_mem hx; rw [List.length_take, List.length_drop] at hp; refine ⟨s + p, by omega, by omega, ?_⟩; rw [getDg _ _ (by omega)]; simp
theorem rot_seg (W : Weak lt) (ha : a ≤ s) (h1 : s ≤ m) (h2 : m ≤ e) (hb : e ≤ b) (h3 : e ≤ ys.length) (h : ∀ p q, s ≤ p → p < m → m ≤ q → q < e → lt (ys.getD q d) (ys.getD p d) = true) : Seg lt ys (rotE ys s m e) a b := by
  have key : Seg lt ys (rotE ys s m e) s e := by
    have l1 : (ys.take s).length = s := by rw [List.length_take]; omega
    refine ⟨rotE_len h1 h2 h3, ?_, ?_, ?_⟩
    · unfold rotE; rw [List.take_append_of_le_length (by omega), List.take_of_length_le (by omega)]
    · have l2 : (ys.take s ++ (ys.drop m).take (e - m)).length + ((ys.drop s).take (m - s)).length = e := by simp only [List.length_append, List.length_take, List.length_drop]; omega
      unfold rotE; rw [← List.append_assoc]; exact drop_two l2
    conv => arg 2; rw [four (ys := ys) h1 h2]
    exact SameEq.swap W fun x hx y hy => by
      obtain ⟨p, p1, p2, rfl⟩ := mem_part (d := d) (by omega) hx; obtain ⟨q, q1, q2, rfl⟩ := mem_part (d := d) h3 hy
      cases he : eqv lt (ys.getD p d) (ys.getD q d) with
      | false => rfl
      | true => have := (eqv_iff.1 he).2; rw [h p q p1 p2 q1 q2] at this; cases this
  exact key.wider ha hb
theorem srtSeg_id (W : Weak lt) (hab : a ≤ b) (hb : b ≤ ys.length) (h : SrtI lt d ys a b) : srtSeg lt ys a b = ys := (seg_srt W hab hb (Seg.refl ys a b) h).symm
theorem SrtI.short (h : b ≤ a + 1) : SrtI lt d ys a b := fun p q _ _ _ => by omega
theorem SrtI.le (W : Weak lt) (h : SrtI lt d ys a b) {p q : Nat} (h1 : a ≤ p) (h2 : p ≤ q) (h3 : q < b) : lt (ys.getD q d) (ys.getD p d) = false := by
  rcases Nat.lt_or_eq_of_le h2 with h4 | h4
  · exact h p q h1 h4 h3
  subst h4; exact W.irr _
theorem merge_two (W : Weak lt) {xs zs : List α} {mid : Nat} (hseg : Seg lt xs zs a b) (h1 : a ≤ mid) (h2 : mid ≤ b) (hb : b ≤ xs.length) (hc : ∀ p q, a ≤ p → p < mid → mid ≤ q → q < b → lt (zs.getD q d) (zs.getD p d) = false) : srtSeg lt (srtSeg lt zs a mid) mid b = srtSeg lt xs a b := by
  have hzl := hseg.len; have s1 : Seg lt zs (srtSeg lt zs a mid) a mid := srtSeg_seg W h1 (by omega); have hyl := s1.len; have s2 : Seg lt (srtSeg lt zs a mid) (srtSeg lt (srtSeg lt zs a mid) mid b) mid b := srtSeg_seg W h2 (by omega); refine seg_srt W (d := d) (by omega) hb (hseg.trans ((s1.wider (Nat.le_refl _) h2).trans (s2.wider h1 (Nat.le_refl _)))) fun p q p1 p2 p3 => ?_; by_cases hq : q < mid
  · rw [s2.below hq, s2.below (by omega)]; exact srtSeg_srt W h1 (by omega) p q p1 p2 hq
  by_cases hp : p < mid
  · rw [s2.below hp]; obtain ⟨p', a1, a2, a3⟩ := s1.come W (d := d) (by omega) p1 hp; obtain ⟨q', b1, b2, b3⟩ := s2.come W (d := d) (by omega) (show mid ≤ q by omega) p3; rw [← a3, ← b3, s1.above b1]; exact hc p' q' a1 a2 b1 b2
  exact srtSeg_srt W h2 (by omega) p q (by omega) p2 p3
structure Cut (lt : α → α → Bool) (d : α) (ys : List α) (a m b s e : Nat) : Prop where
  le : s ≤ m ∧ m ≤ e ∧ a ≤ s ∧ e ≤ b
  lo : a < s → e < b → lt (ys.getD e d) (ys.getD (s - 1) d) = false
  hi : s < m → m < e → lt (ys.getD (e - 1) d) (ys.getD s d) = true
theorem Cut.strict (W : Weak lt) (C : Cut lt d ys a m b s e) (hA : SrtI lt d ys a m) (hB : SrtI lt d ys m b) : ∀ p q, s ≤ p → p < m → m ≤ q → q < e → lt (ys.getD q d) (ys.getD p d) = true := fun p q p1 p2 q1 q2 => by
  obtain ⟨c1, c2, c3, c4⟩ := C.le; have h1 := C.hi (by omega) (by omega)
  cases h2 : lt (ys.getD q d) (ys.getD p d) with
  | true => rfl
  | false =>
    have h3 := W.neg _ _ _ h2 (hA.le W (p := s) (q := p) c3 p1 p2); have h4 := W.neg _ _ _ (hB.le W (p := q) (q := e - 1) q1 (by omega) (by omega)) h3; rw [h1] at h4; cases h4
theorem Cut.seg (W : Weak lt) (C : Cut lt d ys a m b s e) (hA : SrtI lt d ys a m) (hB : SrtI lt d ys m b) (hb : b ≤ ys.length) : Seg lt ys (rotE ys s m e) a b := by
  obtain ⟨c1, c2, c3, c4⟩ := C.le; exact rot_seg W (d := d) c3 c1 c2 c4 (by omega) (C.strict W hA hB)
theorem Cut.cross (W : Weak lt) (C : Cut lt d ys a m b s e) (hA : SrtI lt d ys a m) (hB : SrtI lt d ys m b) (hb : b ≤ ys.length) : ∀ p q, a ≤ p → p < s + (e - m) → s + (e - m) ≤ q → q < b → lt ((rotE ys s m e).getD q d) ((rotE ys s m e).getD p d) = false := fun p q p1 p2 q1 q2 => by
  obtain ⟨c1, c2, c3, c4⟩ := C.le; have hst := C.strict W hA hB; rw [rotE_at c1 c2 (by omega), rotE_at c1 c2 (by omega), if_neg (show ¬ q < s by omega), if_neg (show ¬ q < s + (e - m) by omega)]; by_cases hp : p < s
  · rw [if_pos hp]; by_cases hq : q < e
    · rw [if_pos hq]; exact hA.le W p1 (by omega) (by omega)
    rw [if_neg hq]; have h1 := C.lo (by omega) (by omega); exact W.neg _ _ _ (hB.le W (p := e) (q := q) c2 (by omega) q2) (W.neg _ _ _ h1 (hA.le W (p := p) (q := s - 1) p1 (by omega) (by omega)))
  rw [if_neg hp, if_pos p2]; by_cases hq : q < e
  · rw [if_pos hq]; exact W.asym _ _ (hst _ _ (by omega) (by omega) (by omega) (by omega))
  rw [if_neg hq]; exact hB.le W (by omega) (by omega) q2
theorem Cut.four (C : Cut lt d ys a m b s e) (hA : SrtI lt d ys a m) (hB : SrtI lt d ys m b) (hb : b ≤ ys.length) : SrtI lt d (rotE ys s m e) a s ∧ SrtI lt d (rotE ys s m e) s (s + (e - m)) ∧ SrtI lt d (rotE ys s m e) (s + (e - m)) e ∧ SrtI lt d (rotE ys s m e) e b := by
  obtain ⟨c1, c2, c3, c4⟩ := C.le; have e0 : ∀ k, (rotE ys s m e).getD k d = _ := fun k => rotE_at c1 c2 (by omega); refine ⟨fun p q p1 p2 p3 => ?_, fun p q p1 p2 p3 => ?_, fun p q p1 p2 p3 => ?_, fun p q p1 p2 p3 => ?_⟩
  · rw [e0, e0, if_pos (by omega), if_pos (by omega)]; exact hA p q p1 p2 (by omega)
  · rw [e0, e0, if_neg (by omega), if_pos (by omega), if_neg (by omega), if_pos (by omega)]; exact hB _ _ (by omega) (by omega) (by omega)
  · rw [e0, e0, if_neg (by omega), if_neg (by omega), if_pos (by omega), if_neg (by omega), if_neg (by omega), if_pos (by omega)]; exact hA _ _ (by omega) (by omega) (by omega)
  rw [e0, e0, if_neg (by omega), if_neg (by omega), if_neg (by omega), if_neg (by omega), if_neg (by omega), if_neg (by omega)]; exact hB _ _ (by omega) (by omega) (by omega)
theorem one_left (W : Weak lt) (h1 : a + 1 ≤ e) (h2 : e ≤ b) (hB : SrtI lt d ys (a + 1) b) (hb : b ≤ ys.length) (hx : e < b → lt (ys.getD e d) (ys.getD a d) = false) (hy : a + 1 < e → lt (ys.getD (e - 1) d) (ys.getD a d) = true) : rotE ys a (a + 1) e = srtSeg lt ys a b := by
  have C : Cut lt d ys a (a + 1) b a e := ⟨⟨by omega, h1, Nat.le_refl _, h2⟩, fun h => by omega, fun _ h => hy h⟩; have hA : SrtI lt d ys a (a + 1) := SrtI.short (Nat.le_refl _); have hst := C.strict W hA hB; refine seg_srt W (d := d) (by omega) hb (C.seg W hA hB hb) fun p q p1 p2 p3 => ?_; rw [rotE_at (by omega) h1 (by omega), rotE_at (by omega) h1 (by omega), if_neg (show ¬ q < a by omega), if_neg (show ¬ p < a by omega)]; by_cases hq : q < a + (e - (a + 1))
  · rw [if_pos hq, if_pos (by omega)]; exact hB _ _ (by omega) (by omega) (by omega)
  rw [if_neg hq]; by_cases hq2 : q < e
  · rw [if_pos hq2, if_pos (by omega)]; exact W.asym _ _ (hst _ _ (by omega) (by omega) (by omega) (by omega))
  rw [if_neg hq2]; by_cases hp : p < a + (e - (a + 1))
  · rw [if_pos hp]; exact hB _ _ (by omega) (by omega) p3
  rw [if_neg hp]; by_cases hp2 : p < e
  · rw [if_pos hp2, show a + (p - (a + (e - (a + 1)))) = a by omega]; exact W.neg _ _ _ (hB.le W (p := e) (q := q) h1 (by omega) p3) (hx (by omega))
  rw [if_neg hp2]; exact hB _ _ (by omega) p2 p3
theorem one_right (W : Weak lt) (h1 : a ≤ s) (h2 : s ≤ m) (hA : SrtI lt d ys a m) (hb : m + 1 ≤ ys.length) (hx : a < s → lt (ys.getD m d) (ys.getD (s - 1) d) = false) (hy : s < m → lt (ys.getD m d) (ys.getD s d) = true) : rotE ys s m (m + 1) = srtSeg lt ys a (m + 1) := by
  have C : Cut lt d ys a m (m + 1) s (m + 1) := ⟨⟨h2, by omega, h1, Nat.le_refl _⟩, fun _ h => by omega, fun h _ => hy h⟩; have hB : SrtI lt d ys m (m + 1) := SrtI.short (Nat.le_refl _); have hst := C.strict W hA hB; refine seg_srt W (d := d) (by omega) hb (C.seg W hA hB hb) fun p q p1 p2 p3 => ?_; rw [rotE_at h2 (by omega) (by omega), rotE_at h2 (by omega) (by omega)]; by_cases hq : q < s
  · rw [if_pos hq, if_pos (by omega)]; exact hA _ _ p1 p2 (by omega)
  rw [if_neg hq]; by_cases hq2 : q < s + (m + 1 - m)
  · rw [if_pos hq2, if_pos (by omega), show m + (q - s) = m by omega]; exact W.neg _ _ _ (hx (by omega)) (hA.le W (p := p) (q := s - 1) p1 (by omega) (by omega))
  rw [if_neg hq2, if_pos (by omega)]; by_cases hp : p < s
  · rw [if_pos hp]; exact hA _ _ p1 (by omega) (by omega)
  rw [if_neg hp]; by_cases hp2 : p < s + (m + 1 - m)
  · rw [if_pos hp2]; exact W.asym _ _ (hst _ _ (by omega) (by omega) (by omega) (by omega))
  rw [if_neg hp2, if_pos (by omega)]; exact hA _ _ (by omega) (by omega) (by omega)
theorem sym_gen (W : Weak lt) (C : Cut lt d ys a m b s e) (hA : SrtI lt d ys a m) (hB : SrtI lt d ys m b) (hb : b ≤ ys.length) {mid : Nat} (hm : mid = s + (e - m)) : srtSeg lt (srtSeg lt (rotE ys s m e) a mid) mid b = srtSeg lt ys a b := by
  subst hm; obtain ⟨c1, c2, c3, c4⟩ := C.le; exact merge_two W (C.seg W hA hB hb) (by omega) (by omega) hb (C.cross W hA hB hb)
theorem sym_l (W : Weak lt) (C : Cut lt d ys a m b s e) (hA : SrtI lt d ys a m) (hB : SrtI lt d ys m b) (hb : b ≤ ys.length) {mid : Nat} (hm : mid = s + (e - m)) (h : ¬ (a < s ∧ s < mid)) : srtSeg lt (rotE ys s m e) a mid = rotE ys s m e := by
  obtain ⟨c1, c2, c3, c4⟩ := C.le; obtain ⟨f1, f2, f3, f4⟩ := C.four hA hB hb; have hl := rotE_len (ys := ys) c1 c2 (by omega : e ≤ ys.length); refine srtSeg_id W (d := d) (by omega) (by omega) ?_; by_cases h1 : a < s
  · rw [show mid = s by omega]; exact f1
  rw [hm, show a = s by omega]; exact f2
theorem sym_r (W : Weak lt) (C : Cut lt d ys a m b s e) (hA : SrtI lt d ys a m) (hB : SrtI lt d ys m b) (hb : b ≤ ys.length) {mid : Nat} (hm : mid = s + (e - m)) (h : ¬ (mid < e ∧ e < b)) : srtSeg lt (rotE ys s m e) a mid = srtSeg lt ys a b := by
  obtain ⟨c1, c2, c3, c4⟩ := C.le; obtain ⟨f1, f2, f3, f4⟩ := C.four hA hB hb; have hl := rotE_len (ys := ys) c1 c2 (by omega : e ≤ ys.length); have hs : Seg lt (rotE ys s m e) (srtSeg lt (rotE ys s m e) a mid) a mid := srtSeg_seg W (by omega) (by omega); rw [← sym_gen W C hA hB hb hm]; refine (srtSeg_id W (d := d) (by omega) (by rw [hs.len]; omega) fun p q p1 p2 p3 => ?_).symm; rw [hs.above p1, hs.above (by omega)]; by_cases h1 : mid < e
  · have : e = b := by omega
    subst this; subst hm; exact f3 p q p1 p2 p3
  have : mid = e := by omega
  rw [this] at p1; exact f4 p q p1 p2 p3
theorem sym_keep (W : Weak lt) (C : Cut lt d ys a m b s e) (hA : SrtI lt d ys a m) (hB : SrtI lt d ys m b) (hb : b ≤ ys.length) {mid : Nat} (hm : mid = s + (e - m)) : SrtI lt d (srtSeg lt (rotE ys s m e) a mid) mid e ∧ SrtI lt d (srtSeg lt (rotE ys s m e) a mid) e b := by
  obtain ⟨c1, c2, c3, c4⟩ := C.le; obtain ⟨f1, f2, f3, f4⟩ := C.four hA hB hb; have hl := rotE_len (ys := ys) c1 c2 (by omega : e ≤ ys.length); have hs : Seg lt (rotE ys s m e) (srtSeg lt (rotE ys s m e) a mid) a mid := srtSeg_seg W (by omega) (by omega); refine ⟨fun p q p1 p2 p3 => ?_, fun p q p1 p2 p3 => ?_⟩
  · rw [hs.above p1, hs.above (by omega)]; exact f3 p q (by omega) p2 p3
  rw [hs.above (by omega), hs.above (by omega)]; exact f4 p q p1 p2 p3
def Blk (lt : α → α → Bool) (d : α) (ys : List α) (z n : Nat) : Prop := ∀ p q, p < q → q < n → p / z = q / z → lt (ys.getD q d) (ys.getD p d) = false
theorem blk_next (W : Weak lt) {z c : Nat} (h : Blk lt d ys z a) (hz : 0 < z) (ha : a = c * z) (hab : a ≤ b) (hb : b ≤ a + z) (hl : b ≤ ys.length) : Blk lt d (srtSeg lt ys a b) z b := fun p q p1 p2 p3 => by
  have hs : Seg lt ys (srtSeg lt ys a b) a b := srtSeg_seg W hab hl; by_cases hq : q < a
  · rw [hs.below hq, hs.below (by omega)]; exact h p q p1 hq p3
  by_cases hp : p < a
  · exfalso; have h1 : q / z = c := Nat.div_eq_of_lt_le (by omega) (by rw [Nat.add_mul]; omega); rw [h1] at p3; have h2 := Nat.div_mul_le_self p z
    have h3 : p < c * z := by omega
    have h4 : p / z < c := (Nat.div_lt_iff_lt_mul hz).2 h3; omega
  exact srtSeg_srt W hab hl p q (by omega) p1 p2
theorem blk_above (W : Weak lt) {z b' : Nat} (h : ∀ p q, a ≤ p → p < q → q < n → p / z = q / z → lt (ys.getD q d) (ys.getD p d) = false) (hab : a ≤ b') (hl : b' ≤ ys.length) : ∀ p q, b' ≤ p → p < q → q < n → p / z = q / z → lt ((srtSeg lt ys a b').getD q d) ((srtSeg lt ys a b').getD p d) = false := fun p q p1 p2 p3 p4 => by
  have hs : Seg lt ys (srtSeg lt ys a b') a b' := srtSeg_seg W hab hl; rw [hs.above p1, hs.above (by omega)]; exact h p q (by omega) p2 p3 p4
theorem blk_all (W : Weak lt) {xs : List α} {z : Nat} (h : Blk lt d ys z ys.length) (hz : ys.length ≤ z) (hs : SameEq lt xs ys) (hl : ys.length = xs.length) : ys = sortS lt xs := by
  have h1 : SrtI lt d ys 0 ys.length := fun p q _ p2 p3 => h p q p2 p3 (by rw [Nat.div_eq_of_lt (by omega), Nat.div_eq_of_lt (by omega)]); have h2 := srtI_mid (Nat.le_refl _) h1; rw [List.take_length, List.drop_zero] at h2; exact (sortS_eq W h2 hs).symm
end Go.Fs
namespace Go.Fs
variable {P : Program} {orc : FuncId → List Value → Heap → Option (Value × Heap)} {h h' h0 h1 h2 : Heap} {S S' S0 B G : List Nat} {σ σ' σr : Sto} {t t' : Tr} {ms : List Nat} {fl : VL} {ops : Array Oper} {n i mem : Nat} {l : List Oper} {K : VL → Sto → Prop} {Q : Ex → VL → Sto → Prop}
  {d : Tmp} {ty : TypeId} {pos : String} {after : Array Edge} {op : Op} {v pv : PV} {g : Option (Nat × Bool)} {x y z : Operand} {T T' e : TypeId} {τ τ' : Ty} {w : Value}
theorem CalmV.shrUU {p q : Int} (hx : evV fl x = some (.v (.int .u64) p)) (hy : evV fl y = some (.v (.int .u64) q)) (hq : 0 ≤ q ∧ q ≤ 64) : CalmV P fl σ (.binOp .shr T x y T') (.v (.int .u64) (p.fdiv (2 ^ q.toNat))) :=
  .binI hx hy (u := .int .u64 (p.fdiv (2 ^ q.toNat))) (by have this : min q.toNat IntKind.u64.bits = q.toNat := Nat.min_eq_left (show q.toNat ≤ 64 by omega); show (runPure P (Op.shift .shr .u64 p .u64 q)).bind _ = _; unfold Op.shift; rw [if_neg (by omega)]; simp only [this]; rfl) fun h S => RepV.ofInt _ _
theorem half_nat (i j : Nat) : (((i : Nat) : Int) + ((j : Nat) : Int)).fdiv (2 ^ (1 : Int).toNat) = (((i + j) / 2 : Nat) : Int) := by
  have e : (2 ^ (1 : Int).toNat : Int) = 2 := by decide
  rw [e, Int.fdiv_eq_ediv_of_nonneg _ (by decide)]; omega
theorem ReadV.ldOD {xs : List τ.den} {j : Nat} (d : τ.den) (hx : evV fl x = some (.raw (ptrAt w τ.size j))) (hm : (w, Cell.row T τ xs) ∈ σ) (hT : ValT P T τ) (hj : j < xs.length) : ReadV P fl σ (.load T x) (.v τ (xs.getD j d)) := by
  rw [getDg xs d hj]; exact ReadV.ldO hx hm hT hj
theorem RepC.same (hg : ∀ b o, h.get b = some o → h2.get b = some o) : ∀ {τ : Ty} {cs : List Value} {x y : τ.den}, RepC h S τ cs x → RepC h2 S' τ cs y → x = y := by
  intro τ
  induction τ with
  | int k => intro cs x y hx hy; have hx' : cs = [.int k x] := hx; have hy' : cs = [.int k y] := hy; rw [hx'] at hy'; simpa using hy'
  | bool => intro cs x y hx hy; have hx' : cs = [.bool x] := hx; have hy' : cs = [.bool y] := hy; rw [hx'] at hy'; simpa using hy'
  | str => intro cs x y hx hy; have hx' : cs = [.string x] := hx; have hy' : cs = [.string y] := hy; rw [hx'] at hy'; simpa using hy'
  | flt k => intro cs x y hx hy; have hx' : cs = [.float k x] := hx; have hy' : cs = [.float k y] := hy; rw [hx'] at hy'; simpa using hy'
  | unit => intro cs x y _ _; rfl
  | fn =>
    intro cs x y hx hy; have hx' : cs = [fnV x] := hx; have hy' : cs = [fnV y] := hy; rw [hx'] at hy'
    have h3 : fnV x = fnV y := by simpa using hy'
    cases x with
    | none => cases y with
      | none => rfl
      | some b => cases h3
    | some a => cases y with
      | none => cases h3
      | some b => injection h3 with h4; injection h4 with h5; rw [h5]
  | hnd =>
    intro cs x y hx hy; have hx' : cs = [hndV x] := hx; have hy' : cs = [hndV y] := hy; rw [hx'] at hy'
    have h3 : hndV x = hndV y := by simpa using hy'
    cases x with
    | none => cases y with
      | none => rfl
      | some b => cases h3
    | some a => cases y with
      | none => cases h3
      | some b =>
        obtain ⟨a1, a2⟩ := a; obtain ⟨b1, b2⟩ := b; simp only [hndV, Value.slice.injEq, Option.some.injEq, Addr.mk.injEq, and_true, true_and] at h3
        rw [h3.1, h3.2]
  | pair a b iha ihb => intro cs x y hx hy; exact Prod.ext (iha hx.1 hy.1) (ihb hx.2 hy.2)
  | sl e ih =>
    rintro cs x y ⟨v, h1, hv⟩ ⟨v', h1', hv'⟩
    obtain rfl : v = v' := by rw [h1] at h1'; simpa using h1'
    have key : List.length (x : List e.den) = List.length (y : List e.den) ∧ ∀ i (hi : i < List.length (x : List e.den)) (hj : i < List.length (y : List e.den)), (x : List e.den)[i] = (y : List e.den)[i] := by
      rcases hv with ⟨rfl, rfl⟩ | ⟨b, o, mk, rfl, hv⟩
      · rcases hv' with ⟨_, rfl⟩ | ⟨_, _, _, h3, _⟩
        · exact ⟨rfl, fun i hi => absurd hi (Nat.not_lt_zero i)⟩
        cases h3
      rcases hv' with ⟨h3, _⟩ | ⟨b', o', mk', h3, hv'⟩
      · cases h3
      injection h3 with h4 h5 h6; injection h4 with h7; injection h7 with h8 h9 h10; subst h8; subst h9; refine ⟨h5, fun i hi hj => ?_⟩; rcases hv with rfl | ⟨_, e1, rs, ow, mo, g1, _, g3⟩
      · exact absurd hi (Nat.not_lt_zero i)
      rcases hv' with rfl | ⟨_, e1', rs', ow', mo', g1', _, g3'⟩
      · exact absurd hj (Nat.not_lt_zero i)
      have h11 := hg _ _ g1; rw [g1'] at h11; injection h11 with h12; injection h12 with _ h13; subst h13; exact ih (g3 i hi) (g3' i hj)
    exact List.ext_getElem key.1 key.2
  | mp a b iha ihb =>
    rintro cs x y ⟨v, h1, hv⟩ ⟨v', h1', hv'⟩
    obtain rfl : v = v' := by rw [h1] at h1'; simpa using h1'
    have key : List.length (x : List (a.den × b.den)) = List.length (y : List (a.den × b.den)) ∧ ∀ i (hi : i < List.length (x : List (a.den × b.den))) (hj : i < List.length (y : List (a.den × b.den))), (x : List (a.den × b.den))[i] = (y : List (a.den × b.den))[i] := by
      rcases hv with ⟨rfl, rfl⟩ | ⟨bb, es, c, rfl, _, g1, g2, g3⟩
      · rcases hv' with ⟨_, rfl⟩ | ⟨_, _, _, h3, _⟩
        · exact ⟨rfl, fun i hi => absurd hi (Nat.not_lt_zero i)⟩
        cases h3
      rcases hv' with ⟨h3, _⟩ | ⟨b', es', c', h3, _, g1', g2', g3'⟩
      · cases h3
      injection h3 with h4; injection h4 with h5; subst h5; have h11 := hg _ _ g1; rw [g1'] at h11; injection h11 with h12; injection h12 with h13 _; subst h13; refine ⟨g2.symm.trans g2', fun i hi hj => ?_⟩; have q1 := g3 i hi (by omega); have q2 := g3' i hj (by omega); exact Prod.ext (iha q1.1.2 q2.1.2) (ihb q1.2.2 q2.2.2)
    exact List.ext_getElem key.1 key.2
theorem CellR.row_one (hg : ∀ b o, h.get b = some o → h2.get b = some o) {ys zs : List τ.den} (h1 : CellR h S w (.row e τ ys)) (h3 : CellR h2 S' w (.row e τ zs)) : ys = zs := by
  rcases h1 with ⟨rfl, rfl⟩ | ⟨b, rs, m, rfl, _, g1, g2⟩
  · rcases h3 with ⟨_, rfl⟩ | ⟨_, _, _, h3, _⟩
    · rfl
    cases h3
  rcases h3 with ⟨h3, _⟩ | ⟨b', rs', m', h3, _, g1', g2'⟩
  · cases h3
  injection h3 with h4 h5 h6; injection h4 with h7; injection h7 with h8; subst h8; have h11 := hg _ _ g1; rw [g1'] at h11; injection h11 with h12; injection h12 with _ h13; subst h13; exact List.ext_getElem h5 fun i hi hj => RepC.same hg (g2.2 i hi) (g2'.2 i hj)
def VEndW (fn : Func) (w : Value) (e : TypeId) (τ : Ty) (zs : List τ.den) : Ex → VL → Sto → Prop := fun ex _ σ => ex.goes = true ∧ fn.results = #[] ∧ σ = [(w, .row e τ zs)]
theorem VFG.enterW {f : FuncId} {args : List PV} {fn : Func} {c : Code} {ys zs : List τ.den} (hfn : P.funcs[f]? = some fn) (hc : fn.body = some c) (ho : ∀ us h, orc f us h = none) (hn : (Nat.blt 4000 fn.ntmps || Nat.blt fn.ntmps args.length) = false)
    (hb : VC P orc none c fn.ntmps (argVL 0 args) [(w, .row e τ ys)] (VEndW fn w e τ zs)) : VFG P orc f args [(w, .row e τ ys)] (fun r g => r = .tup [] ∧ g = [(w, .row e τ zs)]) := fun h S us hok hS hcells hnd hsep ha => by
  have hl := ha.len
  have hn2 : Nat.blt 4000 fn.ntmps = false ∧ Nat.blt fn.ntmps args.length = false := by simpa using hn
  have n3 := nble_no hn2.1; have n4 := nble_no hn2.2; have ha' : RepL (entry h) (own [(w, .row e τ ys)] ++ S) args us := RepL.nx (h := h) (h' := entry h) (fun _ _ a b => ⟨a, b⟩) ha
  have I0 : Iv (entry h) (own [(w, .row e τ ys)]) S (entry h) [(w, .row e τ ys)] (fillTr .leaf 0 us) [] (argVL 0 args) := {
    ok := hok
    s0 := hS
    aft := Aft.refl _ _
    cells := fun c hc => (hcells c hc).keep (fun _ _ => rfl) (fun _ _ a b => ⟨a, b⟩) fun b hb => List.mem_append_left _ (List.mem_flatMap.2 ⟨c, hc, hb⟩)
    new := fun b hb => ⟨.inl hb, hsep b hb⟩
    apart := hnd
    mark := fun d hd => by cases hd
    marks := List.nodup_nil
    slots := slots_args ha' (by omega) }
  refine EvF.enter hfn hc (ho us h) (by rw [hl]; exact hn) ((hb (entry h) (own [(w, .row e τ ys)]) S _ (entry h) [] I0).mono fun ex fr h1 hq => ?_); obtain ⟨_, fl', σ', Iv1, he, hr, rfl⟩ := hq; obtain ⟨h2, d1, d2, d3⟩ := drops_ok Iv1.marks fun d hd => (Iv1.mark d hd).2
  have hgd : ∀ b o, h1.get b = some o → o ≠ .defd → h2.get b = some o := fun b o hg hne => by
    rw [d3 b (fun hm => hne (by have := (Iv1.mark b hm).2; rw [hg] at this; exact Option.some.inj this))]; exact hg
  have a2 : Aft (entry h) h2 (own [(w, .row e τ ys)]) := Iv1.aft.trans d2 fun i hi => .inr (Iv1.mark i hi).1
  have hcell2 : CellR h2 (own [(w, .row e τ zs)] ++ S) w (.row e τ zs) := by
    have hx : CellR h1 (own [(w, .row e τ zs)] ++ S) w (.row e τ zs) := Iv1.cells _ List.mem_cons_self; have hN : GoesR h1 (own [(w, .row e τ zs)] ++ S) h2 (own [(w, .row e τ zs)] ++ S) := fun b _ hg hne hbS => ⟨hgd b _ hg hne, hbS⟩; rcases hx with hx | ⟨b, rs, m, h3, h4, h5, h6⟩
    · exact .inl hx
    exact .inr ⟨b, rs, m, h3, h4, hgd b _ h5 (by simp), h6.1, fun i hi => (h6.2 i hi).nxR hN⟩
  have hown : own [(w, Cell.row e τ zs)] = own [(w, Cell.row e τ ys)] := rfl; have hnil : ∀ hh SS, RepPV hh SS (.tup []) (tupled []) := fun hh SS => ⟨[], rfl, rfl⟩; refine ⟨he, h2, [], d1, by rw [hr]; rfl, ?_⟩; unfold leftOf
  cases haf : (af (tupled []) && Nat.ble h.next h2.low) with
  | true =>
    obtain ⟨_, hlow⟩ := band haf; have hlow := nble hlow
    have hsame : ∀ b, b < h.next → h2.get b = h.get b := fun b hb => by
      rcases a2.chg b hb with h3 | h3
      · exact h3
      omega
    have e0 : ys = zs := CellR.row_one (fun b o hg => by rw [hsame b (hok b o hg)]; exact hg) (hcells _ List.mem_cons_self) hcell2; subst e0
    exact ⟨.tup [], _, ⟨rfl, rfl⟩, ⟨Aft.refl _ _, fun b hb => .inl hb, hnd, hcells⟩, hnil _ _⟩
  | false =>
    refine ⟨.tup [], _, ⟨rfl, rfl⟩, ⟨⟨a2.next, a2.get, fun x => a2.ok x, fun e h3 h4 h5 => Nat.le_min.2 ⟨h3, a2.low e h4 h4 h5⟩, fun b hb => ?_, Nat.min_le_left _ _⟩, fun b hb => .inl hb, hnd, fun c hc => ?_⟩, hnil _ _⟩
    · rcases a2.chg b hb with h3 | h3
      · exact .inl h3
      exact .inr (Nat.le_trans (Nat.min_le_right _ _) h3)
    rw [List.mem_singleton.1 hc]; exact hcell2.keep (fun _ _ => rfl) (fun _ _ a b => ⟨a, b⟩) fun b hb => List.mem_append_left _ (by rw [show own [(w, Cell.row e τ zs)] = blk w from by simp [own]]; exact hb)
end Go.Fs
namespace Go.Proofs
open Go.Fs Ieee
def zPl : Pc × Int := ((0, ByteArray.empty, 0, 0, []), 0)
def ltP (x y : Pc × Int) : Bool := decide (cmpP x y < 0)
theorem cmpF {a b : Int} {r : List Int} : (0 ≤ firstE (cmpI a b :: r)) = (b < a ∨ a = b ∧ 0 ≤ firstE r) := by
  unfold cmpI; by_cases h : a < b
  · rw [if_pos h]; simp [firstE]; omega
  rw [if_neg h]; by_cases h2 : b < a
  · rw [if_pos h2]; simp [firstE]; omega
  rw [if_neg h2]; simp [firstE]; omega
theorem ltP_weak : Weak ltP where
  asym := fun a b h => by
    have e3 : 0 ≤ firstE [] := by decide
    unfold ltP cmpP at *; rw [decide_eq_true_iff, ← Int.not_le] at h; rw [decide_eq_false_iff_not, Int.not_lt]; simp only [cmpF, e3, and_true] at *; omega
  neg := fun a b c h1 h2 => by
    have e3 : 0 ≤ firstE [] := by decide
    unfold ltP cmpP at *; rw [decide_eq_false_iff_not, Int.not_lt] at *; simp only [cmpF, e3, and_true] at *; omega
theorem zSwR_ok {w_ys : Value} {ys : List ((Int × ByteArray × Int × Int × (List Nat)) × Int)} {a : Nat} {b : Nat} {n : Nat} {cmp : PV} (hl : ys.length < 1000000) (ha : a + n ≤ b) (hb : b + n ≤ ys.length) (hf : ∀ x y, VCall Tryz.prog OA cmp [.v y104 x, .v y104 y] (I (cmpP x y))) : VFG Tryz.prog OA 163 [.raw w_ys, I ((a : Nat) : Int), I ((b : Nat) : Int), I ((n : Nat) : Int), cmp] [(w_ys, .row 104 y104 ys)] (fun r g => r = .tup [] ∧ g = [(w_ys, .row 104 y104 (swR ys a b zPl n))]) := by
  refine VFG.enterW Tryz.func163 rfl (fun _ _ => rfl) rfl ?_; show VC _ _ _ _ _ [(0, .raw w_ys), (1, I ((a : Nat) : Int)), (2, I ((b : Nat) : Int)), (3, I ((n : Nat) : Int)), (4, cmp)] [(w_ys, .row 104 y104 ys)] _; refine VC.seq (VC.text ?_); refine VO.c (.assign rfl) ?_; refine VO.go (VC.block ?_); refine VC.keep [(0, .raw w_ys), (1, I ((a : Nat) : Int)), (2, I ((b : Nat) : Int)), (3, I ((n : Nat) : Int)), (10, I ((0 : Nat) : Int))] ⟨rfl, rfl, rfl, rfl, rfl, trivial⟩ ?_; refine VC.loop (I := fun kk ff ss => ∃ (i : Nat), kk = n - i ∧ ff = [(0, .raw w_ys), (1, I ((a : Nat) : Int)), (2, I ((b : Nat) : Int)), (3, I ((n : Nat) : Int)), (10, I ((i : Nat) : Int))] ∧ ss = [(w_ys, .row 104 y104 (swR ys a b zPl i))] ∧ (i ≤ n)) ?_ _ _ _ ⟨0, rfl, rfl, (by rfl), Nat.zero_le _⟩; rintro kk ff ss ⟨i, hk0, rfl, rfl, hi⟩; have hR : (swR ys a b zPl i).length = ys.length := swR_len; refine VC.seq (VC.seq (VC.text ?_)); refine VO.c (.move rfl) (VO.c (.move rfl) (VO.c (.lss) (VO.go ?_))); refine VC.condD rfl (fun c1 => ?_) (fun c1 => ?_)
  · refine VC.skip (VC.seq (VC.block (VC.drawn ?_))); refine VD.c (.move rfl) (VD.c (.move rfl) (VD.c (.move rfl) (VD.c (.add rfl rfl (by omega)) ?_))); refine VD.c (.move rfl) (VD.c (.move rfl) (VD.nw [] (VD.c (.move rfl) ?_))); refine VD.c (.add rfl rfl (by omega)) (VD.c (.move rfl) (VD.c (.move rfl) (VD.c (.move rfl) ?_))); refine VD.c (.add rfl rfl (by omega)) ?_; refine VD.co (.ixO (j := (b + i)) rfl rfl m0 el101 (by omega)) ?_; refine VD.nw [] ?_; refine VD.r [(w_ys, .row 104 y104 (swR ys a b zPl i))] (.ldOD zPl rfl m0 vt104 (by omega)) (.inr ⟨rfl, rfl⟩) ?_; refine VD.c (.move rfl) (VD.c (.move rfl) (VD.c (.move rfl) (VD.c (.add rfl rfl (by omega)) ?_))); refine VD.co (.ixO (j := (a + i)) rfl rfl m0 el101 (by omega)) ?_; refine VD.r [(w_ys, .row 104 y104 (swR ys a b zPl i))] (.ldOD zPl rfl m0 vt104 (by omega)) (.inr ⟨rfl, rfl⟩) ?_; refine VD.nw [] ?_; refine VD.co (.ixO (j := (a + i)) rfl rfl m0 el101 (by omega)) ?_; refine VD.mk0 (MakeV.setE (j := (a + i)) vt104 (by omega) rfl rfl) ?_; rintro _ _ tl1 ⟨rfl, rfl⟩; refine VD.co (.ixO (j := (b + i)) rfl rfl m0 el101 (by simp; omega)) ?_; refine VD.mk0 (MakeV.setE (j := (b + i)) vt104 (by simp; omega) rfl rfl) ?_; rintro _ _ tl2 ⟨rfl, rfl⟩; refine VD.nil ?_; refine VC.text ?_; refine VO.c (.move rfl) (VO.c (.add rfl rfl (by omega)) (VO.c (.assign rfl) ?_)); refine VO.nil ?_; refine ⟨_, [(0, .raw w_ys), (1, I ((a : Nat) : Int)), (2, I ((b : Nat) : Int)), (3, I ((n : Nat) : Int)), (10, I (((i + 1) : Nat) : Int))], ?_, ⟨rfl, rfl, rfl, rfl, rfl, trivial⟩, (i + 1), rfl, rfl, (by rfl), (by omega)⟩; omega
  refine VC.exit ?_; exact ⟨rfl, rfl, (by rw [show i = n by omega])⟩
theorem zRot_ok {w_ys : Value} {ys : List ((Int × ByteArray × Int × Int × (List Nat)) × Int)} {a : Nat} {m : Nat} {b : Nat} {cmp : PV} (hl : ys.length < 1000000) (ha : a < m) (hm : m < b) (hb : b ≤ ys.length) (hf : ∀ x y, VCall Tryz.prog OA cmp [.v y104 x, .v y104 y] (I (cmpP x y))) : VFG Tryz.prog OA 151 [.raw w_ys, I ((a : Nat) : Int), I ((m : Nat) : Int), I ((b : Nat) : Int), cmp] [(w_ys, .row 104 y104 ys)] (fun r g => r = .tup [] ∧ g = [(w_ys, .row 104 y104 (rotE ys a m b))]) := by
  refine VFG.enterW Tryz.func151 rfl (fun _ _ => rfl) rfl ?_; show VC _ _ _ _ _ [(0, .raw w_ys), (1, I ((a : Nat) : Int)), (2, I ((m : Nat) : Int)), (3, I ((b : Nat) : Int)), (4, cmp)] [(w_ys, .row 104 y104 ys)] _; refine VC.seq (VC.text ?_); refine VO.c (.move rfl) (VO.c (.move rfl) (VO.c (.sub rfl rfl (by omega)) ?_)); rw [show ((m : Nat) : Int) - ((a : Nat) : Int) = ((m - a : Nat) : Int) by omega]; refine VO.c (.assign rfl) ?_; refine VO.go (VC.seq (VC.text ?_)); refine VO.c (.move rfl) (VO.c (.move rfl) (VO.c (.sub rfl rfl (by omega)) ?_)); rw [show ((b : Nat) : Int) - ((m : Nat) : Int) = ((b - m : Nat) : Int) by omega]; refine VO.c (.assign rfl) ?_; refine VO.go (VC.seq (VC.block ?_)); refine VC.keep [(0, .raw w_ys), (2, I ((m : Nat) : Int)), (4, cmp), (10, I (((m - a) : Nat) : Int)), (11, I (((b - m) : Nat) : Int))] ⟨rfl, rfl, rfl, rfl, rfl, trivial⟩ ?_; refine VC.loop (I := fun kk ff ss => ∃ (i : Nat) (j : Nat) (zs : List (Pc × Int)), kk = i + j ∧ ff = [(0, .raw w_ys), (2, I ((m : Nat) : Int)), (4, cmp), (10, I ((i : Nat) : Int)), (11, I ((j : Nat) : Int))] ∧ ss = [(w_ys, .row 104 y104 zs)] ∧ (0 < i ∧ 0 < j ∧ i ≤ m ∧ m + j ≤ ys.length) ∧ (zs.length = ys.length) ∧ (rotE zs (m - i) m (m + j) = rotE ys a m b)) ?_ _ _ _ ⟨m - a, b - m, ys, rfl, rfl, (by rfl), (by omega), (by rfl), (by rw [show m - (m - a) = a by omega, show m + (b - m) = b by omega])⟩; rintro kk ff ss ⟨i, j, zs, hk0, rfl, rfl, hij, hzl, hr⟩; refine VC.seq (VC.seq (VC.text ?_)); refine VO.c (.move rfl) (VO.c (.move rfl) (VO.c (.neq) (VO.go ?_))); refine VC.condD rfl (fun c2 => ?_) (fun c2 => ?_)
  · refine VC.skip (VC.block (VC.seq (VC.text ?_))); refine VO.c (.move rfl) (VO.c (.move rfl) (VO.c (.gtr) (VO.go ?_))); refine VC.condD rfl (fun c3 => ?_) (fun c3 => ?_)
    · refine VC.seq (VC.text ?_); refine VO.c (.move rfl) (VO.c (.move rfl) (VO.c (.move rfl) (VO.c (.sub rfl rfl (by omega)) ?_))); rw [show ((m : Nat) : Int) - ((i : Nat) : Int) = ((m - i : Nat) : Int) by omega]; refine VO.c (.move rfl) (VO.c (.move rfl) (VO.c (.move rfl) ?_)); refine VO.callG [(w_ys, .row 104 y104 zs)] rfl rfl rfl (VFG.call (zSwR_ok (by first | assumption | omega | simp) (by first | assumption | omega | simp) (by first | assumption | omega | simp) (by first | assumption | omega | simp))) ?_; rintro _ _ ⟨rfl, rfl⟩; show VO _ _ _ _ _ _ [(w_ys, .row 104 y104 (swR zs (m - i) m zPl j))] _; refine VO.go (VC.text ?_); refine VO.c (.move rfl) (VO.c (.move rfl) (VO.c (.sub rfl rfl (by omega)) (VO.c (.assign rfl) ?_))); refine VO.nil ?_; refine ⟨_, [(0, .raw w_ys), (2, I ((m : Nat) : Int)), (4, cmp), (10, I (((if j < i then i - j else i) : Nat) : Int)), (11, I (((if j < i then j else j - i) : Nat) : Int))], ?_, ⟨rfl, rfl, rfl, slI rfl (by first | (rw [if_pos (by omega)]; omega) | rw [if_neg (by omega)]), slI rfl (by first | rw [if_pos (by omega)] | (rw [if_neg (by omega)]; omega)), trivial⟩, (if j < i then i - j else i), (if j < i then j else j - i), (if j < i then swR zs (m - i) m zPl j else swR zs (m - i) (m + j - i) zPl i), rfl, rfl, (by first | rw [if_pos (by omega)] | rw [if_neg (by omega)]), (by split <;> omega), (by split <;> (rw [swR_len]; exact hzl)), (by by_cases hji : j < i; (simp only [if_pos hji]; rw [show m - (i - j) = m - i + j by omega, rot_more hji (by omega) (by omega)]; exact hr); (simp only [if_neg hji]; rw [show m + (j - i) = m + j - i by omega, rot_less (by omega) (by omega) (by omega)]; exact hr))⟩; split <;> omega
    refine VC.seq (VC.text ?_); refine VO.c (.move rfl) (VO.c (.move rfl) (VO.c (.move rfl) (VO.c (.sub rfl rfl (by omega)) ?_))); rw [show ((m : Nat) : Int) - ((i : Nat) : Int) = ((m - i : Nat) : Int) by omega]; refine VO.c (.move rfl) (VO.c (.move rfl) (VO.c (.add rfl rfl (by omega)) (VO.c (.move rfl) ?_))); refine VO.c (.sub rfl rfl (by omega)) ?_; rw [show (((m : Nat) : Int) + ((j : Nat) : Int)) - ((i : Nat) : Int) = ((m + j - i : Nat) : Int) by omega]; refine VO.c (.move rfl) (VO.c (.move rfl) ?_); refine VO.callG [(w_ys, .row 104 y104 zs)] rfl rfl rfl (VFG.call (zSwR_ok (by first | assumption | omega | simp) (by first | assumption | omega | simp) (by first | assumption | omega | simp) (by first | assumption | omega | simp))) ?_; rintro _ _ ⟨rfl, rfl⟩; show VO _ _ _ _ _ _ [(w_ys, .row 104 y104 (swR zs (m - i) (m + j - i) zPl i))] _; refine VO.go (VC.text ?_); refine VO.c (.move rfl) (VO.c (.move rfl) (VO.c (.sub rfl rfl (by omega)) (VO.c (.assign rfl) ?_))); refine VO.nil ?_; refine ⟨_, [(0, .raw w_ys), (2, I ((m : Nat) : Int)), (4, cmp), (10, I (((if j < i then i - j else i) : Nat) : Int)), (11, I (((if j < i then j else j - i) : Nat) : Int))], ?_, ⟨rfl, rfl, rfl, slI rfl (by first | (rw [if_pos (by omega)]; omega) | rw [if_neg (by omega)]), slI rfl (by first | rw [if_pos (by omega)] | (rw [if_neg (by omega)]; omega)), trivial⟩, (if j < i then i - j else i), (if j < i then j else j - i), (if j < i then swR zs (m - i) m zPl j else swR zs (m - i) (m + j - i) zPl i), rfl, rfl, (by first | rw [if_pos (by omega)] | rw [if_neg (by omega)]), (by split <;> omega), (by split <;> (rw [swR_len]; exact hzl)), (by by_cases hji : j < i; (simp only [if_pos hji]; rw [show m - (i - j) = m - i + j by omega, rot_more hji (by omega) (by omega)]; exact hr); (simp only [if_neg hji]; rw [show m + (j - i) = m + j - i by omega, rot_less (by omega) (by omega) (by omega)]; exact hr))⟩; split <;> omega
  refine VC.exit (VC.text ?_); refine VO.c (.move rfl) (VO.c (.move rfl) (VO.c (.move rfl) (VO.c (.sub rfl rfl (by omega)) ?_))); rw [show ((m : Nat) : Int) - ((i : Nat) : Int) = ((m - i : Nat) : Int) by omega]; refine VO.c (.move rfl) (VO.c (.move rfl) (VO.c (.move rfl) ?_)); refine VO.callG [(w_ys, .row 104 y104 zs)] rfl rfl rfl (VFG.call (zSwR_ok (by first | assumption | omega | simp) (by first | assumption | omega | simp) (by first | assumption | omega | simp) (by first | assumption | omega | simp))) ?_; rintro _ _ ⟨rfl, rfl⟩; show VO _ _ _ _ _ _ [(w_ys, .row 104 y104 (swR zs (m - i) m zPl i))] _; refine VO.nil ?_; exact ⟨rfl, rfl, (by rw [rot_end (by omega) (by omega), show m + i = m + j by omega, hr])⟩
theorem zInsC_ok {w_ys : Value} {ys : List ((Int × ByteArray × Int × Int × (List Nat)) × Int)} {a : Nat} {b : Nat} {cmp : PV} (hl : ys.length < 1000000) (hab : a ≤ b) (hb : b ≤ ys.length) (hf : ∀ x y, VCall Tryz.prog OA cmp [.v y104 x, .v y104 y] (I (cmpP x y))) : VFG Tryz.prog OA 128 [.raw w_ys, I ((a : Nat) : Int), I ((b : Nat) : Int), cmp] [(w_ys, .row 104 y104 ys)] (fun r g => r = .tup [] ∧ g = [(w_ys, .row 104 y104 (srtSeg ltP ys a b))]) := by
  refine VFG.enterW Tryz.func128 rfl (fun _ _ => rfl) rfl ?_; show VC _ _ _ _ _ [(0, .raw w_ys), (1, I ((a : Nat) : Int)), (2, I ((b : Nat) : Int)), (3, cmp)] [(w_ys, .row 104 y104 ys)] _; refine VC.seq (VC.text ?_); refine VO.c (.move rfl) (VO.c (.add rfl rfl (by omega)) (VO.c (.assign rfl) ?_)); refine VO.go (VC.block ?_); refine VC.keep [(0, .raw w_ys), (1, I ((a : Nat) : Int)), (2, I ((b : Nat) : Int)), (3, cmp), (8, I (((a + 1) : Nat) : Int))] ⟨rfl, rfl, rfl, rfl, rfl, trivial⟩ ?_; refine VC.loop (I := fun kk ff ss => ∃ (i : Nat) (zs : List (Pc × Int)), kk = b - i ∧ ff = [(0, .raw w_ys), (1, I ((a : Nat) : Int)), (2, I ((b : Nat) : Int)), (3, cmp), (8, I ((i : Nat) : Int))] ∧ ss = [(w_ys, .row 104 y104 zs)] ∧ (a < i ∧ (i ≤ b ∨ i = a + 1)) ∧ (Seg ltP ys zs a b) ∧ (SrtI ltP zPl zs a i)) ?_ _ _ _ ⟨a + 1, ys, rfl, rfl, (by rfl), (by omega), (by exact Seg.refl _ _ _), (by exact SrtI.short (by omega))⟩; rintro kk ff ss ⟨i, zs, hk0, rfl, rfl, hi, hs, hz⟩; have hzl := hs.len; refine VC.seq (VC.seq (VC.text ?_)); refine VO.c (.move rfl) (VO.c (.move rfl) (VO.c (.lss) (VO.go ?_))); refine VC.condD rfl (fun c1 => ?_) (fun c1 => ?_)
  · refine VC.skip (VC.seq (VC.block (VC.seq (VC.text ?_)))); refine VO.c (.move rfl) (VO.c (.assign rfl) ?_); refine VO.go (VC.block ?_); refine VC.keep [(0, .raw w_ys), (1, I ((a : Nat) : Int)), (2, I ((b : Nat) : Int)), (3, cmp), (8, I ((i : Nat) : Int)), (9, I ((i : Nat) : Int))] ⟨rfl, rfl, rfl, rfl, rfl, rfl, trivial⟩ ?_; refine VC.loop (I := fun kk ff ss => ∃ (j : Nat) (ws : List (Pc × Int)), kk = j ∧ ff = [(0, .raw w_ys), (1, I ((a : Nat) : Int)), (2, I ((b : Nat) : Int)), (3, cmp), (8, I ((i : Nat) : Int)), (9, I ((j : Nat) : Int))] ∧ ss = [(w_ys, .row 104 y104 ws)] ∧ (a ≤ j ∧ j ≤ i) ∧ (Seg ltP ys ws a b) ∧ (Insd ltP zPl ws a j i)) ?_ _ _ _ ⟨i, zs, rfl, rfl, (by rfl), (by omega), (by exact hs), (by exact Insd.start hz)⟩; rintro kk ff ss ⟨j, ws, hk2, rfl, rfl, hj, hs2, hz2⟩; have hwl := hs2.len; refine VC.seq (VC.seq (VC.drawn ?_)); refine VD.c (.move rfl) (VD.c (.move rfl) (VD.c (.gtr) (VD.c (.move rfl) ?_))); refine VD.splitD (x := 21) rfl (fun g4_3 => ?_) (fun g4_3 => ?_)
    · refine VD.c (.move rfl) (VD.nw [] (VD.c (.move rfl) (VD.c (.move rfl) ?_))); refine VD.co (.ixO (j := j) rfl rfl m0 el101 (by omega)) ?_; refine VD.r [(w_ys, .row 104 y104 ws)] (.ldOD zPl rfl m0 vt104 (by omega)) (.inr ⟨rfl, rfl⟩) ?_; refine VD.c (.move rfl) (VD.c (.move rfl) (VD.c (.sub rfl rfl (by omega)) (VD.nw [] ?_))); refine VD.co (.ixO (j := j - 1) rfl (congrArg (fun z : Int => some (PV.v (.int .i64) z)) (show (((j : Nat) : Int) - (1 : Int)) = ((j - 1 : Nat) : Int) by omega)) m0 el101 (by omega)) ?_; refine VD.r [(w_ys, .row 104 y104 ws)] (.ldOD zPl rfl m0 vt104 (by omega)) (.inr ⟨rfl, rfl⟩) ?_; refine VD.call rfl rfl ((hf _ _) ) ?_; refine VD.c (.lss) (VD.c (.pickT rfl rfl) (VD.go ?_)); refine VC.condD rfl (fun c4 => ?_) (fun c4 => ?_)
      · refine VC.skip (VC.seq (VC.block (VC.drawn ?_))); refine VD.c (.move rfl) (VD.c (.move rfl) (VD.c (.move rfl) (VD.c (.move rfl) ?_))); refine VD.c (.sub rfl rfl (by omega)) (VD.c (.move rfl) (VD.nw [] (VD.c (.move rfl) ?_))); refine VD.c (.sub rfl rfl (by omega)) ?_; refine VD.co (.ixO (j := j - 1) rfl (congrArg (fun z : Int => some (PV.v (.int .i64) z)) (show (((j : Nat) : Int) - (1 : Int)) = ((j - 1 : Nat) : Int) by omega)) m0 el101 (by omega)) ?_; refine VD.r [(w_ys, .row 104 y104 ws)] (.ldOD zPl rfl m0 vt104 (by omega)) (.inr ⟨rfl, rfl⟩) ?_; refine VD.c (.move rfl) (VD.c (.move rfl) ?_); refine VD.co (.ixO (j := j) rfl rfl m0 el101 (by omega)) ?_; refine VD.nw [] ?_; refine VD.r [(w_ys, .row 104 y104 ws)] (.ldOD zPl rfl m0 vt104 (by omega)) (.inr ⟨rfl, rfl⟩) ?_; refine VD.co (.ixO (j := j) rfl rfl m0 el101 (by omega)) ?_; refine VD.mk0 (MakeV.setE (j := j) vt104 (by omega) rfl rfl) ?_; rintro _ _ tl6 ⟨rfl, rfl⟩; refine VD.co (.ixO (j := j - 1) rfl (congrArg (fun z : Int => some (PV.v (.int .i64) z)) (show (((j : Nat) : Int) - (1 : Int)) = ((j - 1 : Nat) : Int) by omega)) m0 el101 (by simp; omega)) ?_; refine VD.mk0 (MakeV.setE (j := (j - 1)) vt104 (by simp; omega) rfl rfl) ?_; rintro _ _ tl7 ⟨rfl, rfl⟩; refine VD.nil ?_; refine VC.keep [(0, .raw w_ys), (1, I ((a : Nat) : Int)), (2, I ((b : Nat) : Int)), (3, cmp), (8, I ((i : Nat) : Int)), (9, I ((j : Nat) : Int))] ⟨rfl, rfl, rfl, rfl, rfl, rfl, trivial⟩ ?_; refine VC.text ?_; refine VO.c (.move rfl) (VO.c (.sub rfl rfl (by omega)) (VO.c (.assign rfl) ?_)); refine VO.nil ?_; refine ⟨_, [(0, .raw w_ys), (1, I ((a : Nat) : Int)), (2, I ((b : Nat) : Int)), (3, cmp), (8, I ((i : Nat) : Int)), (9, I (((j - 1) : Nat) : Int))], ?_, ⟨rfl, rfl, rfl, rfl, rfl, slI rfl (by omega), trivial⟩, (j - 1), (swp ws j (j - 1) zPl), rfl, rfl, (by rfl), (by omega), (by obtain ⟨k, hk⟩ : ∃ k, j = k + 1 := ⟨j - 1, by omega⟩; subst hk; exact hs2.trans (swp_seg ltP_weak (d := zPl) (by omega) (by omega) (by omega) (decide_eq_true c4))), (by obtain ⟨k, hk⟩ : ∃ k, j = k + 1 := ⟨j - 1, by omega⟩; subst hk; exact hz2.step (by omega) (by omega) (by omega) (decide_eq_true c4))⟩; omega
      refine VC.exit (VC.text ?_); refine VO.c (.move rfl) (VO.c (.add rfl rfl (by omega)) (VO.c (.assign rfl) ?_)); refine VO.nil ?_; refine ⟨_, [(0, .raw w_ys), (1, I ((a : Nat) : Int)), (2, I ((b : Nat) : Int)), (3, cmp), (8, I (((i + 1) : Nat) : Int))], ?_, ⟨rfl, rfl, rfl, rfl, rfl, trivial⟩, (i + 1), ws, rfl, rfl, (by rfl), (by omega), (by exact hs2), (by exact hz2.done ltP_weak (by omega) (by omega) (fun hh => by first | (exfalso; omega) | exact decide_eq_false c4))⟩; omega
    refine VD.skip (VD.nw [] (VD.skip (VD.skip ?_))); refine VD.skip (VD.skip (VD.skip (VD.skip ?_))); refine VD.skip (VD.nw [] (VD.skip (VD.skip ?_))); refine VD.skip (VD.skip (VD.c (.pickF rfl rfl) (VD.go ?_))); refine VC.condF rfl ?_; refine VC.exit (VC.text ?_); refine VO.c (.move rfl) (VO.c (.add rfl rfl (by omega)) (VO.c (.assign rfl) ?_)); refine VO.nil ?_; refine ⟨_, [(0, .raw w_ys), (1, I ((a : Nat) : Int)), (2, I ((b : Nat) : Int)), (3, cmp), (8, I (((i + 1) : Nat) : Int))], ?_, ⟨rfl, rfl, rfl, rfl, rfl, trivial⟩, (i + 1), ws, rfl, rfl, (by rfl), (by omega), (by exact hs2), (by exact hz2.done ltP_weak (by omega) (by omega) (fun hh => by first | (exfalso; omega) | exact decide_eq_false c4))⟩; omega
  refine VC.exit ?_; exact ⟨rfl, rfl, (by rw [← seg_srt ltP_weak (d := zPl) hab hb hs (fun p q h1 h2 h3 => hz p q h1 h2 (by omega))])⟩
end Go.Proofs
namespace Go.Proofs
open Go.Fs Ieee
def loE (a m b : Nat) : Nat := if (a + b) / 2 < m then (a + b) / 2 + m - b else a
def hiE (a m b : Nat) : Nat := if (a + b) / 2 < m then (a + b) / 2 else m
theorem lo_hi {a m b : Nat} (h1 : a < m) (h2 : m < b) : a ≤ loE a m b ∧ loE a m b ≤ hiE a m b ∧ hiE a m b ≤ m ∧ hiE a m b ≤ (a + b) / 2 ∧ (a + b) / 2 + m ≤ b + loE a m b ∧ m + hiE a m b ≤ (a + b) / 2 + m ∧ (loE a m b = a ∨ (a + b) / 2 + m = b + loE a m b) ∧ (hiE a m b = m ∨ hiE a m b = (a + b) / 2) := by
  by_cases h : (a + b) / 2 < m
  · have e1 : loE a m b = (a + b) / 2 + m - b := if_pos h; have e2 : hiE a m b = (a + b) / 2 := if_pos h; rw [e1, e2]; exact ⟨by omega, by omega, by omega, by omega, by omega, by omega, .inr (by omega), .inr rfl⟩
  have e1 : loE a m b = a := if_neg h; have e2 : hiE a m b = m := if_neg h; rw [e1, e2]; exact ⟨by omega, by omega, by omega, by omega, by omega, by omega, .inl rfl, .inl rfl⟩
theorem zSym_ok {w_ys : Value} {ys : List ((Int × ByteArray × Int × Int × (List Nat)) × Int)} {a : Nat} {m : Nat} {b : Nat} {cmp : PV} (hl : ys.length < 1000000) (ha : a < m) (hm : m < b) (hb : b ≤ ys.length) (hA : SrtI ltP zPl ys a m) (hB : SrtI ltP zPl ys m b) (hf : ∀ x y, VCall Tryz.prog OA cmp [.v y104 x, .v y104 y] (I (cmpP x y))) (IH : ∀ {w : Value} {zs : List (Pc × Int)} {a' m' b' : Nat}, b' - a' < b - a → zs.length < 1000000 → a' < m' → m' < b' → b' ≤ zs.length → SrtI ltP zPl zs a' m' → SrtI ltP zPl zs m' b' → VFG Tryz.prog OA 129 [.raw w, I ((a' : Nat) : Int), I ((m' : Nat) : Int), I ((b' : Nat) : Int), cmp] [(w, .row 104 y104 zs)] (fun r g => r = .tup [] ∧ g = [(w, .row 104 y104 (srtSeg ltP zs a' b'))])) : VFG Tryz.prog OA 129 [.raw w_ys, I ((a : Nat) : Int), I ((m : Nat) : Int), I ((b : Nat) : Int), cmp] [(w_ys, .row 104 y104 ys)] (fun r g => r = .tup [] ∧ g = [(w_ys, .row 104 y104 (srtSeg ltP ys a b))]) := by
  refine VFG.enterW Tryz.func129 rfl (fun _ _ => rfl) rfl ?_; show VC _ _ _ _ _ [(0, .raw w_ys), (1, I ((a : Nat) : Int)), (2, I ((m : Nat) : Int)), (3, I ((b : Nat) : Int)), (4, cmp)] [(w_ys, .row 104 y104 ys)] _; refine VC.seq (VC.seq (VC.text ?_)); refine VO.c (.move rfl) (VO.c (.move rfl) (VO.c (.sub rfl rfl (by omega)) (VO.c (.eql) ?_))); refine VO.go ?_; refine VC.condD rfl (fun c0 => ?_) (fun c0 => ?_)
  · have hm1 : m = a + 1 := by omega
    have hB' : SrtI ltP zPl ys (a + 1) b := by rw [← hm1]; exact hB
    refine VC.seq (VC.text ?_); refine VO.c (.move rfl) (VO.c (.assign rfl) ?_); refine VO.go (VC.seq (VC.text ?_)); refine VO.c (.move rfl) (VO.c (.assign rfl) ?_); refine VO.go (VC.seq (VC.block ?_)); refine VC.keep [(0, .raw w_ys), (1, I ((a : Nat) : Int)), (2, I ((m : Nat) : Int)), (3, I ((b : Nat) : Int)), (4, cmp), (10, I ((m : Nat) : Int)), (11, I ((b : Nat) : Int))] ⟨rfl, rfl, rfl, rfl, rfl, rfl, rfl, trivial⟩ ?_; refine VC.loop (I := fun kk ff ss => ∃ (i : Nat) (j : Nat), kk = j - i ∧ ff = [(0, .raw w_ys), (1, I ((a : Nat) : Int)), (2, I ((m : Nat) : Int)), (3, I ((b : Nat) : Int)), (4, cmp), (10, I ((i : Nat) : Int)), (11, I ((j : Nat) : Int))] ∧ ss = [(w_ys, .row 104 y104 ys)] ∧ (m ≤ i ∧ i ≤ j ∧ j ≤ b) ∧ (i = m ∨ ltP (ys.getD (i - 1) zPl) (ys.getD a zPl) = true) ∧ (j = b ∨ ltP (ys.getD j zPl) (ys.getD a zPl) = false)) ?_ _ _ _ ⟨m, b, rfl, rfl, rfl, (by omega), (by exact .inl rfl), (by exact .inl rfl)⟩; rintro kk ff ss ⟨i, j, hk0, rfl, rfl, hi, h1, h2⟩; refine VC.seq (VC.seq (VC.text ?_)); refine VO.c (.move rfl) (VO.c (.move rfl) (VO.c (.lss) (VO.go ?_))); refine VC.condD rfl (fun c3 => ?_) (fun c3 => ?_)
    · refine VC.skip (VC.block (VC.seq (VC.text ?_))); refine VO.c (.move rfl) (VO.c (.move rfl) (VO.c (.add rfl rfl (by omega)) (VO.c (.convI rfl .u64 (by exact wrapU64 ⟨by omega, by omega⟩)) ?_))); refine VO.c (.shrUU rfl rfl (by decide)) (VO.c (.convI rfl .i64 (by rw [half_nat]; exact wrap64 (by omega) (by omega))) ?_); rw [half_nat]; refine VO.c (.assign rfl) ?_; refine VO.go (VC.seq (VC.drawn ?_)); refine VD.c (.move rfl) (VD.c (.move rfl) (VD.c (.move rfl) ?_)); refine VD.co (.ixO (j := ((i + j) / 2)) rfl rfl m0 el101 (by omega)) ?_; refine VD.r [(w_ys, .row 104 y104 ys)] (.ldOD zPl rfl m0 vt104 (by omega)) (.inr ⟨rfl, rfl⟩) ?_; refine VD.c (.move rfl) (VD.nw [] (VD.c (.move rfl) ?_)); refine VD.co (.ixO (j := a) rfl rfl m0 el101 (by omega)) ?_; refine VD.r [(w_ys, .row 104 y104 ys)] (.ldOD zPl rfl m0 vt104 (by omega)) (.inr ⟨rfl, rfl⟩) ?_; refine VD.call rfl rfl ((hf _ _) ) ?_; refine VD.c (.lss) (VD.go ?_); refine VC.condD rfl (fun c5 => ?_) (fun c5 => ?_)
      · have hq : ltP (ys.getD ((i + j) / 2) zPl) (ys.getD a zPl) = true := decide_eq_true c5; refine VC.text ?_; refine VO.c (.move rfl) (VO.c (.add rfl rfl (by omega)) (VO.c (.assign rfl) ?_)); refine VO.nil ?_; refine ⟨_, [(0, .raw w_ys), (1, I ((a : Nat) : Int)), (2, I ((m : Nat) : Int)), (3, I ((b : Nat) : Int)), (4, cmp), (10, I (((if ltP (ys.getD ((i + j) / 2) zPl) (ys.getD a zPl) then (i + j) / 2 + 1 else i) : Nat) : Int)), (11, I (((if ltP (ys.getD ((i + j) / 2) zPl) (ys.getD a zPl) then j else (i + j) / 2) : Nat) : Int))], ?_, ⟨rfl, rfl, rfl, rfl, rfl, slI rfl (by first | (rw [if_pos hq]; omega) | rw [if_neg (by rw [hq]; exact Bool.false_ne_true)]), slI rfl (by first | rw [if_pos hq] | rw [if_neg (by rw [hq]; exact Bool.false_ne_true)]), trivial⟩, (if ltP (ys.getD ((i + j) / 2) zPl) (ys.getD a zPl) then (i + j) / 2 + 1 else i), (if ltP (ys.getD ((i + j) / 2) zPl) (ys.getD a zPl) then j else (i + j) / 2), rfl, rfl, rfl, (by first | (rw [if_pos hq, if_pos hq]; omega) | (rw [if_neg (by rw [hq]; exact Bool.false_ne_true), if_neg (by rw [hq]; exact Bool.false_ne_true)]; omega)), (by first | (rw [if_pos hq]; exact .inr hq) | (rw [if_neg (by rw [hq]; exact Bool.false_ne_true)]; exact h1)), (by first | (rw [if_pos hq]; exact h2) | (rw [if_neg (by rw [hq]; exact Bool.false_ne_true)]; exact .inr hq))⟩
        first | (rw [if_pos hq, if_pos hq]; omega) | (rw [if_neg (by rw [hq]; exact Bool.false_ne_true), if_neg (by rw [hq]; exact Bool.false_ne_true)]; omega)
      have hq : ltP (ys.getD ((i + j) / 2) zPl) (ys.getD a zPl) = false := decide_eq_false c5; refine VC.text ?_; refine VO.c (.move rfl) (VO.c (.assign rfl) ?_); refine VO.nil ?_; refine ⟨_, [(0, .raw w_ys), (1, I ((a : Nat) : Int)), (2, I ((m : Nat) : Int)), (3, I ((b : Nat) : Int)), (4, cmp), (10, I (((if ltP (ys.getD ((i + j) / 2) zPl) (ys.getD a zPl) then (i + j) / 2 + 1 else i) : Nat) : Int)), (11, I (((if ltP (ys.getD ((i + j) / 2) zPl) (ys.getD a zPl) then j else (i + j) / 2) : Nat) : Int))], ?_, ⟨rfl, rfl, rfl, rfl, rfl, slI rfl (by first | (rw [if_pos hq]; omega) | rw [if_neg (by rw [hq]; exact Bool.false_ne_true)]), slI rfl (by first | rw [if_pos hq] | rw [if_neg (by rw [hq]; exact Bool.false_ne_true)]), trivial⟩, (if ltP (ys.getD ((i + j) / 2) zPl) (ys.getD a zPl) then (i + j) / 2 + 1 else i), (if ltP (ys.getD ((i + j) / 2) zPl) (ys.getD a zPl) then j else (i + j) / 2), rfl, rfl, rfl, (by first | (rw [if_pos hq, if_pos hq]; omega) | (rw [if_neg (by rw [hq]; exact Bool.false_ne_true), if_neg (by rw [hq]; exact Bool.false_ne_true)]; omega)), (by first | (rw [if_pos hq]; exact .inr hq) | (rw [if_neg (by rw [hq]; exact Bool.false_ne_true)]; exact h1)), (by first | (rw [if_pos hq]; exact h2) | (rw [if_neg (by rw [hq]; exact Bool.false_ne_true)]; exact .inr hq))⟩
      first | (rw [if_pos hq, if_pos hq]; omega) | (rw [if_neg (by rw [hq]; exact Bool.false_ne_true), if_neg (by rw [hq]; exact Bool.false_ne_true)]; omega)
    refine VC.exit (VC.seq (VC.seq (VC.text ?_))); refine VO.c (.move rfl) (VO.c (.assign rfl) ?_); refine VO.go (VC.block ?_); refine VC.keep [(0, .raw w_ys), (1, I ((a : Nat) : Int)), (2, I ((m : Nat) : Int)), (3, I ((b : Nat) : Int)), (4, cmp), (10, I ((i : Nat) : Int)), (13, I ((a : Nat) : Int))] ⟨rfl, rfl, rfl, rfl, rfl, rfl, rfl, trivial⟩ ?_; refine VC.loop (I := fun kk ff ss => ∃ (k : Nat), kk = i - k ∧ ff = [(0, .raw w_ys), (1, I ((a : Nat) : Int)), (2, I ((m : Nat) : Int)), (3, I ((b : Nat) : Int)), (4, cmp), (10, I ((i : Nat) : Int)), (13, I ((k : Nat) : Int))] ∧ ss = [(w_ys, .row 104 y104 (rotE ys a (a + 1) (k + 1)))] ∧ (a ≤ k ∧ k + 1 ≤ i)) ?_ _ _ _ ⟨a, rfl, rfl, (by rw [rotE_none (.inr rfl) (by omega) (by omega) (by omega)]), (by omega)⟩; rintro kk ff ss ⟨k, hk2, rfl, rfl, hk⟩; have hR : (rotE ys a (a + 1) (k + 1)).length = ys.length := rotE_len (by omega) (by omega) (by omega); refine VC.seq (VC.seq (VC.text ?_)); refine VO.c (.move rfl) (VO.c (.move rfl) (VO.c (.sub rfl rfl (by omega)) (VO.c (.lss) ?_))); refine VO.go ?_; refine VC.condD rfl (fun c9 => ?_) (fun c9 => ?_)
    · refine VC.skip (VC.seq (VC.block (VC.drawn ?_))); refine VD.c (.move rfl) (VD.c (.move rfl) (VD.c (.move rfl) (VD.c (.move rfl) ?_))); refine VD.c (.add rfl rfl (by omega)) (VD.c (.move rfl) (VD.nw [] (VD.c (.move rfl) ?_))); refine VD.c (.add rfl rfl (by omega)) ?_; refine VD.co (.ixO (j := (k + 1)) rfl rfl m0 el101 (by omega)) ?_; refine VD.r [(w_ys, .row 104 y104 (rotE ys a (a + 1) (k + 1)))] (.ldOD zPl rfl m0 vt104 (by omega)) (.inr ⟨rfl, rfl⟩) ?_; refine VD.c (.move rfl) (VD.c (.move rfl) ?_); refine VD.co (.ixO (j := k) rfl rfl m0 el101 (by omega)) ?_; refine VD.nw [] ?_; refine VD.r [(w_ys, .row 104 y104 (rotE ys a (a + 1) (k + 1)))] (.ldOD zPl rfl m0 vt104 (by omega)) (.inr ⟨rfl, rfl⟩) ?_; refine VD.co (.ixO (j := k) rfl rfl m0 el101 (by omega)) ?_; refine VD.mk0 (MakeV.setE (j := k) vt104 (by omega) rfl rfl) ?_; rintro _ _ tl1 ⟨rfl, rfl⟩; refine VD.co (.ixO (j := (k + 1)) rfl rfl m0 el101 (by simp; omega)) ?_; refine VD.mk0 (MakeV.setE (j := (k + 1)) vt104 (by simp; omega) rfl rfl) ?_; rintro _ _ tl2 ⟨rfl, rfl⟩; refine VD.nil ?_; refine VC.text ?_; refine VO.c (.move rfl) (VO.c (.add rfl rfl (by omega)) (VO.c (.assign rfl) ?_)); refine VO.nil ?_; refine ⟨_, [(0, .raw w_ys), (1, I ((a : Nat) : Int)), (2, I ((m : Nat) : Int)), (3, I ((b : Nat) : Int)), (4, cmp), (10, I ((i : Nat) : Int)), (13, I (((k + 1) : Nat) : Int))], ?_, ⟨rfl, rfl, rfl, rfl, rfl, rfl, rfl, trivial⟩, (k + 1), rfl, rfl, (by rw [← rot_fwd (d := zPl) (by omega) (by omega)] <;> rfl), (by omega)⟩; omega
    refine VC.exit ?_; refine VC.ret ?_; exact ⟨rfl, rfl, (by rw [show k + 1 = i by omega, one_left ltP_weak (d := zPl) (by omega) (by omega) hB' hb (fun h => by have e : i = j := (by omega); rcases h2 with h2 | h2; omega; rw [e]; exact h2) (fun h => by rcases h1 with h1 | h1; omega; exact h1)])⟩
  refine VC.skip (VC.seq (VC.seq (VC.text ?_))); refine VO.c (.move rfl) (VO.c (.move rfl) (VO.c (.sub rfl rfl (by omega)) (VO.c (.eql) ?_))); refine VO.go ?_; refine VC.condD rfl (fun c12 => ?_) (fun c12 => ?_)
  · have hb1 : b = m + 1 := by omega
    refine VC.seq (VC.text ?_); refine VO.c (.move rfl) (VO.c (.assign rfl) ?_); refine VO.go (VC.seq (VC.text ?_)); refine VO.c (.move rfl) (VO.c (.assign rfl) ?_); refine VO.go (VC.seq (VC.block ?_)); refine VC.keep [(0, .raw w_ys), (1, I ((a : Nat) : Int)), (2, I ((m : Nat) : Int)), (3, I ((b : Nat) : Int)), (4, cmp), (14, I ((a : Nat) : Int)), (15, I ((m : Nat) : Int))] ⟨rfl, rfl, rfl, rfl, rfl, rfl, rfl, trivial⟩ ?_; refine VC.loop (I := fun kk ff ss => ∃ (i : Nat) (j : Nat), kk = j - i ∧ ff = [(0, .raw w_ys), (1, I ((a : Nat) : Int)), (2, I ((m : Nat) : Int)), (3, I ((b : Nat) : Int)), (4, cmp), (14, I ((i : Nat) : Int)), (15, I ((j : Nat) : Int))] ∧ ss = [(w_ys, .row 104 y104 ys)] ∧ (a ≤ i ∧ i ≤ j ∧ j ≤ m) ∧ (i = a ∨ ltP (ys.getD m zPl) (ys.getD (i - 1) zPl) = false) ∧ (j = m ∨ ltP (ys.getD m zPl) (ys.getD j zPl) = true)) ?_ _ _ _ ⟨a, m, rfl, rfl, rfl, (by omega), (by exact .inl rfl), (by exact .inl rfl)⟩; rintro kk ff ss ⟨i, j, hk4, rfl, rfl, hi, h1, h2⟩; refine VC.seq (VC.seq (VC.text ?_)); refine VO.c (.move rfl) (VO.c (.move rfl) (VO.c (.lss) (VO.go ?_))); refine VC.condD rfl (fun c15 => ?_) (fun c15 => ?_)
    · refine VC.skip (VC.block (VC.seq (VC.text ?_))); refine VO.c (.move rfl) (VO.c (.move rfl) (VO.c (.add rfl rfl (by omega)) (VO.c (.convI rfl .u64 (by exact wrapU64 ⟨by omega, by omega⟩)) ?_))); refine VO.c (.shrUU rfl rfl (by decide)) (VO.c (.convI rfl .i64 (by rw [half_nat]; exact wrap64 (by omega) (by omega))) ?_); rw [half_nat]; refine VO.c (.assign rfl) ?_; refine VO.go (VC.seq (VC.drawn ?_)); refine VD.c (.move rfl) (VD.c (.move rfl) (VD.c (.move rfl) ?_)); refine VD.co (.ixO (j := m) rfl rfl m0 el101 (by omega)) ?_; refine VD.r [(w_ys, .row 104 y104 ys)] (.ldOD zPl rfl m0 vt104 (by omega)) (.inr ⟨rfl, rfl⟩) ?_; refine VD.c (.move rfl) (VD.nw [] (VD.c (.move rfl) ?_)); refine VD.co (.ixO (j := ((i + j) / 2)) rfl rfl m0 el101 (by omega)) ?_; refine VD.r [(w_ys, .row 104 y104 ys)] (.ldOD zPl rfl m0 vt104 (by omega)) (.inr ⟨rfl, rfl⟩) ?_; refine VD.call rfl rfl ((hf _ _) ) ?_; refine VD.c (.lss) (VD.c (.not) (VD.go ?_)); refine VC.condB rfl (fun c17 => ?_) (fun c17 => ?_)
      · try simp only [Bool.and_eq_true, Bool.or_eq_true, Bool.and_eq_false_iff, Bool.or_eq_false_iff, Bool.not_eq_true', Bool.not_eq_false', decide_eq_true_eq, decide_eq_false_iff_not] at c17
        have hq : ltP (ys.getD m zPl) (ys.getD ((i + j) / 2) zPl) = false := by simpa [ltP] using c17
        refine VC.text ?_; refine VO.c (.move rfl) (VO.c (.add rfl rfl (by omega)) (VO.c (.assign rfl) ?_)); refine VO.nil ?_; refine ⟨_, [(0, .raw w_ys), (1, I ((a : Nat) : Int)), (2, I ((m : Nat) : Int)), (3, I ((b : Nat) : Int)), (4, cmp), (14, I (((if ltP (ys.getD m zPl) (ys.getD ((i + j) / 2) zPl) then i else (i + j) / 2 + 1) : Nat) : Int)), (15, I (((if ltP (ys.getD m zPl) (ys.getD ((i + j) / 2) zPl) then (i + j) / 2 else j) : Nat) : Int))], ?_, ⟨rfl, rfl, rfl, rfl, rfl, slI rfl (by first | rw [if_pos hq] | (rw [if_neg (by rw [hq]; exact Bool.false_ne_true)]; omega)), slI rfl (by first | rw [if_pos hq] | rw [if_neg (by rw [hq]; exact Bool.false_ne_true)]), trivial⟩, (if ltP (ys.getD m zPl) (ys.getD ((i + j) / 2) zPl) then i else (i + j) / 2 + 1), (if ltP (ys.getD m zPl) (ys.getD ((i + j) / 2) zPl) then (i + j) / 2 else j), rfl, rfl, rfl, (by first | (rw [if_pos hq, if_pos hq]; omega) | (rw [if_neg (by rw [hq]; exact Bool.false_ne_true), if_neg (by rw [hq]; exact Bool.false_ne_true)]; omega)), (by first | (rw [if_pos hq]; exact h1) | (rw [if_neg (by rw [hq]; exact Bool.false_ne_true)]; exact .inr hq)), (by first | (rw [if_pos hq]; exact .inr hq) | (rw [if_neg (by rw [hq]; exact Bool.false_ne_true)]; exact h2))⟩
        first | (rw [if_pos hq, if_pos hq]; omega) | (rw [if_neg (by rw [hq]; exact Bool.false_ne_true), if_neg (by rw [hq]; exact Bool.false_ne_true)]; omega)
      try simp only [Bool.and_eq_true, Bool.or_eq_true, Bool.and_eq_false_iff, Bool.or_eq_false_iff, Bool.not_eq_true', Bool.not_eq_false', decide_eq_true_eq, decide_eq_false_iff_not] at c17
      have hq : ltP (ys.getD m zPl) (ys.getD ((i + j) / 2) zPl) = true := by simpa [ltP] using c17
      refine VC.text ?_; refine VO.c (.move rfl) (VO.c (.assign rfl) ?_); refine VO.nil ?_; refine ⟨_, [(0, .raw w_ys), (1, I ((a : Nat) : Int)), (2, I ((m : Nat) : Int)), (3, I ((b : Nat) : Int)), (4, cmp), (14, I (((if ltP (ys.getD m zPl) (ys.getD ((i + j) / 2) zPl) then i else (i + j) / 2 + 1) : Nat) : Int)), (15, I (((if ltP (ys.getD m zPl) (ys.getD ((i + j) / 2) zPl) then (i + j) / 2 else j) : Nat) : Int))], ?_, ⟨rfl, rfl, rfl, rfl, rfl, slI rfl (by first | rw [if_pos hq] | (rw [if_neg (by rw [hq]; exact Bool.false_ne_true)]; omega)), slI rfl (by first | rw [if_pos hq] | rw [if_neg (by rw [hq]; exact Bool.false_ne_true)]), trivial⟩, (if ltP (ys.getD m zPl) (ys.getD ((i + j) / 2) zPl) then i else (i + j) / 2 + 1), (if ltP (ys.getD m zPl) (ys.getD ((i + j) / 2) zPl) then (i + j) / 2 else j), rfl, rfl, rfl, (by first | (rw [if_pos hq, if_pos hq]; omega) | (rw [if_neg (by rw [hq]; exact Bool.false_ne_true), if_neg (by rw [hq]; exact Bool.false_ne_true)]; omega)), (by first | (rw [if_pos hq]; exact h1) | (rw [if_neg (by rw [hq]; exact Bool.false_ne_true)]; exact .inr hq)), (by first | (rw [if_pos hq]; exact .inr hq) | (rw [if_neg (by rw [hq]; exact Bool.false_ne_true)]; exact h2))⟩
      first | (rw [if_pos hq, if_pos hq]; omega) | (rw [if_neg (by rw [hq]; exact Bool.false_ne_true), if_neg (by rw [hq]; exact Bool.false_ne_true)]; omega)
    refine VC.exit (VC.seq (VC.seq (VC.text ?_))); refine VO.c (.move rfl) (VO.c (.assign rfl) ?_); refine VO.go (VC.block ?_); refine VC.keep [(0, .raw w_ys), (1, I ((a : Nat) : Int)), (2, I ((m : Nat) : Int)), (3, I ((b : Nat) : Int)), (4, cmp), (14, I ((i : Nat) : Int)), (17, I ((m : Nat) : Int))] ⟨rfl, rfl, rfl, rfl, rfl, rfl, rfl, trivial⟩ ?_; refine VC.loop (I := fun kk ff ss => ∃ (k : Nat), kk = k ∧ ff = [(0, .raw w_ys), (1, I ((a : Nat) : Int)), (2, I ((m : Nat) : Int)), (3, I ((b : Nat) : Int)), (4, cmp), (14, I ((i : Nat) : Int)), (17, I ((k : Nat) : Int))] ∧ ss = [(w_ys, .row 104 y104 (rotE ys k m (m + 1)))] ∧ (i ≤ k ∧ k ≤ m)) ?_ _ _ _ ⟨m, rfl, rfl, (by rw [rotE_none (.inl rfl) (by omega) (by omega) (by omega)]), (by omega)⟩; rintro kk ff ss ⟨k, hk6, rfl, rfl, hk⟩; have hR : (rotE ys k m (m + 1)).length = ys.length := rotE_len (by omega) (by omega) (by omega); refine VC.seq (VC.seq (VC.text ?_)); refine VO.c (.move rfl) (VO.c (.move rfl) (VO.c (.gtr) (VO.go ?_))); refine VC.condD rfl (fun c21 => ?_) (fun c21 => ?_)
    · refine VC.skip (VC.seq (VC.block (VC.drawn ?_))); refine VD.c (.move rfl) (VD.c (.move rfl) (VD.c (.move rfl) (VD.c (.move rfl) ?_))); refine VD.c (.sub rfl rfl (by omega)) (VD.c (.move rfl) (VD.nw [] (VD.c (.move rfl) ?_))); refine VD.c (.sub rfl rfl (by omega)) ?_; refine VD.co (.ixO (j := k - 1) rfl (congrArg (fun z : Int => some (PV.v (.int .i64) z)) (show (((k : Nat) : Int) - (1 : Int)) = ((k - 1 : Nat) : Int) by omega)) m0 el101 (by omega)) ?_; refine VD.r [(w_ys, .row 104 y104 (rotE ys k m (m + 1)))] (.ldOD zPl rfl m0 vt104 (by omega)) (.inr ⟨rfl, rfl⟩) ?_; refine VD.c (.move rfl) (VD.c (.move rfl) ?_); refine VD.co (.ixO (j := k) rfl rfl m0 el101 (by omega)) ?_; refine VD.nw [] ?_; refine VD.r [(w_ys, .row 104 y104 (rotE ys k m (m + 1)))] (.ldOD zPl rfl m0 vt104 (by omega)) (.inr ⟨rfl, rfl⟩) ?_; refine VD.co (.ixO (j := k) rfl rfl m0 el101 (by omega)) ?_; refine VD.mk0 (MakeV.setE (j := k) vt104 (by omega) rfl rfl) ?_; rintro _ _ tl3 ⟨rfl, rfl⟩; refine VD.co (.ixO (j := k - 1) rfl (congrArg (fun z : Int => some (PV.v (.int .i64) z)) (show (((k : Nat) : Int) - (1 : Int)) = ((k - 1 : Nat) : Int) by omega)) m0 el101 (by simp; omega)) ?_; refine VD.mk0 (MakeV.setE (j := (k - 1)) vt104 (by simp; omega) rfl rfl) ?_; rintro _ _ tl4 ⟨rfl, rfl⟩; refine VD.nil ?_; refine VC.text ?_; refine VO.c (.move rfl) (VO.c (.sub rfl rfl (by omega)) (VO.c (.assign rfl) ?_)); refine VO.nil ?_; refine ⟨_, [(0, .raw w_ys), (1, I ((a : Nat) : Int)), (2, I ((m : Nat) : Int)), (3, I ((b : Nat) : Int)), (4, cmp), (14, I ((i : Nat) : Int)), (17, I (((k - 1) : Nat) : Int))], ?_, ⟨rfl, rfl, rfl, rfl, rfl, rfl, slI rfl (by omega), trivial⟩, (k - 1), rfl, rfl, (by obtain ⟨q, hq⟩ : ∃ q, k = q + 1 := ⟨k - 1, by omega⟩; subst hq; rw [show rotE ys (q + 1 - 1) m (m + 1) = _ from (rot_bwd (d := zPl) (by omega) (by omega)).symm] <;> rfl), (by omega)⟩; omega
    refine VC.exit ?_; refine VC.ret ?_; exact ⟨rfl, rfl, (by rw [show k = i by omega, hb1, one_right ltP_weak (d := zPl) (by omega) (by omega) hA (by omega) (fun h => by rcases h1 with h1 | h1; omega; exact h1) (fun h => by have e : i = j := (by omega); rcases h2 with h2 | h2; omega; rw [e]; exact h2)])⟩
  refine VC.skip (VC.seq (VC.text ?_)); refine VO.c (.move rfl) (VO.c (.move rfl) (VO.c (.add rfl rfl (by omega)) (VO.c (.convI rfl .u64 (by exact wrapU64 ⟨by omega, by omega⟩)) ?_))); refine VO.c (.shrUU rfl rfl (by decide)) (VO.c (.convI rfl .i64 (by rw [half_nat]; exact wrap64 (by omega) (by omega))) ?_); rw [half_nat]; refine VO.c (.assign rfl) ?_; refine VO.go (VC.seq (VC.text ?_)); refine VO.c (.move rfl) (VO.c (.move rfl) (VO.c (.add rfl rfl (by omega)) (VO.c (.assign rfl) ?_))); refine VO.go (VC.seq (VC.text ?_)); refine VO.c (.assign rfl) (VO.c (.assign rfl) ?_); refine VO.go (VC.seq (VC.seq (VC.text ?_))); refine VO.c (.move rfl) (VO.c (.move rfl) (VO.c (.gtr) (VO.go ?_))); refine VC.join [(0, .raw w_ys), (1, I ((a : Nat) : Int)), (2, I ((m : Nat) : Int)), (3, I ((b : Nat) : Int)), (4, cmp), (18, I (((a + b) / 2 : Nat) : Int)), (19, I ((((a + b) / 2 : Nat) : Int) + ((m : Nat) : Int))), (20, I ((loE a m b : Nat) : Int)), (21, I ((hiE a m b : Nat) : Int))] [(w_ys, .row 104 y104 ys)] ?_ ?_; refine VC.condD rfl (fun c27 => ?_) (fun c27 => ?_)
  · refine VC.seq (VC.text ?_); refine VO.c (.move rfl) (VO.c (.move rfl) (VO.c (.sub rfl rfl (by omega)) (VO.c (.assign rfl) ?_))); refine VO.go (VC.text ?_); refine VO.c (.move rfl) (VO.c (.assign rfl) ?_); refine VO.nil ?_; exact ⟨⟨rfl, rfl, rfl, rfl, rfl, rfl, rfl, slI rfl (by unfold loE; first | (rw [if_pos (by omega)]; omega) | rw [if_neg (by omega)]), slI rfl (by unfold hiE; first | rw [if_pos (by omega)] | rw [if_neg (by omega)]), trivial⟩, rfl⟩
  · refine VC.seq (VC.text ?_); refine VO.c (.move rfl) (VO.c (.assign rfl) ?_); refine VO.go (VC.text ?_); refine VO.c (.move rfl) (VO.c (.assign rfl) ?_); refine VO.nil ?_; exact ⟨⟨rfl, rfl, rfl, rfl, rfl, rfl, rfl, slI rfl (by unfold loE; first | (rw [if_pos (by omega)]; omega) | rw [if_neg (by omega)]), slI rfl (by unfold hiE; first | rw [if_pos (by omega)] | rw [if_neg (by omega)]), trivial⟩, rfl⟩
  refine VC.seq (VC.text ?_); have hlh := lo_hi ha hm; refine VO.c (.move rfl) (VO.c (.sub rfl rfl (by omega)) (VO.c (.assign rfl) ?_)); refine VO.go (VC.seq (VC.block ?_)); refine VC.keep [(0, .raw w_ys), (1, I ((a : Nat) : Int)), (2, I ((m : Nat) : Int)), (3, I ((b : Nat) : Int)), (4, cmp), (18, I (((a + b) / 2 : Nat) : Int)), (19, I ((((a + b) / 2 : Nat) : Int) + ((m : Nat) : Int))), (20, I (((loE a m b) : Nat) : Int)), (21, I (((hiE a m b) : Nat) : Int)), (22, I (((((a + b) / 2 : Nat) : Int) + ((m : Nat) : Int)) - (1 : Int)))] ⟨rfl, rfl, rfl, rfl, rfl, rfl, rfl, rfl, rfl, rfl, trivial⟩ ?_; refine VC.loop (I := fun kk ff ss => ∃ (s : Nat) (r : Nat), kk = r - s ∧ ff = [(0, .raw w_ys), (1, I ((a : Nat) : Int)), (2, I ((m : Nat) : Int)), (3, I ((b : Nat) : Int)), (4, cmp), (18, I (((a + b) / 2 : Nat) : Int)), (19, I ((((a + b) / 2 : Nat) : Int) + ((m : Nat) : Int))), (20, I ((s : Nat) : Int)), (21, I ((r : Nat) : Int)), (22, I (((((a + b) / 2 : Nat) : Int) + ((m : Nat) : Int)) - (1 : Int)))] ∧ ss = [(w_ys, .row 104 y104 ys)] ∧ (loE a m b ≤ s ∧ s ≤ r ∧ r ≤ hiE a m b) ∧ (s = loE a m b ∨ ltP (ys.getD ((a + b) / 2 + m - s) zPl) (ys.getD (s - 1) zPl) = false) ∧ (r = hiE a m b ∨ ltP (ys.getD ((a + b) / 2 + m - 1 - r) zPl) (ys.getD r zPl) = true)) ?_ _ _ _ ⟨loE a m b, hiE a m b, rfl, rfl, rfl, (by omega), (by exact .inl rfl), (by exact .inl rfl)⟩; rintro kk ff ss ⟨s, r, hk8, rfl, rfl, hs, h1, h2⟩; refine VC.seq (VC.seq (VC.text ?_)); refine VO.c (.move rfl) (VO.c (.move rfl) (VO.c (.lss) (VO.go ?_))); refine VC.condD rfl (fun c33 => ?_) (fun c33 => ?_)
  · refine VC.skip (VC.block (VC.seq (VC.text ?_))); refine VO.c (.move rfl) (VO.c (.move rfl) (VO.c (.add rfl rfl (by omega)) (VO.c (.convI rfl .u64 (by exact wrapU64 ⟨by omega, by omega⟩)) ?_))); refine VO.c (.shrUU rfl rfl (by decide)) (VO.c (.convI rfl .i64 (by rw [half_nat]; exact wrap64 (by omega) (by omega))) ?_); rw [half_nat]; refine VO.c (.assign rfl) ?_; refine VO.go (VC.seq (VC.drawn ?_)); refine VD.c (.move rfl) (VD.c (.move rfl) (VD.c (.move rfl) (VD.c (.move rfl) ?_))); refine VD.c (.sub rfl rfl (by omega)) ?_; refine VD.co (.ixO (j := (a + b) / 2 + m - 1 - (s + r) / 2) rfl (congrArg (fun z : Int => some (PV.v (.int .i64) z)) (show ((((((a + b) / 2 : Nat) : Int) + ((m : Nat) : Int)) - (1 : Int)) - (((s + r) / 2 : Nat) : Int)) = (((a + b) / 2 + m - 1 - (s + r) / 2 : Nat) : Int) by omega)) m0 el101 (by omega)) ?_; refine VD.nw [] ?_; refine VD.r [(w_ys, .row 104 y104 ys)] (.ldOD zPl rfl m0 vt104 (by omega)) (.inr ⟨rfl, rfl⟩) ?_; refine VD.c (.move rfl) (VD.c (.move rfl) ?_); refine VD.co (.ixO (j := ((s + r) / 2)) rfl rfl m0 el101 (by omega)) ?_; refine VD.r [(w_ys, .row 104 y104 ys)] (.ldOD zPl rfl m0 vt104 (by omega)) (.inr ⟨rfl, rfl⟩) ?_; refine VD.call rfl rfl ((hf _ _) ) ?_; refine VD.c (.lss) (VD.nw [] (VD.c (.not) (VD.go ?_))); refine VC.condB rfl (fun c35 => ?_) (fun c35 => ?_)
    · try simp only [Bool.and_eq_true, Bool.or_eq_true, Bool.and_eq_false_iff, Bool.or_eq_false_iff, Bool.not_eq_true', Bool.not_eq_false', decide_eq_true_eq, decide_eq_false_iff_not] at c35
      have hq : ltP (ys.getD ((a + b) / 2 + m - 1 - (s + r) / 2) zPl) (ys.getD ((s + r) / 2) zPl) = false := by simpa [ltP] using c35
      refine VC.text ?_; refine VO.c (.move rfl) (VO.c (.add rfl rfl (by omega)) (VO.c (.assign rfl) ?_)); refine VO.nil ?_; refine ⟨_, [(0, .raw w_ys), (1, I ((a : Nat) : Int)), (2, I ((m : Nat) : Int)), (3, I ((b : Nat) : Int)), (4, cmp), (18, I (((a + b) / 2 : Nat) : Int)), (19, I ((((a + b) / 2 : Nat) : Int) + ((m : Nat) : Int))), (20, I (((if ltP (ys.getD ((a + b) / 2 + m - 1 - (s + r) / 2) zPl) (ys.getD ((s + r) / 2) zPl) then s else (s + r) / 2 + 1) : Nat) : Int)), (21, I (((if ltP (ys.getD ((a + b) / 2 + m - 1 - (s + r) / 2) zPl) (ys.getD ((s + r) / 2) zPl) then (s + r) / 2 else r) : Nat) : Int)), (22, I (((((a + b) / 2 : Nat) : Int) + ((m : Nat) : Int)) - (1 : Int)))], ?_, ⟨rfl, rfl, rfl, rfl, rfl, rfl, rfl, slI rfl (by first | rw [if_pos hq] | (rw [if_neg (by rw [hq]; exact Bool.false_ne_true)]; omega)), slI rfl (by first | rw [if_pos hq] | rw [if_neg (by rw [hq]; exact Bool.false_ne_true)]), rfl, trivial⟩, (if ltP (ys.getD ((a + b) / 2 + m - 1 - (s + r) / 2) zPl) (ys.getD ((s + r) / 2) zPl) then s else (s + r) / 2 + 1), (if ltP (ys.getD ((a + b) / 2 + m - 1 - (s + r) / 2) zPl) (ys.getD ((s + r) / 2) zPl) then (s + r) / 2 else r), rfl, rfl, rfl, (by first | (rw [if_pos hq, if_pos hq]; omega) | (rw [if_neg (by rw [hq]; exact Bool.false_ne_true), if_neg (by rw [hq]; exact Bool.false_ne_true)]; omega)), (by first | (rw [if_pos hq]; exact h1) | (rw [if_neg (by rw [hq]; exact Bool.false_ne_true), show (a + b) / 2 + m - ((s + r) / 2 + 1) = (a + b) / 2 + m - 1 - (s + r) / 2 by omega]; exact .inr hq)), (by first | (rw [if_pos hq]; exact .inr hq) | (rw [if_neg (by rw [hq]; exact Bool.false_ne_true)]; exact h2))⟩
      first | (rw [if_pos hq, if_pos hq]; omega) | (rw [if_neg (by rw [hq]; exact Bool.false_ne_true), if_neg (by rw [hq]; exact Bool.false_ne_true)]; omega)
    try simp only [Bool.and_eq_true, Bool.or_eq_true, Bool.and_eq_false_iff, Bool.or_eq_false_iff, Bool.not_eq_true', Bool.not_eq_false', decide_eq_true_eq, decide_eq_false_iff_not] at c35
    have hq : ltP (ys.getD ((a + b) / 2 + m - 1 - (s + r) / 2) zPl) (ys.getD ((s + r) / 2) zPl) = true := by simpa [ltP] using c35
    refine VC.text ?_; refine VO.c (.move rfl) (VO.c (.assign rfl) ?_); refine VO.nil ?_; refine ⟨_, [(0, .raw w_ys), (1, I ((a : Nat) : Int)), (2, I ((m : Nat) : Int)), (3, I ((b : Nat) : Int)), (4, cmp), (18, I (((a + b) / 2 : Nat) : Int)), (19, I ((((a + b) / 2 : Nat) : Int) + ((m : Nat) : Int))), (20, I (((if ltP (ys.getD ((a + b) / 2 + m - 1 - (s + r) / 2) zPl) (ys.getD ((s + r) / 2) zPl) then s else (s + r) / 2 + 1) : Nat) : Int)), (21, I (((if ltP (ys.getD ((a + b) / 2 + m - 1 - (s + r) / 2) zPl) (ys.getD ((s + r) / 2) zPl) then (s + r) / 2 else r) : Nat) : Int)), (22, I (((((a + b) / 2 : Nat) : Int) + ((m : Nat) : Int)) - (1 : Int)))], ?_, ⟨rfl, rfl, rfl, rfl, rfl, rfl, rfl, slI rfl (by first | rw [if_pos hq] | (rw [if_neg (by rw [hq]; exact Bool.false_ne_true)]; omega)), slI rfl (by first | rw [if_pos hq] | rw [if_neg (by rw [hq]; exact Bool.false_ne_true)]), rfl, trivial⟩, (if ltP (ys.getD ((a + b) / 2 + m - 1 - (s + r) / 2) zPl) (ys.getD ((s + r) / 2) zPl) then s else (s + r) / 2 + 1), (if ltP (ys.getD ((a + b) / 2 + m - 1 - (s + r) / 2) zPl) (ys.getD ((s + r) / 2) zPl) then (s + r) / 2 else r), rfl, rfl, rfl, (by first | (rw [if_pos hq, if_pos hq]; omega) | (rw [if_neg (by rw [hq]; exact Bool.false_ne_true), if_neg (by rw [hq]; exact Bool.false_ne_true)]; omega)), (by first | (rw [if_pos hq]; exact h1) | (rw [if_neg (by rw [hq]; exact Bool.false_ne_true), show (a + b) / 2 + m - ((s + r) / 2 + 1) = (a + b) / 2 + m - 1 - (s + r) / 2 by omega]; exact .inr hq)), (by first | (rw [if_pos hq]; exact .inr hq) | (rw [if_neg (by rw [hq]; exact Bool.false_ne_true)]; exact h2))⟩
    first | (rw [if_pos hq, if_pos hq]; omega) | (rw [if_neg (by rw [hq]; exact Bool.false_ne_true), if_neg (by rw [hq]; exact Bool.false_ne_true)]; omega)
  refine VC.exit (VC.seq (VC.text ?_))
  have esr : s = r := by omega
  have C : Cut ltP zPl ys a m b s ((a + b) / 2 + m - s) := ⟨by omega, fun q1 q2 => by rcases h1 with h1 | h1; omega; exact h1, fun q1 q2 => by rw [← esr] at h2; rcases h2 with h2 | h2; omega; rw [show (a + b) / 2 + m - s - 1 = (a + b) / 2 + m - 1 - s by omega]; exact h2⟩
  have hmid : (a + b) / 2 = s + ((a + b) / 2 + m - s - m) := by omega
  have hfour := C.four hA hB hb; rw [← hmid] at hfour; have hkeep := sym_keep ltP_weak C hA hB hb hmid; have hRl : (rotE ys s m ((a + b) / 2 + m - s)).length = ys.length := rotE_len (by omega) (by omega) (by omega); have hSl : (srtSeg ltP (rotE ys s m ((a + b) / 2 + m - s)) a ((a + b) / 2)).length = ys.length := (srtSeg_seg ltP_weak (by omega) (by omega)).len.trans hRl; refine VO.c (.move rfl) (VO.c (.move rfl) (VO.c (.sub rfl rfl (by omega)) ?_)); rw [show ((((a + b) / 2 : Nat) : Int) + ((m : Nat) : Int)) - ((s : Nat) : Int) = (((a + b) / 2 + m - s : Nat) : Int) by omega]; refine VO.c (.assign rfl) ?_; refine VO.go (VC.seq (VC.seq (VC.text ?_))); refine VO.c (.move rfl) (VO.c (.move rfl) (VO.c (.lss) (VO.c (.move rfl) ?_))); refine VO.cg (r := decide (((s : Nat) : Int) < ((m : Nat) : Int))) (w := true) [] trivial (fun _ => (.move rfl)) ?_; refine VO.cg (r := decide (((s : Nat) : Int) < ((m : Nat) : Int))) (w := true) [] trivial (fun _ => (.move rfl)) ?_; refine VO.cg (r := decide (((s : Nat) : Int) < ((m : Nat) : Int))) (w := true) [(182, I ((m : Nat) : Int)), (183, I (((a + b) / 2 + m - s : Nat) : Int))] ⟨rfl, rfl, trivial⟩ (fun _ => (.lss)) ?_; refine VO.c (.and) (VO.go ?_); refine VC.join [(0, .raw w_ys), (1, I ((a : Nat) : Int)), (3, I ((b : Nat) : Int)), (4, cmp), (18, I (((a + b) / 2 : Nat) : Int)), (20, I ((s : Nat) : Int)), (24, I (((a + b) / 2 + m - s : Nat) : Int))] [(w_ys, .row 104 y104 (rotE ys s m ((a + b) / 2 + m - s)))] ?_ ?_; refine VC.condB rfl (fun c39 => ?_) (fun c39 => ?_)
  · try simp only [Bool.and_eq_true, Bool.or_eq_true, Bool.and_eq_false_iff, Bool.or_eq_false_iff, Bool.not_eq_true', Bool.not_eq_false', decide_eq_true_eq, decide_eq_false_iff_not] at c39
    refine VC.text ?_; refine VO.c (.move rfl) (VO.c (.move rfl) (VO.c (.move rfl) (VO.c (.move rfl) ?_))); refine VO.c (.move rfl) ?_; refine VO.callG [(w_ys, .row 104 y104 ys)] rfl rfl rfl (VFG.call (zRot_ok (by first | assumption | omega | simp) (by first | assumption | omega | simp) (by first | assumption | omega | simp) (by first | assumption | omega | simp) (by first | assumption | omega | simp))) ?_; rintro _ _ ⟨rfl, rfl⟩; show VO _ _ _ _ _ _ [(w_ys, .row 104 y104 (rotE ys s m ((a + b) / 2 + m - s)))] _; refine VO.nil ?_; exact ⟨⟨rfl, rfl, rfl, rfl, rfl, rfl, rfl, trivial⟩, (by first | rfl | rw [rotE_none (by omega) (by omega) (by omega) (by omega)])⟩
  · try simp only [Bool.and_eq_true, Bool.or_eq_true, Bool.and_eq_false_iff, Bool.or_eq_false_iff, Bool.not_eq_true', Bool.not_eq_false', decide_eq_true_eq, decide_eq_false_iff_not] at c39
    refine VC.skip ?_; exact ⟨⟨rfl, rfl, rfl, rfl, rfl, rfl, rfl, trivial⟩, (by first | rfl | rw [rotE_none (by omega) (by omega) (by omega) (by omega)])⟩
  refine VC.seq (VC.seq (VC.text ?_)); refine VO.c (.move rfl) (VO.c (.move rfl) (VO.c (.lss) (VO.c (.move rfl) ?_))); refine VO.cg (r := decide (((a : Nat) : Int) < ((s : Nat) : Int))) (w := true) [] trivial (fun _ => (.move rfl)) ?_; refine VO.cg (r := decide (((a : Nat) : Int) < ((s : Nat) : Int))) (w := true) [] trivial (fun _ => (.move rfl)) ?_; refine VO.cg (r := decide (((a : Nat) : Int) < ((s : Nat) : Int))) (w := true) [(196, I ((s : Nat) : Int)), (197, I (((a + b) / 2 : Nat) : Int))] ⟨rfl, rfl, trivial⟩ (fun _ => (.lss)) ?_; refine VO.c (.and) (VO.go ?_); refine VC.join [(0, .raw w_ys), (3, I ((b : Nat) : Int)), (4, cmp), (18, I (((a + b) / 2 : Nat) : Int)), (24, I (((a + b) / 2 + m - s : Nat) : Int))] [(w_ys, .row 104 y104 (srtSeg ltP (rotE ys s m ((a + b) / 2 + m - s)) a ((a + b) / 2)))] ?_ ?_; refine VC.condB rfl (fun c41 => ?_) (fun c41 => ?_)
  · try simp only [Bool.and_eq_true, Bool.or_eq_true, Bool.and_eq_false_iff, Bool.or_eq_false_iff, Bool.not_eq_true', Bool.not_eq_false', decide_eq_true_eq, decide_eq_false_iff_not] at c41
    refine VC.text ?_; refine VO.c (.move rfl) (VO.c (.move rfl) (VO.c (.move rfl) (VO.c (.move rfl) ?_))); refine VO.c (.move rfl) ?_; refine VO.callG [(w_ys, .row 104 y104 (rotE ys s m ((a + b) / 2 + m - s)))] rfl rfl rfl (VFG.call (IH (by omega) (by omega) (by omega) (by omega) (by omega) hfour.1 hfour.2.1)) ?_; rintro _ _ ⟨rfl, rfl⟩; show VO _ _ _ _ _ _ [(w_ys, .row 104 y104 (srtSeg ltP (rotE ys s m ((a + b) / 2 + m - s)) a ((a + b) / 2)))] _; refine VO.nil ?_; exact ⟨⟨rfl, rfl, rfl, rfl, rfl, trivial⟩, (by first | rfl | rw [sym_l ltP_weak C hA hB hb hmid (by omega)])⟩
  · try simp only [Bool.and_eq_true, Bool.or_eq_true, Bool.and_eq_false_iff, Bool.or_eq_false_iff, Bool.not_eq_true', Bool.not_eq_false', decide_eq_true_eq, decide_eq_false_iff_not] at c41
    refine VC.skip ?_; exact ⟨⟨rfl, rfl, rfl, rfl, rfl, trivial⟩, (by first | rfl | rw [sym_l ltP_weak C hA hB hb hmid (by omega)])⟩
  refine VC.seq (VC.text ?_); refine VO.c (.move rfl) (VO.c (.move rfl) (VO.c (.lss) (VO.c (.move rfl) ?_))); refine VO.cg (r := decide ((((a + b) / 2 : Nat) : Int) < (((a + b) / 2 + m - s : Nat) : Int))) (w := true) [] trivial (fun _ => (.move rfl)) ?_; refine VO.cg (r := decide ((((a + b) / 2 : Nat) : Int) < (((a + b) / 2 + m - s : Nat) : Int))) (w := true) [] trivial (fun _ => (.move rfl)) ?_; refine VO.cg (r := decide ((((a + b) / 2 : Nat) : Int) < (((a + b) / 2 + m - s : Nat) : Int))) (w := true) [(210, I (((a + b) / 2 + m - s : Nat) : Int)), (211, I ((b : Nat) : Int))] ⟨rfl, rfl, trivial⟩ (fun _ => (.lss)) ?_; refine VO.c (.and) (VO.go ?_); refine VC.condB rfl (fun c43 => ?_) (fun c43 => ?_)
  · try simp only [Bool.and_eq_true, Bool.or_eq_true, Bool.and_eq_false_iff, Bool.or_eq_false_iff, Bool.not_eq_true', Bool.not_eq_false', decide_eq_true_eq, decide_eq_false_iff_not] at c43
    refine VC.text ?_; refine VO.c (.move rfl) (VO.c (.move rfl) (VO.c (.move rfl) (VO.c (.move rfl) ?_))); refine VO.c (.move rfl) ?_; refine VO.callG [(w_ys, .row 104 y104 (srtSeg ltP (rotE ys s m ((a + b) / 2 + m - s)) a ((a + b) / 2)))] rfl rfl rfl (VFG.call (IH (by omega) (by omega) (by omega) (by omega) (by omega) hkeep.1 hkeep.2)) ?_; rintro _ _ ⟨rfl, rfl⟩; show VO _ _ _ _ _ _ [(w_ys, .row 104 y104 (srtSeg ltP (srtSeg ltP (rotE ys s m ((a + b) / 2 + m - s)) a ((a + b) / 2)) ((a + b) / 2) b))] _; refine VO.nil ?_; exact ⟨rfl, rfl, (by first | rw [sym_gen ltP_weak C hA hB hb hmid] | rw [sym_r ltP_weak C hA hB hb hmid (by omega)])⟩
  try simp only [Bool.and_eq_true, Bool.or_eq_true, Bool.and_eq_false_iff, Bool.or_eq_false_iff, Bool.not_eq_true', Bool.not_eq_false', decide_eq_true_eq, decide_eq_false_iff_not] at c43
  refine VC.skip ?_; exact ⟨rfl, rfl, (by first | rw [sym_gen ltP_weak C hA hB hb hmid] | rw [sym_r ltP_weak C hA hB hb hmid (by omega)])⟩
theorem zSymF_ok : ∀ (n : Nat) {w_ys : Value} {ys : List (Pc × Int)} {a m b : Nat} {cmp : PV}, b - a ≤ n → ys.length < 1000000 → a < m → m < b → b ≤ ys.length → SrtI ltP zPl ys a m → SrtI ltP zPl ys m b → (∀ x y, VCall Tryz.prog OA cmp [.v y104 x, .v y104 y] (I (cmpP x y))) → VFG Tryz.prog OA 129 [.raw w_ys, I ((a : Nat) : Int), I ((m : Nat) : Int), I ((b : Nat) : Int), cmp] [(w_ys, .row 104 y104 ys)] (fun r g => r = .tup [] ∧ g = [(w_ys, .row 104 y104 (srtSeg ltP ys a b))])
  | 0, _, _, _, _, _, _, hn, _, ha, hm, _, _, _, _ => by omega
  | n + 1, _, _, _, _, _, _, hn, hl, ha, hm, hb, hA, hB, hf => zSym_ok hl ha hm hb hA hB hf (fun h1 h2 h3 h4 h5 h6 h7 => zSymF_ok n (by omega) h2 h3 h4 h5 h6 h7 hf)
theorem blkF_srt {ys : List (Pc × Int)} {z n q c a b : Nat} (h : ∀ p r, q ≤ p → p < r → r < n → p / z = r / z → ltP (ys.getD r zPl) (ys.getD p zPl) = false) (hz : 0 < z) (ha : a = c * z) (hqa : q ≤ a) (hb : b ≤ a + z) (hn : b ≤ n) : SrtI ltP zPl ys a b := fun p r p1 p2 p3 => h p r (by omega) p2 (by omega) (by
  subst ha
  rw [Nat.div_eq_of_lt_le (k := c) (by omega) (by rw [Nat.add_mul]; omega), Nat.div_eq_of_lt_le (k := c) (by omega) (by rw [Nat.add_mul]; omega)])
theorem zStab_ok {w_ys : Value} {ys : List ((Int × ByteArray × Int × Int × (List Nat)) × Int)} {n : Nat} {cmp : PV} (hn : n = ys.length) (hl : ys.length < 100000) (hf : ∀ x y, VCall Tryz.prog OA cmp [.v y104 x, .v y104 y] (I (cmpP x y))) : VFG Tryz.prog OA 90 [.raw w_ys, I ((n : Nat) : Int), cmp] [(w_ys, .row 104 y104 ys)] (fun r g => r = .tup [] ∧ g = [(w_ys, .row 104 y104 (sortS ltP ys))]) := by
  refine VFG.enterW Tryz.func90 rfl (fun _ _ => rfl) rfl ?_; show VC _ _ _ _ _ [(0, .raw w_ys), (1, I ((n : Nat) : Int)), (2, cmp)] [(w_ys, .row 104 y104 ys)] _; refine VC.seq (VC.text ?_); refine VO.c (.assign rfl) ?_; refine VO.go (VC.seq (VC.text ?_)); refine VO.c (.move rfl) (VO.c (.assign rfl) (VO.c (.assign rfl) ?_)); refine VO.go (VC.seq (VC.block ?_)); refine VC.keep [(0, .raw w_ys), (1, I ((n : Nat) : Int)), (2, cmp), (6, I (20 : Int)), (7, I ((20 * 0 : Nat) : Int)), (8, I ((20 * 0 + 20 : Nat) : Int))] ⟨rfl, rfl, rfl, rfl, rfl, rfl, trivial⟩ ?_; refine VC.loop (I := fun kk ff ss => ∃ (c : Nat) (zs : List (Pc × Int)), kk = n - 20 * c ∧ ff = [(0, .raw w_ys), (1, I ((n : Nat) : Int)), (2, cmp), (6, I (20 : Int)), (7, I ((20 * c : Nat) : Int)), (8, I ((20 * c + 20 : Nat) : Int))] ∧ ss = [(w_ys, .row 104 y104 zs)] ∧ (20 * c ≤ n) ∧ (Seg ltP ys zs 0 n) ∧ (Blk ltP zPl zs 20 (20 * c))) ?_ _ _ _ ⟨0, ys, rfl, rfl, (by rfl), (by omega), (by exact Seg.refl _ _ _), (by intro p q h1 h2; omega)⟩; rintro kk ff ss ⟨c, zs, hk0, rfl, rfl, hc, hs, hB⟩; have hzl := hs.len; refine VC.seq (VC.seq (VC.text ?_)); refine VO.c (.move rfl) (VO.c (.move rfl) (VO.c (.leq) (VO.go ?_))); refine VC.condD rfl (fun c2 => ?_) (fun c2 => ?_)
  · refine VC.skip (VC.block (VC.seq (VC.text ?_))); refine VO.c (.move rfl) (VO.c (.move rfl) (VO.c (.move rfl) (VO.c (.move rfl) ?_))); refine VO.callG [(w_ys, .row 104 y104 zs)] rfl rfl rfl (VFG.call (zInsC_ok (by omega) (by omega) (by omega) hf)) ?_; rintro _ _ ⟨rfl, rfl⟩; show VO _ _ _ _ _ _ [(w_ys, .row 104 y104 (srtSeg ltP zs (20 * c) (20 * c + 20)))] _; refine VO.go (VC.seq (VC.text ?_)); refine VO.c (.move rfl) (VO.c (.assign rfl) ?_); refine VO.go (VC.text ?_); refine VO.c (.move rfl) (VO.c (.move rfl) (VO.c (.add rfl rfl (by omega)) (VO.c (.assign rfl) ?_))); refine VO.nil ?_; refine ⟨_, [(0, .raw w_ys), (1, I ((n : Nat) : Int)), (2, cmp), (6, I (20 : Int)), (7, I ((20 * (c + 1) : Nat) : Int)), (8, I ((20 * (c + 1) + 20 : Nat) : Int))], ?_, ⟨rfl, rfl, rfl, rfl, slI rfl (by omega), slI rfl (by omega), trivial⟩, (c + 1), (srtSeg ltP zs (20 * c) (20 * c + 20)), rfl, rfl, (by rfl), (by omega), (by exact hs.trans ((srtSeg_seg ltP_weak (by omega) (by omega)).wider (Nat.zero_le _) (by omega))), (by exact blk_next ltP_weak (c := c) hB (by omega) (by omega) (by omega) (by omega) (by omega))⟩; omega
  refine VC.exit (VC.seq (VC.text ?_)); refine VO.c (.move rfl) (VO.c (.move rfl) (VO.c (.move rfl) (VO.c (.move rfl) ?_))); refine VO.callG [(w_ys, .row 104 y104 zs)] rfl rfl rfl (VFG.call (zInsC_ok (by omega) (by omega) (by omega) hf)) ?_; rintro _ _ ⟨rfl, rfl⟩; show VO _ _ _ _ _ _ [(w_ys, .row 104 y104 (srtSeg ltP zs (20 * c) n))] _; refine VO.go (VC.block ?_); refine VC.keep [(0, .raw w_ys), (1, I ((n : Nat) : Int)), (2, cmp), (6, I ((20 : Nat) : Int))] ⟨rfl, rfl, rfl, rfl, trivial⟩ ?_; refine VC.loop (I := fun kk ff ss => ∃ (z : Nat) (ws : List (Pc × Int)), kk = n - z ∧ ff = [(0, .raw w_ys), (1, I ((n : Nat) : Int)), (2, cmp), (6, I ((z : Nat) : Int))] ∧ ss = [(w_ys, .row 104 y104 ws)] ∧ (0 < z) ∧ (Seg ltP ys ws 0 n) ∧ (Blk ltP zPl ws z n)) ?_ _ _ _ ⟨20, srtSeg ltP zs (20 * c) n, rfl, rfl, (by rfl), (by omega), (by exact hs.trans ((srtSeg_seg ltP_weak (by omega) (by omega)).wider (Nat.zero_le _) (by omega))), (by exact blk_next ltP_weak (c := c) hB (by omega) (by omega) (by omega) (by omega) (by omega))⟩; rintro kk ff ss ⟨z, ws, hk2, rfl, rfl, hz, hs2, hB2⟩; have hwl := hs2.len; refine VC.seq (VC.seq (VC.text ?_))
  skip
  refine VO.c (.move rfl) (VO.c (.move rfl) (VO.c (.lss) (VO.go ?_))); refine VC.condD rfl (fun c7 => ?_) (fun c7 => ?_)
  · refine VC.skip (VC.block (VC.seq (VC.text ?_))); refine VO.c (.move rfl) (VO.c (.mul rfl rfl (by omega)) ?_); rw [show (2 : Int) * ((z : Nat) : Int) = ((2 * z : Nat) : Int) by omega]; refine VO.c (.assign rfl) (VO.c (.assign rfl) ?_); refine VO.go (VC.seq (VC.block ?_)); refine VC.keep [(0, .raw w_ys), (1, I ((n : Nat) : Int)), (2, cmp), (6, I ((z : Nat) : Int)), (7, I ((0 : Nat) : Int)), (8, I ((0 + 2 * z : Nat) : Int))] ⟨rfl, rfl, rfl, rfl, rfl, slI rfl (by omega), trivial⟩ ?_; refine VC.loop (I := fun kk ff ss => ∃ (q : Nat) (xs : List (Pc × Int)), kk = n - q ∧ ff = [(0, .raw w_ys), (1, I ((n : Nat) : Int)), (2, cmp), (6, I ((z : Nat) : Int)), (7, I ((q : Nat) : Int)), (8, I ((q + 2 * z : Nat) : Int))] ∧ ss = [(w_ys, .row 104 y104 xs)] ∧ (q ≤ n) ∧ (∃ c, q = c * (2 * z)) ∧ (Seg ltP ys xs 0 n) ∧ (Blk ltP zPl xs (2 * z) q) ∧ (∀ p r, q ≤ p → p < r → r < n → p / z = r / z → ltP (xs.getD r zPl) (xs.getD p zPl) = false)) ?_ _ _ _ ⟨0, ws, rfl, rfl, (by rfl), Nat.zero_le _, (by exact ⟨0, by simp⟩), (by exact hs2), (by intro p q h1 h2; omega), (by exact fun p r _ h1 h2 h3 => hB2 p r h1 h2 h3)⟩; rintro kk ff ss ⟨q, xs, hk4, rfl, rfl, hqn, hq, hs3, hB3, hB4⟩; have hxl := hs3.len; refine VC.seq (VC.seq (VC.text ?_)); refine VO.c (.move rfl) (VO.c (.move rfl) (VO.c (.leq) (VO.go ?_))); refine VC.condD rfl (fun c9 => ?_) (fun c9 => ?_)
    · have hpA : SrtI ltP zPl xs q (q + z) := by obtain ⟨c', hc'⟩ := hq; exact blkF_srt (c := 2 * c') hB4 hz (by rw [hc', Nat.mul_comm 2 c', Nat.mul_assoc]) (Nat.le_refl _) (by omega) (by omega)
      have hpB : SrtI ltP zPl xs (q + z) (q + 2 * z) := by obtain ⟨c', hc'⟩ := hq; exact blkF_srt (c := 2 * c' + 1) hB4 hz (by rw [hc', Nat.add_mul, Nat.mul_comm 2 c', Nat.mul_assoc, Nat.one_mul]) (by omega) (by omega) (by omega)
      refine VC.skip (VC.block (VC.seq (VC.text ?_))); refine VO.c (.move rfl) (VO.c (.move rfl) (VO.c (.move rfl) (VO.c (.move rfl) ?_))); refine VO.c (.add rfl rfl (by omega)) (VO.c (.move rfl) (VO.c (.move rfl) ?_)); refine VO.callG [(w_ys, .row 104 y104 xs)] rfl rfl rfl (VFG.call (zSymF_ok _ (Nat.le_refl _) (by omega) (by omega) (by omega) (by omega) hpA hpB hf)) ?_; rintro _ _ ⟨rfl, rfl⟩; show VO _ _ _ _ _ _ [(w_ys, .row 104 y104 (srtSeg ltP xs q (q + 2 * z)))] _; refine VO.go (VC.seq (VC.text ?_)); refine VO.c (.move rfl) (VO.c (.assign rfl) ?_); refine VO.go (VC.text ?_); refine VO.c (.move rfl) (VO.c (.move rfl) (VO.c (.mul rfl rfl (by omega)) ?_)); rw [show (2 : Int) * ((z : Nat) : Int) = ((2 * z : Nat) : Int) by omega]; refine VO.c (.add rfl rfl (by omega)) (VO.c (.assign rfl) ?_); refine VO.nil ?_; refine ⟨_, [(0, .raw w_ys), (1, I ((n : Nat) : Int)), (2, cmp), (6, I ((z : Nat) : Int)), (7, I (((q + 2 * z) : Nat) : Int)), (8, I (((q + 2 * z) + 2 * z : Nat) : Int))], ?_, ⟨rfl, rfl, rfl, rfl, slI rfl (by omega), slI rfl (by omega), trivial⟩, (q + 2 * z), (srtSeg ltP xs q (q + 2 * z)), rfl, rfl, (by rfl), (by omega), (by obtain ⟨c', hc'⟩ := hq; exact ⟨c' + 1, by rw [Nat.add_mul, Nat.one_mul, ← hc']⟩), (by exact hs3.trans ((srtSeg_seg ltP_weak (by omega) (by omega)).wider (Nat.zero_le _) (by omega))), (by obtain ⟨c', hc'⟩ := hq; exact blk_next ltP_weak (c := c') hB3 (by omega) hc' (by omega) (by omega) (by omega)), (by exact blk_above ltP_weak hB4 (by omega) (by omega))⟩; omega
    refine VC.exit (VC.seq (VC.seq (VC.text ?_))); refine VO.c (.move rfl) (VO.c (.move rfl) (VO.c (.add rfl rfl (by omega)) (VO.c (.assign rfl) ?_))); refine VO.go (VC.seq (VC.text ?_)); refine VO.c (.move rfl) (VO.c (.move rfl) (VO.c (.lss) (VO.go ?_))); refine VC.condD rfl (fun c14 => ?_) (fun c14 => ?_)
    · have hpA : SrtI ltP zPl xs q (q + z) := by obtain ⟨c', hc'⟩ := hq; exact blkF_srt (c := 2 * c') hB4 hz (by rw [hc', Nat.mul_comm 2 c', Nat.mul_assoc]) (Nat.le_refl _) (by omega) (by omega)
      have hpB : SrtI ltP zPl xs (q + z) n := by obtain ⟨c', hc'⟩ := hq; exact blkF_srt (c := 2 * c' + 1) hB4 hz (by rw [hc', Nat.add_mul, Nat.mul_comm 2 c', Nat.mul_assoc, Nat.one_mul]) (by omega) (by omega) (Nat.le_refl _)
      refine VC.text ?_; refine VO.c (.move rfl) (VO.c (.move rfl) (VO.c (.move rfl) (VO.c (.move rfl) ?_))); refine VO.c (.move rfl) ?_; refine VO.callG [(w_ys, .row 104 y104 xs)] rfl rfl rfl (VFG.call (zSymF_ok _ (Nat.le_refl _) (by omega) (by omega) (by omega) (by omega) hpA hpB hf)) ?_; rintro _ _ ⟨rfl, rfl⟩; show VO _ _ _ _ _ _ [(w_ys, .row 104 y104 (srtSeg ltP xs q n))] _; refine VO.go (VC.text ?_); refine VO.c (.move rfl) (VO.c (.mul rfl rfl (by omega)) (VO.c (.assign rfl) ?_)); refine VO.nil ?_; refine ⟨_, [(0, .raw w_ys), (1, I ((n : Nat) : Int)), (2, cmp), (6, I (((z * 2) : Nat) : Int))], ?_, ⟨rfl, rfl, rfl, slI rfl (by omega), trivial⟩, (z * 2), (srtSeg ltP xs q n), rfl, rfl, (by first | rfl | (obtain ⟨c', hc'⟩ := hq; rw [srtSeg_id ltP_weak (d := zPl) (by omega) (by omega) (blkF_srt (c := 2 * c') hB4 hz (by rw [hc', Nat.mul_comm 2 c', Nat.mul_assoc]) (Nat.le_refl _) (by omega) (Nat.le_refl _))])), (by omega), (by exact hs3.trans ((srtSeg_seg ltP_weak (by omega) (by omega)).wider (Nat.zero_le _) (by omega))), (by obtain ⟨c', hc'⟩ := hq; exact blk_next ltP_weak (c := c') (by rw [Nat.mul_comm z 2]; exact hB3) (by omega) (by rw [hc', Nat.mul_comm z 2]) (by omega) (by omega) (by omega))⟩; omega
    refine VC.skip (VC.text ?_); refine VO.c (.move rfl) (VO.c (.mul rfl rfl (by omega)) (VO.c (.assign rfl) ?_)); refine VO.nil ?_; refine ⟨_, [(0, .raw w_ys), (1, I ((n : Nat) : Int)), (2, cmp), (6, I (((z * 2) : Nat) : Int))], ?_, ⟨rfl, rfl, rfl, slI rfl (by omega), trivial⟩, (z * 2), (srtSeg ltP xs q n), rfl, rfl, (by first | rfl | (obtain ⟨c', hc'⟩ := hq; rw [srtSeg_id ltP_weak (d := zPl) (by omega) (by omega) (blkF_srt (c := 2 * c') hB4 hz (by rw [hc', Nat.mul_comm 2 c', Nat.mul_assoc]) (Nat.le_refl _) (by omega) (Nat.le_refl _))])), (by omega), (by exact hs3.trans ((srtSeg_seg ltP_weak (by omega) (by omega)).wider (Nat.zero_le _) (by omega))), (by obtain ⟨c', hc'⟩ := hq; exact blk_next ltP_weak (c := c') (by rw [Nat.mul_comm z 2]; exact hB3) (by omega) (by rw [hc', Nat.mul_comm z 2]) (by omega) (by omega) (by omega))⟩; omega
  refine VC.exit ?_; exact ⟨rfl, rfl, (by rw [← blk_all ltP_weak (d := zPl) (z := z) (by rw [hwl, ← hn]; exact hB2) (by omega) hs2.same hwl])⟩
theorem zSSF_ok {w_ys : Value} {ys : List ((Int × ByteArray × Int × Int × (List Nat)) × Int)} {cmp : PV} (hl : ys.length < 100000) (hf : ∀ x y, VCall Tryz.prog OA cmp [.v y104 x, .v y104 y] (I (cmpP x y))) : VFG Tryz.prog OA 37 [.raw w_ys, cmp] [(w_ys, .row 104 y104 ys)] (fun r g => r = .tup [] ∧ g = [(w_ys, .row 104 y104 (sortS ltP ys))]) := by
  refine VFG.enterW Tryz.func37 rfl (fun _ _ => rfl) rfl ?_; show VC _ _ _ _ _ [(0, .raw w_ys), (1, cmp)] [(w_ys, .row 104 y104 ys)] _; refine VC.text ?_; refine VO.c (.move rfl) (VO.c (.move rfl) ?_); refine VO.r (.lenO m0 el101) ?_; refine VO.c (.move rfl) ?_; refine VO.callG [(w_ys, .row 104 y104 ys)] rfl rfl rfl (VFG.call (zStab_ok rfl hl hf)) ?_; rintro _ _ ⟨rfl, rfl⟩; show VO _ _ _ _ _ _ [(w_ys, .row 104 y104 (sortS ltP ys))] _; refine VO.nil ?_; exact ⟨rfl, rfl, (by rfl)⟩
end Go.Proofs
