/- Parts of the proof: an evaluator of the model, what it is sound for, and contracts of functions. No condition. -/
import Derived.Test.YtleidlkgigpmmaaGreatDoorP7
import Derived.Test.YtleidlkgigpmmaaGreatDoorP5
import Derived.Test.YtleidlkgigpmmaaGreatDoorP6
import Derived.Test.YtleidlkgigpmmaaGreatDoorP3
import Derived.Test.YtleidlkgigpmmaaGreatDoorP2
set_option linter.all false
namespace Go.Proofs
open Go.Fs
set_option maxHeartbeats 2000000
theorem spans_of {l : List (Int × Int)} (h : Sp.Canon 100000 l) (hn : l.length ≤ 2048) : spansE l = 0 := by
  unfold spansE; rw [if_neg (by omega)]; unfold firstR; rw [firstE_zero]; intro x hx; obtain ⟨j, hj, rfl⟩ := List.mem_map.1 hx; rw [List.mem_range'_1] at hj
  have hjl : j < l.length := by omega
  unfold spanAt; rw [firstE_zero]; intro y hy; simp only [List.mem_cons, List.not_mem_nil, or_false] at hy; rcases hy with rfl | rfl
  · rw [spX_eq hjl]; exact spanE_zero.2 (h.1 _ (List.getElem_mem hjl))
  rw [whenE_zero (by decide)]; rcases Nat.eq_zero_or_pos j with h1 | h1
  · subst h1; rfl
  rw [decide_eq_true (show (0 : Int) < (j : Int) by omega), Bool.true_and, decide_eq_false_iff_not, spX_eq hjl, spX_eq (show j - 1 < l.length by omega)]; have := List.pairwise_iff_getElem.1 h.2 (j - 1) j (by omega) hjl (by omega); omega
end Go.Proofs
namespace Go.Proofs
open Go.Fs Ieee
set_option maxHeartbeats 400000
theorem getD_lv0 {r : Rec1} {i : Nat} (h : ∀ x ∈ r.2.2.1, lvlE x = 0) : lvlE (r.2.2.1.getD i 0) = 0 := by
  by_cases hi : i < r.2.2.1.length
  · rw [getDat hi]; exact h _ (List.getElem_mem hi)
  rw [List.getD_eq_getElem?_getD, List.getElem?_eq_none (by omega)]; decide +kernel
theorem rec_of {r : Rec1} (h1 : nameB r.1 = true) (h2 : 0 ≤ r.2.1 ∧ r.2.1 ≤ 100000) (h3 : r.2.2.1.length ≤ 4096) (h4 : ∀ x ∈ r.2.2.1, lvlE x = 0) (h5 : Sp.Canon (r.2.2.1.length : Nat) r.2.2.2) (h6 : r.2.2.2.length ≤ 2048) (h7 : fillB r = false) : recE r = 0 := by
  have a1 : headE r = 0 := firstE_zero.2 fun x hx => by
    simp only [List.mem_cons, List.not_mem_nil, or_false] at hx; rcases hx with rfl | rfl | rfl
    · rw [h1] <;> rfl
    · exact rangeE_zero.2 h2
    exact (whenE_zero (by decide)).2 (decide_eq_false (by omega))
  have a2 : bodyE r = 0 := bodyE_zero.2 ⟨firstE_zero.2 fun x hx => by
    obtain ⟨y, hy, rfl⟩ := List.mem_map.1 hx
    exact h4 y hy, spans_of ⟨fun s hs => by have := h5.1 s hs; omega, h5.2⟩ h6⟩
  have a3 : beyB r = false := List.any_eq_false.2 fun s hs => by
    have := h5.1 s hs; simp only [decide_eq_true_eq]; omega
  unfold recE; rw [if_neg (fun h => h a1), if_neg (fun h => h a2), a3, if_neg (by decide), h7] <;> rfl
abbrev keepR (r : Rec1) (l : List Bool) : Rec1 := (r.1, r.2.1, keptL r l plusZ l.length, gapsE l l.length)
theorem plus_lvl {r : Rec1} {l : List Bool} {n : Nat} (hv : ∀ x ∈ r.2.2.1, lvlE x = 0) : ∀ x ∈ keptL r l plusZ n, lvlE x = 0 := fun x hx => by
  obtain ⟨j, _, rfl⟩ := List.mem_map.1 hx; split
  · exact (plusZ_ok (getD_lv0 hv)).2.1
  decide +kernel
theorem nz0 : nzE 0 = false := by decide +kernel
theorem rec_keep {r : Rec1} {l : List Bool} (h : recE r = 0) (hl : l.length = r.2.2.1.length) (hn : l.length ≤ 2048) : recE (keepR r l) = 0 := by
  have hr := rec_ok h; have hc := rec_canon h
  have hk : (keptL r l plusZ l.length).length = l.length := by rw [keptL_len, hl]
  have hg := gaps_canon (l := l) l.length; have hgl := gapsE_len l l.length; refine rec_of hc.2.2 hr.1 (by show (keptL _ _ _ _).length ≤ _; omega) (plus_lvl hr.2.2.2.1) (by show Sp.Canon ((keptL _ _ _ _).length : Nat) _; rw [hk]; exact hg) (by show (gapsE _ _).length ≤ _; omega) ?_; refine fill_f (r := keepR r l) (fun i hi hh => ?_) fun s hs => ?_
  · have hi : i < (keptL r l plusZ l.length).length := hi; have h2 : Sp.inL (gapsE l l.length) (i : Int) = true := hh.2; have h3 := ((gaps_in l.length).1 h2).2.2; rw [Int.toNat_natCast] at h3; have h4 : nzE ((keptL r l plusZ l.length)[i]) = true := hh.1; rw [keptL_at (by omega), if_neg (fun hc => by rw [h3] at hc; exact absurd hc.2 (by decide)), nz0] at h4; cases h4
  have := hg.1 s hs; show 0 ≤ s.1 ∧ s.1 ≤ s.2 ∧ s.2 ≤ ((keptL r l plusZ l.length).length : Nat); omega
theorem there_keep {r : Rec1} {l : List Bool} (hl : l.length = r.2.2.1.length) : thereE (keepR r l) = l := by
  have hk : (keptL r l plusZ l.length).length = l.length := by rw [keptL_len, hl]
  refine List.ext_getElem (by rw [thereE_len]; exact hk) fun i h1 h2 => ?_; rw [thereE_at (show i < (keptL r l plusZ l.length).length by omega) h1, recB_in (show i < (keptL r l plusZ l.length).length by omega)]; show (!Sp.inL (gapsE l l.length) (i : Int)) = l[i]; have h3 := gaps_in (l := l) (t := (i : Int)) l.length; rw [Int.toNat_natCast, getDat h2] at h3
  cases hb : l[i] with
  | true =>
    rw [hb] at h3
    cases hi : Sp.inL (gapsE l l.length) (i : Int) with
    | false => rfl
    | true => exact absurd (h3.1 hi).2.2 (by decide)
  | false =>
    rw [hb] at h3; rw [h3.2 ⟨by omega, by omega, rfl⟩] <;> rfl
theorem zero_of {x : Nat} (hv : lvlE x = 0) (h : nzE x = false) : fcmpE .neq .f32 0 x = false := by
  have h1 := lvl_ok hv; unfold nzE at h; rw [(fcmp32 h1.1 u32_0).2.1, decide_eq_false_iff_not] at h; rw [(fcmp32 u32_0 h1.1).2.1]; exact decide_eq_false (by omega)
end Go.Proofs
namespace Ieee
end Ieee
namespace Go.Proofs
open Go.Fs Ieee
set_option maxHeartbeats 400000
def tld (r : Rec1) (i : Nat) : List Int := if recB r i = true then [sxE (r.2.2.1.getD i 0)] else []
theorem toldL_s {l : Rec3} {i k : Nat} : toldL l i (k + 1) = toldL l i k ++ tld (rk l k) i := by
  show (if recB (rk l k) i = true then _ else _) = _; unfold tld; split
  · rfl
  rw [List.append_nil]
theorem toldL_3 {l : Rec3} {i : Nat} : toldL l i 3 = tld l.1 i ++ (tld l.2.1 i ++ tld l.2.2 i) := by
  rw [toldL_s, toldL_s, toldL_s, List.append_assoc, List.append_assoc] <;> rfl
theorem vote_perm {l m : List Int} {tol : Int} (hp : l.Perm m) (hl : l.length ≤ 3) : votedE l tol = votedE m tol := by
  have hlen := hp.length_eq; have hs : sortN l = sortN m := sortN_eq ((sortN_perm l).trans hp) (sortN_sorted l); rw [vote_eq hl, vote_eq (by omega)]; unfold voteP; rw [hs, hlen]
abbrev rot (l : Rec3) : Rec3 := (l.2.2, l.1, l.2.1)
theorem vE_rot {l : Rec3} {tol : Int} {i : Nat} : vE (rot l) tol i = vE l tol i := by
  refine vote_perm ?_ (toldL_len 3); rw [toldL_3, toldL_3, ← List.append_assoc (tld l.1 i)]; exact List.perm_append_comm
theorem lvV_rot {l : Rec3} {tol : Int} (h : l.2.2.2.2.1.length = l.1.2.2.1.length) : lvV (rot l) tol l.2.2.2.2.1.length = lvV l tol l.1.2.2.1.length := by
  unfold lvV; show (List.range l.2.2.2.2.1.length).map _ = _; rw [h]; simp only [vE_rot]
theorem isV_rot {l : Rec3} {tol : Int} (h : l.2.2.2.2.1.length = l.1.2.2.1.length) : isV (rot l) tol l.2.2.2.2.1.length = isV l tol l.1.2.2.1.length := by
  unfold isV; show (List.range l.2.2.2.2.1.length).map _ = _; rw [h]; simp only [vE_rot]
theorem dv_congr {l m : Rec3} {tol : Int} {j k : Nat} (hv : ∀ i, vE m tol i = vE l tol i) (hr : rk m j = rk l k) : ∀ i : Nat, dvE m tol j i = dvE l tol k i
  | 0 => rfl
  | i + 1 => by
    have ih := dv_congr hv hr i
    have hb : dvB m tol j i = dvB l tol k i := by
      unfold dvB; rw [hv i, hr]
    show (if dvB m tol j i = true then _ else _) = (if dvB l tol k i = true then _ else _); rw [ih, hb]
abbrev voteK (l : Rec3) (tol : Int) : Rec1 := keepR (lvR l tol) (isV l tol l.1.2.2.1.length)
theorem lvR_ok {l : Rec3} {tol : Int} (h : recE l.1 = 0) (hv : ∀ k, k < 3 → ∀ x ∈ (rk l k).2.2.1, lvlE x = 0) : recE (lvR l tol) = 0 := by
  have hr := rec_ok h; have hc := rec_canon h; refine rec_of hc.2.2 hr.1 (by show (lvV _ _ _).length ≤ _; rw [lvV_len]; exact hr.2.1) (lvV_lvl hv) ⟨fun s hs => (by cases hs), List.Pairwise.nil⟩ (Nat.zero_le _) rfl
theorem voteK_rec {l : Rec3} {tol : Int} (h : recE l.1 = 0) (hv : ∀ k, k < 3 → ∀ x ∈ (rk l k).2.2.1, lvlE x = 0) (hn : l.1.2.2.1.length ≤ 2048) : recE (voteK l tol) = 0 :=
  rec_keep (lvR_ok h hv) (by rw [isV_len]; exact lvV_len.symm) (by rw [isV_len]; exact hn)
theorem same_refl {a : List Nat} (h : ∀ x ∈ a, lvlE x = 0) : sameLv a a = true := by
  refine decide_eq_true ⟨rfl, fun i hi => ?_⟩; rw [getDat hi]; have h1 := lvl_ok (h _ (List.getElem_mem hi)); rw [(fcmp32 h1.1 h1.1).2.1]; exact decide_eq_false (by simp)
theorem keptL_cong {r r' : Rec1} {l l' : List Bool} {f : Nat → Nat} (h : r.2.2.1 = r'.2.2.1) (hl : l = l') : keptL r l f l.length = keptL r' l' f l'.length := by
  subst hl; unfold keptL; rw [h]
theorem rot_same {l : Rec3} {tol : Int} (h : l.2.2.2.2.1.length = l.1.2.2.1.length) (hv : ∀ k, k < 3 → ∀ x ∈ (rk l k).2.2.1, lvlE x = 0) : sameLv (voteK l tol).2.2.1 (voteK (rot l) tol).2.2.1 = true ∧ (voteK l tol).2.2.2 = (voteK (rot l) tol).2.2.2 := by
  have e1 : (voteK (rot l) tol).2.2.1 = (voteK l tol).2.2.1 := keptL_cong (lvV_rot h) (isV_rot h); refine ⟨?_, ?_⟩
  · rw [e1]; exact same_refl (plus_lvl (lvV_lvl hv))
  show gapsE (isV l tol l.1.2.2.1.length) _ = gapsE (isV (rot l) tol l.2.2.2.2.1.length) _; rw [isV_rot h]
theorem vE_same {a : Rec1} {tol : Int} {i : Nat} : vE (a, a, a) tol i = if recB a i = true then (sxE (a.2.2.1.getD i 0), true) else (0, false) := by
  unfold vE; rw [toldL_3]; show votedE (tld a i ++ (tld a i ++ tld a i)) tol = _; unfold tld; split
  · show votedE [_, _, _] tol = _; rw [votedE_3 rfl]; simp <;> omega
  rfl
theorem isV_same {a : Rec1} {tol : Int} : isV (a, a, a) tol a.2.2.1.length = thereE a := by
  refine List.ext_getElem (by rw [isV_len, thereE_len]) fun i h1 h2 => ?_; rw [isV_len] at h1; have h1 : i < a.2.2.1.length := h1; rw [isV_at (l := (a, a, a)) h1, thereE_at h1 h2, vE_same, decide_eq_true h1, Bool.true_and]; split
  · rename_i h; exact h.symm
  rename_i h; simpa using h
theorem three_same {a : Rec1} {tol : Int} (h : recE a = 0) : sameRec (voteK (a, a, a) tol) a = true := by
  have hr := rec_ok h; have hc := rec_canon h
  have hs : sameLv (keptL (lvR (a, a, a) tol) (isV (a, a, a) tol a.2.2.1.length) plusZ (isV (a, a, a) tol a.2.2.1.length).length) a.2.2.1 = true := by
    rw [isV_same]; have hlen : (lvR (a, a, a) tol).2.2.1.length = a.2.2.1.length := lvV_len (l := (a, a, a)); refine decide_eq_true ⟨keptL_len.trans hlen, fun i hi => ?_⟩; rw [keptL_len, hlen] at hi; rw [getDat (by rw [keptL_len, hlen]; exact hi), getDat hi, keptL_at (by rw [hlen]; exact hi)]; have h1 := hr.2.2.2.1 _ (List.getElem_mem hi); have h2 := lvl_ok h1
    have hlt : i < (thereE a).length := by rw [thereE_len]; exact hi
    have h4 : (thereE a).getD i false = recB a i := by rw [getDat hlt, thereE_at hi hlt]
    by_cases hcc : i < (thereE a).length ∧ (thereE a).getD i false = true
    · rw [if_pos hcc, getDat (by rw [hlen]; exact hi)]
      have hb : recB a i = true := by rw [← h4]; exact hcc.2
      have hq := q16_ok (n := sxE a.2.2.1[i]) ⟨h2.2.1, h2.2.2⟩; have e0 := lvV_at (l := (a, a, a)) (tol := tol) (n := a.2.2.1.length) (i := i) hi; rw [vE_same, if_pos hb, if_pos ⟨hi, rfl⟩, getDat hi] at e0; have e : (lvR (a, a, a) tol).2.2.1[i]'(by rw [hlen]; exact hi) = q16 (sxE a.2.2.1[i]) := e0; rw [e]; have h5 := plusZ_ok hq.1; have h6 := lvl_ok hq.1; rw [hq.2.1, ← h2.1] at h6; rw [(fcmp32 (h5.2.2.trans (h6.1.trans h2.1)) h2.1).2.1]; exact decide_eq_false (by simp)
    rw [if_neg hcc]; refine zero_of h1 ?_
    have hin : Sp.inL a.2.2.2 (i : Int) = true := by
      cases hb : Sp.inL a.2.2.2 (i : Int) with
      | true => rfl
      | false =>
        rw [recB_in hi, hb] at h4; exact absurd ⟨hlt, h4⟩ hcc
    cases hz : nzE a.2.2.1[i] with
    | false => rfl
    | true => exact absurd (fill_t (fun s hs => ⟨(hr.2.2.2.2 s hs).1, by have := (hr.2.2.2.2 s hs).2.1; omega, (hr.2.2.2.2 s hs).2.2⟩) hi hz hin) (by rw [hc.2.1]; decide)
  unfold sameRec; show (decide (a.1 = a.1) && decide (a.2.1 = a.2.1) && sameLv (keptL (lvR (a, a, a) tol) (isV (a, a, a) tol a.2.2.1.length) plusZ (isV (a, a, a) tol a.2.2.1.length).length) a.2.2.1 && decide (gapsE (isV (a, a, a) tol a.2.2.1.length) (isV (a, a, a) tol a.2.2.1.length).length = a.2.2.2)) = true; rw [hs, decide_eq_true rfl, decide_eq_true rfl, isV_same, decide_eq_true (rec_gaps h)] <;> rfl
theorem dv_zero {l : Rec3} {tol : Int} {k : Nat} (h : ∀ i, dvB l tol k i = false) : ∀ i : Nat, dvE l tol k i = 0
  | 0 => rfl
  | i + 1 => by
    rw [dvE_f (h i)]; exact dv_zero h i
structure LhI (T : List Int) (S : Nat × Nat × Nat) : Prop where
  n : S.1 = T.length
  lo : lvlE S.2.1 = 0
  hi : lvlE S.2.2 = 0
  mem : T ≠ [] → (sxE S.2.1 ∈ T ∧ ∀ y ∈ T, sxE S.2.1 ≤ y) ∧ (sxE S.2.2 ∈ T ∧ ∀ y ∈ T, y ≤ sxE S.2.2)
end Go.Proofs
namespace Go.Fs
variable {P : Program} {h : Heap} {S : List Nat}
variable {fl : VL} {σ : Sto} {x y : Operand} {T T' : TypeId} {τ : Ty}
end Go.Fs
namespace Go.Proofs
open Go.Fs Ieee
set_option maxHeartbeats 400000
theorem gHighs_ok {r : ByteArray × Int × (List Nat) × (List (Int × Int))} {w : Int} (hl : r.2.2.1.length < 1000000) (hgl : r.2.2.2.length < 1000000) : VF Tryz.prog OA 13 [.v y30 r, I w] (.tup [.v y42 (wtrE r w 1065353216), I (wtrC r w)]) := by
  refine VF.enter Tryz.func13 rfl (fun _ _ => rfl) rfl ?_; show VC _ _ _ _ _ [(0, .v y30 r), (1, I w)] [] _; refine VC.seq (VC.text ?_); refine VO.new (.box) ?_; refine VO.c (.assign rfl) (VO.c (.assign rfl) ?_); refine VO.go (VC.seq (VC.text ?_)); refine VO.r (.ld vt30) ?_; refine VO.c (.move rfl) ?_; refine VO.call rfl rfl (VF.call (gWaters_ok hl hgl (.inl rfl))) ?_; refine VO.c (.extract) (VO.c (.extract) (VO.c (.assign rfl) (VO.c (.assign rfl) ?_))); refine VO.go ?_; refine VC.ret ?_; exact VEnd.two rfl evT evT (pvE (by rfl)) (pvI (by rfl))
end Go.Proofs
namespace Go.Fs
variable {P : Program} {fl : VL} {σ : Sto} {x : Operand} {T : TypeId}
end Go.Fs
namespace Go.Fs
variable {P : Program} {orc : FuncId → List Value → Heap → Option (Value × Heap)} {h h' : Heap} {S S' : List Nat} {σ : Sto}
end Go.Fs
namespace Go.Fs
variable {P : Program} {orc : FuncId → List Value → Heap → Option (Value × Heap)} {rnd : Option Nat} {h h' h0 h1 h2 hr : Heap} {S S' S0 B G A : List Nat} {σ σ' σr ρ : Sto} {t t' : Tr} {ms : List Nat} {fl : VL} {ops : Array Oper} {n i mem : Nat} {l : List Oper} {K : VL → Sto → Prop} {Q : Ex → VL → Sto → Prop}
  {d : Tmp} {ty : TypeId} {pos : String} {after : Array Edge} {op : Op} {v pv : PV} {g : Option (Nat × Bool)} {x y z : Operand} {T T' e : TypeId} {τ τ' : Ty} {bs nw rd chg : List Nat} {segs : List (Nat × Nat × Nat)} {w w' : Value} {lt : Option (Value × Nat)}
def SegL (hr h : Heap) (segs : List (Nat × Nat × Nat)) : Prop := ∀ s ∈ segs, hr.next ≤ s.2.1 ∧ s.2.2 ≤ h.next
def LitAt (segs : List (Nat × Nat × Nat)) : Option (Value × Nat) → Prop
  | none => True
  | some (w, j) => ∀ b ∈ blk w, ∀ s ∈ segs, s.1 ≠ j → ¬ (s.2.1 ≤ b ∧ b < s.2.2)
section
variable (P orc)
def VLs (ops : Array Oper) (n : Nat) (l : List Oper) (i : Nat) (fl : VL) (nw : List Nat) (σ ρ : Sto) (bs : List Nat) (mem : Nat) (lt : Option (Value × Nat)) (K : VL → Sto → Prop) : Prop :=
  ∀ (hr h0 : Heap) (G S0 A : List Nat) (t : Tr) (h : Heap) (ms rd chg : List Nat) (segs : List (Nat × Nat × Nat)), SegL hr h segs → LitAt segs lt → Iv h0 G S0 h σ t ms fl → Late hr h S0 A σ ρ t fl nw rd chg →
    EvL P orc hr ops n l i (⟨t, h, bs, segs, mem, false⟩, rd, chg) fun x => apartB x = true ∧ ∃ fl' σ', Iv h0 G S0 x.1.h σ' x.1.t ms fl' ∧ K fl' σ'
end
theorem VLs.of (hx : VLt P orc ops n l i fl nw σ ρ bs mem false K) : VLs P orc ops n l i fl nw σ ρ bs mem lt K := fun hr h0 G S0 A t h ms rd chg segs _ _ I L => hx hr h0 G S0 A t h ms rd chg segs false (fun _ => rfl) I L
theorem VC.lateS {id : Nat} {ops : Array Oper} (ρ : Sto) (hs : ∃ σ1, σ = σ1 ++ ρ) (hx : VLs P orc ops n ops.toList 0 fl [] σ ρ [] 0 none fun fl' σ' => Q .normal fl' σ') (hl : lateB ops = true := by kernel_rfl) : VC P orc rnd (.region id ops true) n fl σ Q := fun h0 G S0 t h ms I => by
  refine EvC.late hl ?_
  have hfix : ∀ b ∈ own ρ, b ∈ own σ := fun b hb => by
    obtain ⟨σ1, rfl⟩ := hs; rw [own_app]; exact List.mem_append_right _ hb
  obtain ⟨m, x, h1, ha, fl', σ', h2, h3⟩ := hx h h0 G S0 (own σ) t h ms [] [] [] (fun _ hm => by cases hm) trivial I
    { ok := I.ok, lt := I.lc.lt, next := Nat.le_refl _, goes := fun b o hg hb => ⟨hg, hb⟩, slots := fun k pv hk _ => I.slots k pv hk, suf := hs,
      cells := fun c hc => I.cells c (by obtain ⟨σ1, rfl⟩ := hs; exact List.mem_append_right _ hc), fix := hfix, new := fun b hb => .inl hb, rd := fun b hb => (by cases hb), chg := fun k hk => (by cases hk) }
  exact ⟨m, x, h1, ha, rfl, fl', σ', h2, h3⟩
theorem VLs.nws {nw0 : List Nat} (nw1 : List Nat) (hk : VLs P orc ops n l i fl nw1 σ ρ bs mem lt K) (he : nw0 = nw1 := by rfl) : VLs P orc ops n l i fl nw0 σ ρ bs mem lt K := he ▸ hk
theorem VLs.c {b : Nat} (hc : CalmV P fl [] op v) (hk : VLs P orc ops n l (i + 1) ((d, v) :: fl) (nwSet (oldOp nw op || v.flat0) d nw) σ ρ (bs ++ [b]) mem lt K)
    (hb : beforeOf bs ⟨some d, op, ty, pos, after, g⟩ = b := by rfl) (hw : wantV ops fl g = some true := by rfl) (hn : (Nat.blt d n && Nat.ble n 4000) = true := by rfl) :
    VLs P orc ops n (⟨some d, op, ty, pos, after, g⟩ :: l) i fl nw σ ρ bs mem lt K := fun hr h0 G S0 A t h ms rd chg segs hsg hlt I L => by
  obtain ⟨n1, n2⟩ := fits hn; obtain ⟨u, e1, e2⟩ := hc.2 h (own σ ++ S0) t I.slots.sees (fun _ hc => by cases hc); refine EvL.opr (x' := (⟨t.set depth d u, h, bs ++ [b], segs, mem, false⟩, rd, chg)) ?_ (hk hr h0 G S0 A _ h ms rd chg segs hsg hlt (I.set e1 n2) (L.set n2 fun hold => ?_))
  · unfold lateDraw; have hwt : fsWanted ops t ⟨some d, op, ty, pos, after, g⟩ = some true := want_ok I.slots hw; simp only [hwt, hc.1, if_true, e2, Nat.beq_refl, cond_true, put_fits n1, Option.map_some, hb]
  rcases Bool.or_eq_true_iff.1 hold with hold | hold
  · obtain ⟨u', f1, f2⟩ := hc.2 hr (A ++ S0) t (old_op L.slots hold) (fun _ hc => by cases hc)
    have : u' = u := by
      have g1 := e2 none 0 "" #[] none h; rw [f2 none 0 "" #[] none h] at g1; simpa using g1
    rw [← this]; exact f1
  exact (RepPV.flat0 hold e1).2 _ _
theorem VLs.q {b : Nat} {dx : τ.den} (hx : evV fl x = some (.p τ dx)) (hc : ReadV P fl [] (.load T x) v) (hk : VLs P orc ops n l (i + 1) ((d, v) :: fl) (nwSet true d nw) σ ρ (bs ++ [b]) mem lt K)
    (hb : beforeOf bs ⟨some d, .load T x, ty, pos, after, g⟩ = b := by rfl) (hold : oldX nw x = true := by rfl) (hw : wantV ops fl g = some true := by rfl) (hn : (Nat.blt d n && Nat.ble n 4000) = true := by rfl) :
    VLs P orc ops n (⟨some d, .load T x, ty, pos, after, g⟩ :: l) i fl nw σ ρ bs mem lt K := fun hr h0 G S0 A t h ms rd chg segs hsg hlt0 I L => by
  obtain ⟨n1, n2⟩ := fits hn; obtain ⟨b0, o0, e', rs, own', more, h1, h2, h3, h4⟩ := (old_sees L.slots hx hold : RepP hr (A ++ S0) τ (evalO t x) dx)
  obtain ⟨u, e1, e2⟩ := hc.2 hr (A ++ S0) t (fun z hz pv hp => by
    obtain rfl : z = x := by simpa [Op.operands] using hz
    exact old_sees L.slots hp hold) (fun _ hc => by cases hc)
  have hst := e2 hr (fun _ _ hg => hg) none 0 "" #[] none
  have hv : fsLoad P T (.pointer (some ⟨b0, o0, none⟩)) hr = some u := by
    have h5 : (fsLoad P T (evalO t x) hr).map (fun v => (v, hr)) = some (u, hr) := hst; obtain ⟨v', h6, h7⟩ := Option.map_eq_some_iff.1 h5; simp only [Prod.mk.injEq, and_true] at h7; rw [← h1, h6, h7]
  have hlt := L.ok b0 _ h3; refine EvL.opr (late_quiet h1 h3 hlt hv hb (want_ok I.slots hw) n1) (hk hr h0 G S0 A _ h ms _ chg segs hsg hlt0 (I.set (e1.nx L.goes) n2) ((L.set (old := true) n2 fun _ => e1).read ⟨hlt, .inr fun hm => h2 (List.mem_append_left _ hm)⟩))
theorem VLs.lit0 {c : Cell} {b : Nat} (hs : FreshO P fl op c) (hk : ∀ w, VLs P orc ops n l (i + 1) ((d, .raw w) :: fl) (nwSet false d nw) ((w, c) :: σ) ρ (bs ++ [b]) (mem ||| 2 ^ i) (some (w, i)) K)
    (hb : beforeOf bs ⟨some d, op, ty, pos, after, g⟩ = b := by rfl) (hqo : quietOp op = false := by rfl) (hw : wantV ops fl g = some true := by rfl) (hn : (Nat.blt d n && Nat.ble n 4000) = true := by rfl) :
    VLs P orc ops n (⟨some d, op, ty, pos, after, g⟩ :: l) i fl nw σ ρ bs mem lt K := fun hr h0 G S0 A t h ms rd chg segs hsg _ I L => by
  obtain ⟨n1, n2⟩ := fits hn; obtain ⟨mk, o, e0, e1, e2⟩ := hs.2 h _ t I.slots.sees I.ok I.lc.lt; have hm : Made S0 h (h.push o) σ ((mk h.next, c) :: σ) := Made.cons I.lc (Aft.push h o []) (fun b hb => by rw [e0] at hb; simp at hb; subst hb; exact Nat.le_refl _) (by rw [e0]; simp) fun hN => e1 _ hN (by rw [own_cons, e0]; simp); have hwt : fsWanted ops t ⟨some d, op, ty, pos, after, g⟩ = some true := want_ok I.slots hw
  have hf : lateDraw P hr (stepO P) ops n ⟨some d, op, ty, pos, after, g⟩ i (⟨t, h, bs, segs, mem, false⟩, rd, chg) = some (⟨t.set depth d (mk h.next), h.push o, bs ++ [b], (i, h.next, h.next + 1) :: segs, mem ||| 2 ^ i, false⟩, rd, chg) := by
    have hMs : ∀ b' o', look (bif Nat.beq (mem &&& b) mem then h.objs else mask b segs h.objs) b' = some o' → look h.objs b' = some o' := fun b' o' => by
      cases Nat.beq (mem &&& b) mem with
      | true => exact fun h => h
      | false => exact mask_sees segs h.objs
    unfold lateDraw; simp only [hwt, hs.1, Bool.false_eq_true, if_false, quiet_no hqo]; unfold lateMem; simp only [hb, Bool.false_and, cond_false]; rw [e2]; have hlt : Nat.blt (h.next + 1) h.next = false := blt_of_le (Nat.le_succ _); have e1 : ∀ L : List (Nat × AObj), (∀ b' o', look L b' = some o' → look h.objs b' = some o') → newer h.next (h.next + 1) ((h.next, o) :: L) = [(h.next, o)] := fun L hL => newer_push fun b' o' hg => I.ok b' o' (hL b' o' hg); simp only [Heap.push, hlt, cond_false, put_fits n1, ble_refl', cond_true]; rw [e1 _ hMs]; rfl
  have hσ : ∃ σ1, ((mk h.next, c) :: σ : Sto) = σ1 ++ ρ := by
    obtain ⟨σ1, hσ1⟩ := L.suf; exact ⟨(mk h.next, c) :: σ1, by rw [hσ1]; rfl⟩
  have hnx := L.next; refine EvL.opr hf (hk (mk h.next) hr h0 G S0 A _ _ ms rd _ _ (fun s hs => ?_) (fun k hk s hs hne hh => ?_) ((I.made hm).set (show RepPV _ _ (.raw (mk h.next)) (mk h.next) from rfl) n2) ((L.made I hm hσ).set (old := false) n2 fun e => by cases e))
  · rcases List.mem_cons.1 hs with rfl | hs
    · exact ⟨hnx, Nat.le_refl _⟩
    have := hsg s hs; exact ⟨this.1, Nat.le_succ_of_le this.2⟩
  rw [e0] at hk
  obtain rfl : k = h.next := by simpa using hk
  rcases List.mem_cons.1 hs with rfl | hs
  · exact hne rfl
  have := hsg s hs; omega
theorem VLs.app0 {b j : Nat} {dx dy : Tmp} {ys : List τ.den} (hT : ElT P T e τ) (hT' : ElT P T' e τ) (hx : evV fl (.tmp dx) = some (.raw w)) (hy : evV fl (.tmp dy) = some (.v (.sl τ) ys)) (hsz : ys.length ≤ 1000000) (hρ : ∃ σ1, σ = σ1 ++ ρ)
    (hk : ∀ w', VLs P orc ops n l (i + 1) ((d, .raw w') :: fl) (nwSet false d nw) ((w', .row e τ ys) :: σ) ρ (bs ++ [b]) (mem ||| 2 ^ i) none K)
    (hb : beforeOf bs ⟨some d, .call { callee := .builtin .append, args := #[.tmp dx, .tmp dy], argTypes := #[T, T'] }, ty, pos, after, g⟩ = b := by rfl) (hyo : oldX nw (.tmp dy) = true := by rfl) (hj : b.testBit j = true := by rfl) (hw : wantV ops fl g = some true := by rfl) (hn : (Nat.blt d n && Nat.ble n 4000) = true := by rfl) :
    VLs P orc ops n (⟨some d, .call { callee := .builtin .append, args := #[.tmp dx, .tmp dy], argTypes := #[T, T'] }, ty, pos, after, g⟩ :: l) i fl nw ((w, .cel e 0 []) :: σ) ρ bs mem (some (w, j)) K := fun hr h0 G S0 A t h ms rd chg segs hsg hlt I L => by
  obtain ⟨n1, n2⟩ := fits hn; have hnx := L.next
  let H : Heap := { next := h.next, low := h.next, objs := bif Nat.beq (mem &&& b) mem then h.objs else mask b segs h.objs }
  have hsee : ∀ k o, H.get k = some o → h.get k = some o := fun k o => by
    show look (bif Nat.beq (mem &&& b) mem then h.objs else mask b segs h.objs) k = some o → look h.objs k = some o
    cases Nat.beq (mem &&& b) mem with
    | true => exact fun h => h
    | false => exact mask_sees segs h.objs
  have hold : ∀ k, k < hr.next → H.get k = h.get k := fun k hk => by
    show look (bif Nat.beq (mem &&& b) mem then h.objs else mask b segs h.objs) k = look h.objs k
    cases Nat.beq (mem &&& b) mem with
    | true => rfl
    | false => exact mask_keep segs h.objs fun s hs _ hh => by have := hsg s hs; omega
  have hlit : ∀ k ∈ blk w, H.get k = h.get k := fun k hk => by
    show look (bif Nat.beq (mem &&& b) mem then h.objs else mask b segs h.objs) k = look h.objs k
    cases Nat.beq (mem &&& b) mem with
    | true => rfl
    | false => exact mask_keep segs h.objs fun s hs htb hh => hlt k hk s hs (fun e => by rw [e, hj] at htb; cases htb) hh
  have eown : ∀ (w1 : Value) (c : Cell), own [(w1, c)] ++ (own σ ++ S0) = own ((w1, c) :: σ) ++ S0 := fun w1 c => by simp [own, List.append_assoc]
  have hne : Nat.beq dx dy = false := by
    cases hd : Nat.beq dx dy with
    | false => rfl
    | true =>
      obtain rfl := nbeq hd; rw [hx] at hy; cases hy
  have cw : CellR h (own ((w, .cel e 0 []) :: σ) ++ S0) w (.cel e 0 []) := I.cells _ List.mem_cons_self
  have cwH : CellR H (own ((w, .cel e 0 []) :: σ) ++ S0) w (.cel e 0 []) := by
    rcases cw with z | ⟨b0, rs, m, z1, z2, z3, z4, z5, z6⟩
    · exact .inl z
    exact .inr ⟨b0, rs, m, z1, z2, by rw [hlit b0 (by rw [z1]; simp [blk])]; exact z3, z4, z5, z6⟩
  have hap := I.apart; rw [own_cons] at hap; have hap := List.nodup_append.1 hap
  have LH : Lc (own σ ++ S0) H [(w, .cel e 0 [])] t [(dx, .raw w), (dy, .v (.sl τ) ys)] := {
    ok := fun k o hg => I.ok k o (hsee k o hg)
    s0 := fun k hk => I.lc.lt k (by rw [own_cons, List.append_assoc]; exact List.mem_append_right _ hk)
    cells := fun c hc => by
      rw [List.mem_singleton.1 hc, eown]; exact cwH
    sep := fun k hk hm => by
      have hk : k ∈ blk w := by simpa [own] using hk
      rcases List.mem_append.1 hm with hm | hm
      · exact hap.2.2 k hk k hm rfl
      exact I.lc.sep k (by rw [own_cons]; exact List.mem_append_left _ hk) hm
    apart := by simpa [own] using hap.1
    slots := fun k pv hk => by
      simp only [lkV] at hk
      cases hdx : Nat.beq dx k with
      | true =>
        rw [hdx] at hk; simp only [cond_true, Option.some.injEq] at hk; obtain rfl := nbeq hdx; subst hk
        exact (I.slots _ _ hx : t.get dx = w)
      | false =>
        rw [hdx] at hk; simp only [cond_false] at hk
        cases hdy : Nat.beq dy k with
        | true =>
          rw [hdy] at hk; simp only [cond_true, Option.some.injEq] at hk; obtain rfl := nbeq hdy; subst hk; have h5 : RepPV hr (A ++ S0) (.v (.sl τ) ys) (t.get dy) := L.slots dy _ hy (by simpa [oldX] using hyo)
          exact h5.nx fun k o hg hb2 => ⟨by rw [hold k (L.ok k o hg)]; exact (L.goes k o hg hb2).1, by rw [eown]; exact (L.goes k o hg hb2).2⟩
        | false => rw [hdy] at hk; cases hk }
  obtain ⟨u, H', v2, σ2, ⟨w', e0, e1⟩, e2, e3, e4⟩ := (MakeV.app0 (P := P) (σ := []) (x := .tmp dx) (y := .tmp dy) hT hT' (by simp [evV, lkV]) (by simp [evV, lkV, hne]) hsz).2 (own σ ++ S0) H t LH; subst e0 e1; have hst : fsAppend P #[T, T'] (evalO t (.tmp dx)) (evalO t (.tmp dy)) H = some (u, H') := e4 (some d) ty pos after g; have hxw : evalO t (.tmp dx) = w := (I.slots _ _ hx : t.get dx = w)
  have hlow : h.next ≤ H'.low := by
    rw [hxw] at hst; rcases cwH with ⟨z1, _, _⟩ | ⟨b0, rs, m, z1, z2, z3, z4, z5, z6⟩
    · have z1 : w = .slice none 0 0 := z1; rw [z1] at hst; exact append_nil_low (h := H) hT hT' hst
    have z1 : w = .slice (some ⟨b0, 0, none⟩) 0 0 := z1; obtain rfl : rs = [] := z4; obtain rfl : m = false := z6 rfl; rw [z1] at hst; exact append_lit_low (h := H) hT hT' z3 hst
  have hnH : h.next ≤ H'.next := e2.aft.next; have hokH : HOk H' := e2.aft.ok LH.ok
  let h2 : Heap := { next := H'.next, low := h.low, objs := newer h.next H'.next H'.objs ++ h.objs }
  have g1 : ∀ k, k < h.next → h2.get k = h.get k := fun k hk => newer_keep hk
  have g0 : ∀ k, k < h.next → H'.get k = H.get k := fun k hk => by
    rcases e2.aft.chg k hk with h3 | h3
    · exact h3
    exact absurd hlow (by have : H'.low ≤ k := h3; omega)
  have g2 : ∀ k, h.next ≤ k → h2.get k = H'.get k := fun k hk => by
    show look (newer h.next H'.next H'.objs ++ h.objs) k = look H'.objs k; rw [look_append]
    have hno : look h.objs k = none := by
      cases hl2 : look h.objs k with
      | none => rfl
      | some o => exact absurd (I.ok k o hl2) (by omega)
    rw [hno, Option.or_none]
    cases hl2 : look H'.objs k with
    | some o =>
      have : k < H'.next := hokH k o hl2
      rw [newer_in _ _ hk this, hl2]
    | none =>
      cases hl3 : look (newer h.next H'.next H'.objs) k with
      | none => rfl
      | some o => rw [(newer_some _ _ _ hl3).2] at hl2; cases hl2
  have hf : lateDraw P hr (stepO P) ops n ⟨some d, .call { callee := .builtin .append, args := #[.tmp dx, .tmp dy], argTypes := #[T, T'] }, ty, pos, after, g⟩ i (⟨t, h, bs, segs, mem, false⟩, rd, chg) = some (⟨t.set depth d u, h2, bs ++ [b], (i, h.next, H'.next) :: segs, mem ||| 2 ^ i, false⟩, rd, chg) := by
    have hwt : fsWanted ops t ⟨some d, .call { callee := .builtin .append, args := #[.tmp dx, .tmp dy], argTypes := #[T, T'] }, ty, pos, after, g⟩ = some true := want_ok I.slots hw; unfold lateDraw; simp only [hwt, show calm (.call { callee := .builtin .append, args := #[.tmp dx, .tmp dy], argTypes := #[T, T'] }) = false from rfl, Bool.false_eq_true, if_false, quiet_no (show quietOp (.call { callee := .builtin .append, args := #[.tmp dx, .tmp dy], argTypes := #[T, T'] }) = false from rfl)]; unfold lateMem; simp only [hb, Bool.false_and, cond_false]; rw [show stepO P ⟨some d, .call { callee := .builtin .append, args := #[.tmp dx, .tmp dy], argTypes := #[T, T'] }, ty, pos, after, g⟩ (evalO t) { next := h.next, low := h.next, objs := bif Nat.beq (mem &&& b) mem then h.objs else mask b segs h.objs } = some (u, H') from e4 (some d) ty pos after g]; have q1 : Nat.blt H'.next h.next = false := blt_of_le hnH
    have q2 : Nat.ble h.next H'.low = true := by rw [Nat.ble_eq]; exact hlow
    simp only [q1, cond_false, put_fits n1, q2, cond_true]; rfl
  have hnew : ∀ k ∈ blk w', k ∈ blk w ∨ h.next ≤ k := fun k hk => by
    rcases e2.new k (by simpa [own] using hk) with h3 | h3
    · exact .inl (by simpa [own] using h3)
    exact .inr h3
  have hltσ : ∀ k ∈ own σ, k < h.next := fun k hk => I.lc.lt k (by rw [own_cons, List.append_assoc]; exact List.mem_append_right _ (List.mem_append_left _ hk)); have hltw : ∀ k ∈ blk w, k < h.next := fun k hk => I.lc.lt k (by rw [own_cons, List.append_assoc]; exact List.mem_append_left _ hk)
  have m2 : Made S0 h h2 ((w, .cel e 0 []) :: σ) ((w', .row e τ ys) :: σ) := {
    aft := ⟨hnH, fun k hk _ => g1 k hk, fun _ k o hg => by
      rcases Nat.lt_or_ge k h.next with hk | hk
      · exact Nat.lt_of_lt_of_le hk hnH
      rw [g2 k hk] at hg; exact hokH k o hg, fun _ h3 _ _ => h3, fun k hk => .inl (g1 k hk), Nat.le_refl _⟩
    new := fun k hk => by
      rw [own_cons] at hk; rcases List.mem_append.1 hk with hk | hk
      · rcases hnew k hk with h3 | h3
        · exact .inl (by rw [own_cons]; exact List.mem_append_left _ h3)
        exact .inr h3
      exact .inl (by rw [own_cons]; exact List.mem_append_right _ hk)
    apart := by
      rw [own_cons]; refine List.nodup_append.2 ⟨by simpa [own] using e2.apart, hap.2.1, fun k hk k2 hk2 hkk => ?_⟩; subst hkk; rcases hnew k hk with h3 | h3
      · exact hap.2.2 k h3 k hk2 rfl
      have := hltσ k hk2; omega
    cells := fun c hc => by
      rcases List.mem_cons.1 hc with rfl | hc
      · have h3 : CellR H' (own ((w', .row e τ ys) :: σ) ++ S0) w' (.row e τ ys) := by
          have := e2.cells _ List.mem_cons_self; rw [eown] at this; exact this
        refine h3.keep (fun k hk => ?_) (fun k o hg hb2 => ⟨?_, hb2⟩) fun k hk => by rw [own_cons, List.append_assoc]; exact List.mem_append_left _ hk
        · rcases Nat.lt_or_ge k h.next with h4 | h4
          · rcases hnew k hk with h5 | h5
            · rw [g1 k h4, g0 k h4, hlit k h5]
            omega
          exact g2 k h4
        rcases Nat.lt_or_ge k h.next with h4 | h4
        · rw [g1 k h4]; exact hsee k o (by rw [← g0 k h4]; exact hg)
        rw [g2 k h4]; exact hg
      have h3 := I.cells c (List.mem_cons_of_mem _ hc); have hin : ∀ k ∈ blk c.1, k ∈ own σ := fun k hk => List.mem_flatMap.2 ⟨c, hc, hk⟩; refine h3.keep (fun k hk => g1 k (hltσ k (hin k hk))) (fun k o hg hb2 => ⟨by rw [g1 k (I.ok k o hg)]; exact hg, fun hm => ?_⟩) fun k hk => List.mem_append_left _ (by rw [own_cons]; exact List.mem_append_right _ (hin k hk)); rw [own_cons, List.append_assoc] at hm; rcases List.mem_append.1 hm with hm | hm
      · rcases hnew k hm with h5 | h5
        · exact hb2 (by rw [own_cons, List.append_assoc]; exact List.mem_append_left _ h5)
        have := I.ok k o hg; omega
      exact hb2 (by rw [own_cons, List.append_assoc]; exact List.mem_append_right _ hm) }
  have hσ : ∃ σ1, ((w', .row e τ ys) :: σ : Sto) = σ1 ++ ρ := by
    obtain ⟨σ1, rfl⟩ := hρ; exact ⟨_ :: σ1, rfl⟩
  refine EvL.opr hf (hk w' hr h0 G S0 A _ _ ms rd chg _ (fun s hs => ?_) trivial ((I.made m2).set (show RepPV _ _ (.raw w') u from (e3 : u = w')) n2) ((L.made I m2 hσ).set (old := false) n2 fun e => by cases e)); rcases List.mem_cons.1 hs with rfl | hs
  · exact ⟨hnx, Nat.le_refl _⟩
  have := hsg s hs; exact ⟨this.1, Nat.le_trans this.2 hnH⟩
end Go.Fs
namespace Go.Fs
variable {P : Program} {orc : FuncId → List Value → Heap → Option (Value × Heap)} {rnd : Option Nat} {h h' h0 h1 h2 : Heap} {S S' S0 G : List Nat} {σ σ' σr γ γ' : Sto} {t t' : Tr} {ms : List Nat} {fl nw : VL} {ops : Array Oper} {n i mem : Nat} {l : List Oper} {K : VL → Sto → Prop} {Q : Ex → VL → Sto → Prop}
  {d : Tmp} {ty : TypeId} {pos : String} {after : Array Edge} {op : Op} {v pv : PV} {g : Option (Nat × Bool)} {bs nw0 : List Nat} {tail so : Bool} {x y z : Operand} {T T' e : TypeId} {τ τ' : Ty} {w w' : Value}
end Go.Fs
namespace Go.Proofs
open Go.Fs Ieee
set_option maxHeartbeats 2000000
abbrev y26 : Ty := (.pair (.int .u8) (.int .u8))
theorem vt5 : ValT Tryz.prog 5 (.int .u8) := valT_of (by kernel_rfl)
theorem vt25 : ValT Tryz.prog 25 y25 := valT_of (by kernel_rfl)
theorem zt25 : ZerT Tryz.prog 25 y25 := zerT_of (z := .agg #[.string ByteArray.empty, .int .i64 0, .slice none 0 0, .slice none 0 0]) (by kernel_rfl) rfl rfl
theorem zt36 : ZerT Tryz.prog 36 y36 := zerT_of (z := .agg #[.string ByteArray.empty, .int .i64 0, .slice none 0 0, .slice none 0 0, .string ByteArray.empty, .int .i64 0, .slice none 0 0, .slice none 0 0, .string ByteArray.empty, .int .i64 0, .slice none 0 0, .slice none 0 0]) (by kernel_rfl) rfl rfl
theorem bt36 : BldT Tryz.prog 36 y36 [(0, 4), (4, 4), (8, 4)] := bldT_of zt36 rfl (by kernel_rfl)
theorem vote_zero {l : Rec3} {tol : Int} (h : ∀ k, k < 3 → recE (rk l k) = 0) (ht : 0 ≤ tol ∧ tol ≤ 2048) (hs : sameSh l) : voteC l tol = 0 := by
  refine voteC_0 (fun hh => hh (firstE_zero.2 fun x hx => ?_)) hs; simp only [List.mem_cons, List.not_mem_nil, or_false] at hx; rcases hx with rfl | rfl
  · refine firstE_zero.2 fun y hy => ?_; simp only [List.map_cons, List.map_nil, List.mem_cons, List.not_mem_nil, or_false] at hy; rcases hy with rfl | rfl | rfl
    · exact h 0 (by decide)
    · exact h 1 (by decide)
    exact h 2 (by decide)
  exact rangeE_zero.2 ht
theorem vote_at {l : Rec3} {tol : Int} {i : Nat} (hv : ∀ k, k < 3 → ∀ x ∈ (rk l k).2.2.1, lvlE x = 0) (hi : i < l.1.2.2.1.length) (h2 : i < (voteK l tol).2.2.1.length) (hb : (vE l tol i).2 = true) : sxE ((voteK l tol).2.2.1[i]) = (vE l tol i).1 := by
  have h3 : i < (lvV l tol l.1.2.2.1.length).length := by rw [lvV_len]; exact hi
  show sxE ((keptL (lvR l tol) (isV l tol l.1.2.2.1.length) plusZ (isV l tol l.1.2.2.1.length).length)[i]'_) = _; have e := keptL_at (r := lvR l tol) (l := isV l tol l.1.2.2.1.length) (f := plusZ) (n := (isV l tol l.1.2.2.1.length).length) (i := i) h3; have hI : i < (isV l tol l.1.2.2.1.length).length ∧ (isV l tol l.1.2.2.1.length).getD i false = true := ⟨by rw [isV_len]; exact hi, by rw [getDat (by rw [isV_len]; exact hi), isV_at hi, decide_eq_true hi, hb]; rfl⟩; rw [if_pos hI] at e
  have e2 : (lvR l tol).2.2.1.getD i 0 = q16 (vE l tol i).1 := by
    show (lvV l tol l.1.2.2.1.length).getD i 0 = _; rw [getDat h3, lvV_at hi, if_pos ⟨hi, hb⟩]
  rw [e2] at e; have hq := q16_ok (vE_bnd (tol := tol) (i := i) hv); have h5 := plusZ_ok hq.1; have h6 := lvl_ok h5.2.1; have h7 := lvl_ok hq.1; have h8 : u32 (plusZ (q16 (vE l tol i).1)) = u32 (q16 (vE l tol i).1) := h5.2.2; rw [h6.1, h7.1] at h8; have h9 := Option.some.inj h8; rw [show ((keptL (lvR l tol) (isV l tol l.1.2.2.1.length) plusZ (isV l tol l.1.2.2.1.length).length)[i]'(by rw [keptL_len]; exact h3)) = plusZ (q16 (vE l tol i).1) from e]; have h10 := hq.2.1; omega
theorem sv_one {x : Nat} : svE 1065353216 x = sxE x := by
  unfold svE; rw [show sgE 1065353216 = 1 from rfl, Int.one_mul]
theorem wtr_ok {r : Rec1} {w : Int} (h : recE r = 0) (hw : 1 ≤ w ∧ w ≤ 4096) : wtrC r w = 0 := firstE_zero.2 fun x hx => by
  simp only [List.mem_cons, List.not_mem_nil, or_false] at hx; rcases hx with rfl | rfl
  · exact h
  exact rangeE_zero.2 hw
theorem wtr_eq {r : Rec1} {w : Int} {g : Nat} (h : wtrC r w = 0) : wtrE r w g = watL r w g r.2.2.1.length := if_neg (fun hh => hh h)
theorem wf8v {n : Int} (h : (Lit.int .u8 n).wf = true) : 0 ≤ n ∧ n < 256 := by
  have h1 : (decide (IntKind.u8.min ≤ n) && decide (n ≤ IntKind.u8.max)) = true := h; obtain ⟨h2, h3⟩ := band h1; have h4 : (0 : Int) ≤ n := of_decide_eq_true h2; have h5 : n ≤ (255 : Int) := of_decide_eq_true h3; exact ⟨h4, by omega⟩
theorem vE_two {a b : Rec1} {tol : Int} (ht : 0 ≤ tol) {i : Nat} : vE (a, a, b) tol i = if recB a i = true then (sxE (a.2.2.1.getD i 0), true) else (0, false) := by
  unfold vE; rw [toldL_3]; show votedE (tld a i ++ (tld a i ++ tld b i)) tol = _; unfold tld; by_cases ha : recB a i = true
  · rw [if_pos ha, if_pos ha]; generalize sxE (a.2.2.1.getD i 0) = x; by_cases hb : recB b i = true
    · rw [if_pos hb]; show votedE [_, _, _] tol = _; rw [votedE_3 rfl]; simp <;> omega
    rw [if_neg hb]; show votedE [x, x] tol = _; rw [votedE_2 rfl]; show (if max (x - x) (x - x) ≤ tol then (max x x, true) else (0, false)) = _; rw [if_pos (by omega), Int.max_self]
  rw [if_neg ha, if_neg ha]; by_cases hb : recB b i = true
  · rw [if_pos hb] <;> rfl
  rw [if_neg hb] <;> rfl
theorem vE_eq {a b : Rec1} {tol : Int} (ht : 0 ≤ tol) {i : Nat} : vE (a, a, b) tol i = vE (a, a, a) tol i := by rw [vE_two ht, vE_same]
theorem voteK_two {a b : Rec1} {tol : Int} (ht : 0 ≤ tol) : voteK (a, a, b) tol = voteK (a, a, a) tol := by
  have e1 : ∀ n, lvV (a, a, b) tol n = lvV (a, a, a) tol n := fun n => by
    unfold lvV; simp only [vE_eq ht]
  have e2 : ∀ n, isV (a, a, b) tol n = isV (a, a, a) tol n := fun n => by
    unfold isV; simp only [vE_eq ht]
  show keepR (a.1, a.2.1, lvV (a, a, b) tol a.2.2.1.length, []) (isV (a, a, b) tol a.2.2.1.length) = keepR (a.1, a.2.1, lvV (a, a, a) tol a.2.2.1.length, []) (isV (a, a, a) tol a.2.2.1.length); rw [e1, e2]
theorem same_parts {x y : Rec1} (h : sameRec x y = true) : sameLv x.2.2.1 y.2.2.1 = true ∧ x.2.2.2 = y.2.2.2 := by
  unfold sameRec at h; obtain ⟨h1, h2⟩ := band h; exact ⟨(band h1).2, of_decide_eq_true h2⟩
theorem dv_two0 {a b : Rec1} {tol : Int} (ht : 0 ≤ tol) {k : Nat} (hk : k < 2) (i : Nat) : dvE (a, a, b) tol k i = 0 := by
  refine dv_zero (fun j => ?_) i
  have hrk : rk (a, a, b) k = a := by
    rcases k with _ | _ | k
    · rfl
    · rfl
    omega
  unfold dvB; rw [vE_two ht, hrk]
  cases hb : recB a j with
  | false => simp
  | true => simp; omega
theorem dv_two2 {a b : Rec1} {tol : Int} (ht : 0 ≤ tol) (i : Nat) : dvB (a, a, b) tol 2 i = (recB a i && recB b i && decide (tol < max (sxE (a.2.2.1.getD i 0) - sxE (b.2.2.1.getD i 0)) (-(sxE (a.2.2.1.getD i 0) - sxE (b.2.2.1.getD i 0))))) := by
  unfold dvB; rw [vE_two ht]; show (_ && recB b i && decide (tol < max (sxE (b.2.2.1.getD i 0) - _) _)) = _; by_cases ha : recB a i = true
  · rw [if_pos ha, ha]; congr 1; exact decide_eq_decide.2 (by show tol < max (sxE (b.2.2.1.getD i 0) - sxE (a.2.2.1.getD i 0)) (0 - (sxE (b.2.2.1.getD i 0) - sxE (a.2.2.1.getD i 0))) ↔ _; omega)
  rw [if_neg ha]
  have : recB a i = false := by simpa using ha
  rw [this] <;> rfl
theorem rec_two {a b : Rec1} {tol : Int} (ht : 0 ≤ tol) {i : Nat} (hi : i < a.2.2.1.length) : recB (voteK (a, a, b) tol) i = recB a i := by
  rw [voteK_two ht]
  have hl : (isV (a, a, a) tol a.2.2.1.length).length = (lvR (a, a, a) tol).2.2.1.length := by rw [isV_len]; exact lvV_len.symm
  have hk : (voteK (a, a, a) tol).2.2.1.length = a.2.2.1.length := keptL_len.trans lvV_len; have h1 := thereE_at (r := voteK (a, a, a) tol) (i := i) (by omega) (by rw [thereE_len]; omega); rw [← h1, ← getDat (d := false), there_keep hl, isV_same, getDat (by rw [thereE_len]; exact hi), thereE_at hi]
theorem lev_two {a b : Rec1} {tol : Int} (ht : 0 ≤ tol) (hv : ∀ k, k < 3 → ∀ x ∈ (rk (a, a, b) k).2.2.1, lvlE x = 0) {i : Nat} (hi : i < a.2.2.1.length) (hb : recB a i = true) : sxE (levE (voteK (a, a, b) tol) i) = sxE (levE a i) := by
  have hk : (voteK (a, a, b) tol).2.2.1.length = a.2.2.1.length := keptL_len.trans lvV_len; have hv2 := vE_two (a := a) (b := b) ht (i := i); rw [if_pos hb] at hv2; rw [levE_at (by omega), vote_at (l := (a, a, b)) hv hi (by omega) (by rw [hv2]), hv2]; rfl
theorem water_two {a b : Rec1} {tol w : Int} (ht : 0 ≤ tol) (hv : ∀ k, k < 3 → ∀ x ∈ (rk (a, a, b) k).2.2.1, lvlE x = 0) {i : Nat} (hi : i < a.2.2.1.length) : waterE (voteK (a, a, b) tol) w 1065353216 i = waterE a w 1065353216 i := by
  have hk : (voteK (a, a, b) tol).2.2.1.length = a.2.2.1.length := keptL_len.trans lvV_len; unfold waterE; rw [rec_two ht hi, hk]
  cases hb : recB a i with
  | false => rfl
  | true =>
    rw [Bool.true_and, Bool.true_and]; congr 1; have h1 := lev_two (b := b) ht hv hi hb
    have hbe : ∀ k, k < a.2.2.1.length → beatE (voteK (a, a, b) tol) w 1065353216 i k = beatE a w 1065353216 i k := fun k hk2 => by
      unfold beatE; rw [rec_two ht hk2]
      cases hb2 : recB a k with
      | false => rfl
      | true =>
        have h2 := lev_two (b := b) ht hv hk2 hb2; unfold nearE; rw [sv_one, sv_one, sv_one, sv_one, h1, h2]
    refine Bool.eq_iff_iff.2 ?_; rw [List.any_eq_true, List.any_eq_true]; exact ⟨fun ⟨k, hk3, h⟩ => ⟨k, hk3, by rw [← hbe k (List.mem_range.1 hk3)]; exact h⟩, fun ⟨k, hk3, h⟩ => ⟨k, hk3, by rw [hbe k (List.mem_range.1 hk3)]; exact h⟩⟩
theorem wat_two {a b : Rec1} {tol w : Int} (ht : 0 ≤ tol) (hv : ∀ k, k < 3 → ∀ x ∈ (rk (a, a, b) k).2.2.1, lvlE x = 0) : ∀ n : Nat, n ≤ a.2.2.1.length → watL (voteK (a, a, b) tol) w 1065353216 n = watL a w 1065353216 n
  | 0, _ => rfl
  | n + 1, hn => by
    show (if waterE (voteK (a, a, b) tol) w 1065353216 n = true then _ else _) = (if waterE a w 1065353216 n = true then _ else _); rw [wat_two ht hv n (by omega), water_two ht hv (by omega)]
theorem wtr_two {a b : Rec1} {tol w : Int} (ht : 0 ≤ tol) (ha : recE a = 0) (hK : recE (voteK (a, a, b) tol) = 0) (hv : ∀ k, k < 3 → ∀ x ∈ (rk (a, a, b) k).2.2.1, lvlE x = 0) (hw : 1 ≤ w ∧ w ≤ 4096) : wtrE a w 1065353216 = wtrE (voteK (a, a, b) tol) w 1065353216 := by
  have hk : (voteK (a, a, b) tol).2.2.1.length = a.2.2.1.length := keptL_len.trans lvV_len; rw [wtr_eq (wtr_ok ha hw), wtr_eq (wtr_ok hK hw), hk]; exact (wat_two ht hv _ (Nat.le_refl _)).symm
theorem tRecord_ok {r : ByteArray × Int × (List Nat) × (List (Int × Int))} (hl : r.2.2.1.length < 1000000) (hg : r.2.2.2.length < 1000000) : VF Tryz.prog OA 8 [.v y25 r] (.v y30 r) := by
  refine VF.enter Tryz.func8 rfl (fun _ _ => rfl) rfl ?_; show VC _ _ _ _ _ [(0, .v y25 r)] [] _; refine VC.seq (VC.text ?_); refine VO.new (.box) ?_; refine VO.cell (.alloc zt30) ?_; intro ww1; refine VO.go (VC.seq ?_); refine VC.lateS [] ⟨[(ww1, .var [St ByteArray.empty, I (0 : Int), .v y22 [], .v y23 []])], rfl⟩ ?_; refine VLs.c (.fa (.l .o)) ?_; refine VLs.q rfl (.ld vt9) ?_; refine VLs.c (.fa (.r (.l .o))) ?_; refine VLs.q rfl (.ld vt3) ?_; refine VLs.lit0 (.lit0C el22) ?_; intro ww2; refine VLs.c (.fa (.r (.r (.l .o)))) ?_; refine VLs.nws [7] ?_; refine VLs.q rfl (.ld vt22) ?_; refine VLs.app0 el22 el22 rfl rfl (by omega) ⟨[(ww1, .var [St ByteArray.empty, I (0 : Int), .v y22 [], .v y23 []])], rfl⟩ ?_; intro ww3; refine VLs.lit0 (.lit0C el23) ?_; intro ww4; refine VLs.c (.fa (.r (.r (.r .o)))) ?_; refine VLs.q rfl (.ld vt23) ?_; refine VLs.app0 el23 el23 rfl rfl (by omega) ⟨[(ww3, .row 39 (.flt .f32) r.2.2.1), (ww1, .var [St ByteArray.empty, I (0 : Int), .v y22 [], .v y23 []])], rfl⟩ ?_; intro ww5; refine VLs.of ?_; refine VLt.one m1 fun ho6 => ?_; refine VLt.one m0 fun ho7 => ?_; refine VLt.c (.buildR (cs := [St r.1, I r.2.1, .raw ww3, .raw ww5]) bt30 rfl rfl (.cons (.v) rfl rfl (.cons (.v) rfl rfl (.cons (.w ho6) rfl rfl (.cons (.w ho7) rfl rfl (.nil rfl)))))) ?_; refine VLt.nws [15, 14, 11, 10, 7] ?_; refine VLt.perm swap2 ⟨[(ww1, .var [St ByteArray.empty, I (0 : Int), .v y22 [], .v y23 []]), (ww5, .row 54 y54 r.2.2.2), (ww3, .row 39 (.flt .f32) r.2.2.1)], rfl⟩ ?_; refine VLt.mk0 (MakeV.setF (k := 0) vt30 (.aggs rfl (allC rfl (allC rfl (allC (p := .raw ww3) ho6 (allC (p := .raw ww5) ho7 rfl))))) (Nat.le_of_ble_eq_true rfl) (.inr ⟨rfl, rfl⟩) rfl rfl) (TurnV.store rfl (.inl rfl)) ⟨[(ww5, .row 54 y54 r.2.2.2), (ww3, .row 39 (.flt .f32) r.2.2.1)], rfl⟩ ?_; rintro _ _ ⟨rfl, rfl⟩; refine ⟨⟨[(ww1, .var [St r.1, I r.2.1, .raw ww3, .raw ww5]), (ww5, .row 54 y54 r.2.2.2), (ww3, .row 39 (.flt .f32) r.2.2.1)], rfl⟩, ?_⟩; refine VLt.go ?_; refine VC.ret ?_; exact VEnd.one rfl (.cell (x := (r.1, r.2.1, r.2.2.1, r.2.2.2)) rfl m0 vt30 (.cons .same (.cons .same (.cons (.row m2) (.cons (.row m1) .nil))))) (pvE (by rfl))
theorem tTold_ok {r : ByteArray × Int × (List Nat) × (List (Int × Int))} : VF Tryz.prog OA 14 [.v y30 r] (.v y25 r) := by
  refine VF.enter Tryz.func14 rfl (fun _ _ => rfl) rfl ?_; show VC _ _ _ _ _ [(0, .v y30 r)] [] _; refine VC.seq (VC.text ?_); refine VO.new (.box) ?_; refine VO.cell (.alloc zt25) ?_; intro ww8; refine VO.go (VC.seq (VC.text ?_)); refine VO.r (.ld vt30) ?_; refine VO.setV (cs' := [St r.1, I r.2.1, .v y22 r.2.2.1, .v y23 r.2.2.2]) vt25 .v ?_; refine VO.go ?_; refine VC.ret ?_; exact VEnd.one rfl (.cell (x := r) rfl m0 vt25 .refl) (pvE (by rfl))
def wi2 (n : Int × Int) : Int := 1 + n.2.tmod 12
theorem wi2_b {n : Int × Int} (h : 0 ≤ n.2) : 1 ≤ wi2 n ∧ wi2 n ≤ 12 := by
  unfold wi2; rw [Int.tmod_eq_emod_of_nonneg h]; omega
theorem gVoteV_ok {l : Rec3} {tol : Int} (h : voteC l tol = 0) (hl0 : ∀ k, k < 3 → (rk l k).2.2.1.length < 100000) (hg0 : ∀ k, k < 3 → (rk l k).2.2.2.length < 1000000) : VF Tryz.prog OA 7 [.v y36 l, I tol] (.tup [.v y30 (voteK l tol), .v y31 (dvE l tol 0 l.1.2.2.1.length, dvE l tol 1 l.1.2.2.1.length, dvE l tol 2 l.1.2.2.1.length), I 0]) := by
  have h0 := gVote_ok (l := l) (tol := tol) hl0 hg0; rw [voteR, if_neg (fun hh => hh h), voteO, if_neg (fun hh => hh h), h] at h0; exact h0
theorem lawT_ok {a : ByteArray × Int × (List Nat) × (List (Int × Int))} {b : ByteArray × Int × (List Nat) × (List (Int × Int))} {n : Int × Int} (hn : (0 ≤ n.1 ∧ n.1 < 256) ∧ 0 ≤ n.2 ∧ n.2 < 256) : VF Tryz.prog OA 3 [.v y25 a, .v y25 b, .v y26 n] (B true) := by
  refine VF.enter Tryz.func3 rfl (fun _ _ => rfl) rfl ?_; show VC _ _ _ _ _ [(0, .v y25 a), (1, .v y25 b), (2, .v y26 n)] [] _; refine VC.seq (VC.text ?_); refine VO.new (.box) ?_; refine VO.new (.box) ?_; refine VO.new (.box) ?_; refine VO.c (.assign rfl) ?_; refine VO.go (VC.seq (VC.seq (VC.text ?_))); refine VO.r (.ld vt25) ?_; refine VO.call rfl rfl (VF.call (rShort_ok )) ?_; refine VO.c (.not) (VO.c (.move rfl) ?_); refine VO.rg (r := (!(shortE a))) (w := false) [] trivial (fun _ => (.ld vt25)) ?_; refine VO.callg (r0 := (!(shortE a))) (w := false) [(27, .v y25 b)] ⟨rfl, trivial⟩ rfl rfl .same .refl rfl (fun _ => VF.call (rShort_ok )) ?_; refine VO.cg (r := (!(shortE a))) (w := false) [(28, B (shortE b))] ⟨rfl, trivial⟩ (fun _ => (.not)) ?_; refine VO.c (.or) (VO.c (.move rfl) ?_); refine VO.rg (r := ((!(shortE a)) || (!(shortE b)))) (w := false) [] trivial (fun _ => (.ld vt25)) ?_; refine VO.callg (r0 := ((!(shortE a)) || (!(shortE b)))) (w := false) [(32, .v y25 a)] ⟨rfl, trivial⟩ rfl rfl .same .refl rfl (fun hgd => have g1_8 : ((!(shortE a)) || (!(shortE b))) = false := (by first | exact eq_of_beq hgd | simpa using hgd); VF.call (rRec_ok (by have := shortE_t (r := a) (by have := g1_8; simp at this; exact this.1); omega) (by have := shortE_t (r := a) (by have := g1_8; simp at this; exact this.1); omega))) ?_; refine VO.cg (r := ((!(shortE a)) || (!(shortE b)))) (w := false) [(33, I (recE a))] ⟨rfl, trivial⟩ (fun _ => (.neq)) ?_; refine VO.c (.or) (VO.c (.move rfl) ?_); refine VO.rg (r := (((!(shortE a)) || (!(shortE b))) || (decide (recE a ≠ (0 : Int))))) (w := false) [] trivial (fun _ => (.ld vt25)) ?_; refine VO.callg (r0 := (((!(shortE a)) || (!(shortE b))) || (decide (recE a ≠ (0 : Int))))) (w := false) [(37, .v y25 b)] ⟨rfl, trivial⟩ rfl rfl .same .refl rfl (fun hgd => have g1_13 : (((!(shortE a)) || (!(shortE b))) || (decide (recE a ≠ (0 : Int)))) = false := (by first | exact eq_of_beq hgd | simpa using hgd); VF.call (rRec_ok (by have := shortE_t (r := b) (by have := g1_13; simp at this; exact this.1.2); omega) (by have := shortE_t (r := b) (by have := g1_13; simp at this; exact this.1.2); omega))) ?_; refine VO.cg (r := (((!(shortE a)) || (!(shortE b))) || (decide (recE a ≠ (0 : Int))))) (w := false) [(38, I (recE b))] ⟨rfl, trivial⟩ (fun _ => (.neq)) ?_; refine VO.c (.or) (VO.c (.move rfl) ?_); refine VO.cg (r := ((((!(shortE a)) || (!(shortE b))) || (decide (recE a ≠ (0 : Int)))) || (decide (recE b ≠ (0 : Int))))) (w := false) [] trivial (fun _ => (.fa (.r (.l .o)))) ?_; refine VO.rg (r := ((((!(shortE a)) || (!(shortE b))) || (decide (recE a ≠ (0 : Int)))) || (decide (recE b ≠ (0 : Int))))) (w := false) [(42, .p (.int .i64) a.2.1)] ⟨rfl, trivial⟩ (fun _ => (.ld vt3)) ?_; refine VO.cg (r := ((((!(shortE a)) || (!(shortE b))) || (decide (recE a ≠ (0 : Int)))) || (decide (recE b ≠ (0 : Int))))) (w := false) [] trivial (fun _ => (.fa (.r (.l .o)))) ?_; refine VO.rg (r := ((((!(shortE a)) || (!(shortE b))) || (decide (recE a ≠ (0 : Int)))) || (decide (recE b ≠ (0 : Int))))) (w := false) [(44, .p (.int .i64) b.2.1)] ⟨rfl, trivial⟩ (fun _ => (.ld vt3)) ?_; refine VO.cg (r := ((((!(shortE a)) || (!(shortE b))) || (decide (recE a ≠ (0 : Int)))) || (decide (recE b ≠ (0 : Int))))) (w := false) [(43, I a.2.1), (45, I b.2.1)] ⟨rfl, rfl, trivial⟩ (fun _ => (.neq)) ?_; refine VO.c (.or) (VO.c (.move rfl) ?_); refine VO.cg (r := (((((!(shortE a)) || (!(shortE b))) || (decide (recE a ≠ (0 : Int)))) || (decide (recE b ≠ (0 : Int)))) || (decide (a.2.1 ≠ b.2.1)))) (w := false) [] trivial (fun _ => (.fa (.r (.r (.l .o))))) ?_; refine VO.rg (r := (((((!(shortE a)) || (!(shortE b))) || (decide (recE a ≠ (0 : Int)))) || (decide (recE b ≠ (0 : Int)))) || (decide (a.2.1 ≠ b.2.1)))) (w := false) [(49, .p y22 a.2.2.1)] ⟨rfl, trivial⟩ (fun _ => (.ld vt22)) ?_; refine VO.rg (r := (((((!(shortE a)) || (!(shortE b))) || (decide (recE a ≠ (0 : Int)))) || (decide (recE b ≠ (0 : Int)))) || (decide (a.2.1 ≠ b.2.1)))) (w := false) [(50, .v y22 a.2.2.1)] ⟨rfl, trivial⟩ (fun _ => (.len el22)) ?_; refine VO.cg (r := (((((!(shortE a)) || (!(shortE b))) || (decide (recE a ≠ (0 : Int)))) || (decide (recE b ≠ (0 : Int)))) || (decide (a.2.1 ≠ b.2.1)))) (w := false) [] trivial (fun _ => (.fa (.r (.r (.l .o))))) ?_; refine VO.rg (r := (((((!(shortE a)) || (!(shortE b))) || (decide (recE a ≠ (0 : Int)))) || (decide (recE b ≠ (0 : Int)))) || (decide (a.2.1 ≠ b.2.1)))) (w := false) [(52, .p y22 b.2.2.1)] ⟨rfl, trivial⟩ (fun _ => (.ld vt22)) ?_; refine VO.rg (r := (((((!(shortE a)) || (!(shortE b))) || (decide (recE a ≠ (0 : Int)))) || (decide (recE b ≠ (0 : Int)))) || (decide (a.2.1 ≠ b.2.1)))) (w := false) [(53, .v y22 b.2.2.1)] ⟨rfl, trivial⟩ (fun _ => (.len el22)) ?_; refine VO.cg (r := (((((!(shortE a)) || (!(shortE b))) || (decide (recE a ≠ (0 : Int)))) || (decide (recE b ≠ (0 : Int)))) || (decide (a.2.1 ≠ b.2.1)))) (w := false) [(51, I ((a.2.2.1.length : Nat) : Int)), (54, I ((b.2.2.1.length : Nat) : Int))] ⟨rfl, rfl, trivial⟩ (fun _ => (.neq)) ?_; refine VO.c (.or) (VO.go ?_); refine VC.condB rfl (fun c1 => ?_) (fun c1 => ?_)
  · try simp only [Bool.and_eq_true, Bool.or_eq_true, Bool.and_eq_false_iff, Bool.or_eq_false_iff, Bool.not_eq_true', Bool.not_eq_false', decide_eq_true_eq, decide_eq_false_iff_not] at c1
    refine VC.seq (VC.text ?_); refine VO.call rfl rfl (VF.call (awake_ok )) ?_; refine VO.c (.assign rfl) (VO.go ?_); refine VC.ret ?_; exact VEnd.one rfl evT (pvE (by rfl))
  try simp only [Bool.and_eq_true, Bool.or_eq_true, Bool.and_eq_false_iff, Bool.or_eq_false_iff, Bool.not_eq_true', Bool.not_eq_false', decide_eq_true_eq, decide_eq_false_iff_not] at c1
  have hx := c1; have hsa := shortE_t (r := a) c1.1.1.1.1.1; have hsb := shortE_t (r := b) c1.1.1.1.1.2; have hra : recE a = 0 := Classical.not_not.1 c1.1.1.1.2; have hrb : recE b = 0 := Classical.not_not.1 c1.1.1.2; have hst : a.2.1 = b.2.1 := Classical.not_not.1 c1.1.2
  have hle : a.2.2.1.length = b.2.2.1.length := by have := c1.2; omega
  have ht := hn.1.1; have hwi := wi2_b (n := n) hn.2.1; have hqa := rec_ok hra; have hqb := rec_ok hrb; have hsh : sameSh (a, a, b) := ⟨⟨rfl, hst.symm⟩, rfl, hle.symm⟩; have hshR : sameSh (b, a, a) := ⟨⟨hst, hst⟩, hle, hle⟩; have hall : ∀ k, k < 3 → recE (rk (a, a, b) k) = 0 := all3 (l := (a, a, b)) (Q := fun r => recE r = 0) hra hra hrb; have hallR : ∀ k, k < 3 → recE (rk (b, a, a) k) = 0 := all3 (l := (b, a, a)) (Q := fun r => recE r = 0) hrb hra hra; have hv : ∀ k, k < 3 → ∀ x ∈ (rk (a, a, b) k).2.2.1, lvlE x = 0 := fun k hk => (rec_ok (hall k hk)).2.2.2.1
  have hla : a.2.2.1.length < 100000 := by omega
  have hlb : b.2.2.1.length < 100000 := by omega
  have hga : a.2.2.2.length < 1000000 := by omega
  have hgb : b.2.2.2.length < 1000000 := by omega
  have hla6 : a.2.2.1.length < 1000000 := by omega
  have hlb6 : b.2.2.1.length < 1000000 := by omega
  have hL : ∀ k, k < 3 → (rk (a, a, b) k).2.2.1.length < 100000 := all3 (l := (a, a, b)) (Q := fun r => r.2.2.1.length < 100000) hla hla hlb; have hG : ∀ k, k < 3 → (rk (a, a, b) k).2.2.2.length < 1000000 := all3 (l := (a, a, b)) (Q := fun r => r.2.2.2.length < 1000000) hga hga hgb; have hLR : ∀ k, k < 3 → (rk (b, a, a) k).2.2.1.length < 100000 := all3 (l := (b, a, a)) (Q := fun r => r.2.2.1.length < 100000) hlb hla hla; have hGR : ∀ k, k < 3 → (rk (b, a, a) k).2.2.2.length < 1000000 := all3 (l := (b, a, a)) (Q := fun r => r.2.2.2.length < 1000000) hgb hga hga; have hK : recE (voteK (a, a, b) n.1) = 0 := voteK_rec hra hv (by show a.2.2.1.length ≤ 2048; omega); have hKq := rec_ok hK; have hKl : (voteK (a, a, b) n.1).2.2.1.length = a.2.2.1.length := keptL_len.trans lvV_len
  have hKl6 : (voteK (a, a, b) n.1).2.2.1.length < 1000000 := by omega
  have hKg6 : (voteK (a, a, b) n.1).2.2.2.length < 1000000 := by omega
  have hts := same_parts (voteK_two (b := b) ht ▸ three_same (tol := n.1) hra : sameRec (voteK (a, a, b) n.1) a = true); have hv1 : (voteK (b, a, a) n.1).2.2.1 = (voteK (a, a, b) n.1).2.2.1 := keptL_cong (lvV_rot (l := (a, a, b)) hle.symm) (isV_rot (l := (a, a, b)) hle.symm); have hv2 : (voteK (b, a, a) n.1).2.2.2 = (voteK (a, a, b) n.1).2.2.2 := ((rot_same (l := (a, a, b)) (tol := n.1) hle.symm hv).2).symm
  have hws : sameLv (voteK (b, a, a) n.1).2.2.1 a.2.2.1 = true := by rw [hv1]; exact hts.1
  have hwg : (voteK (b, a, a) n.1).2.2.2 = a.2.2.2 := by rw [hv2]; exact hts.2
  have hwl6 : (voteK (b, a, a) n.1).2.2.1.length < 1000000 := by rw [hv1]; exact hKl6
  have hwg6 : (voteK (b, a, a) n.1).2.2.2.length < 1000000 := by rw [hv2]; exact hKg6
  have hd0 := dv_two0 (a := a) (b := b) ht (show 0 < 2 by decide) a.2.2.1.length; have hd1 := dv_two0 (a := a) (b := b) ht (show 1 < 2 by decide) a.2.2.1.length
  have ho0 : dvE (b, a, a) n.1 0 b.2.2.1.length = dvE (a, a, b) n.1 2 a.2.2.1.length := by rw [hle]; exact dv_congr (l := (a, a, b)) (fun i => vE_rot (l := (a, a, b))) rfl _
  have ho1 : dvE (b, a, a) n.1 1 b.2.2.1.length = 0 := (dv_congr (l := (a, a, b)) (k := 0) (fun i => vE_rot (l := (a, a, b))) rfl _).trans (dv_two0 ht (by decide) _); have ho2 : dvE (b, a, a) n.1 2 b.2.2.1.length = 0 := (dv_congr (l := (a, a, b)) (k := 1) (fun i => vE_rot (l := (a, a, b))) rfl _).trans (dv_two0 ht (by decide) _); have hwe := wtr_two (w := wi2 n) ht hra hK hv (by omega); have hw0 := wtr_ok (w := wi2 n) hra (by omega); have hw1 := wtr_ok (w := wi2 n) hK (by omega)
  have hWl : (wtrE a (wi2 n) 1065353216).length < 1000000 := by rw [wtr_eq hw0]; have := watL_len (r := a) (w := wi2 n) (g := 1065353216) a.2.2.1.length; omega
  have hVl : (wtrE (voteK (a, a, b) n.1) (wi2 n) 1065353216).length < 1000000 := by rw [← hwe]; exact hWl
  refine VC.skip (VC.seq (VC.drawn ?_)); refine VD.c (.ixP 0 (.l .o)) ?_; refine VD.r [] (.ld vt5) (.inl rfl) ?_; refine VD.c (.convI rfl .i64 (by exact wrap64 (by omega) (by omega))) (VD.c (.ixP 1 (.r .o)) ?_); refine VD.r [] (.ld vt5) (.inl rfl) ?_; refine VD.c (.convI rfl .i64 (by exact wrap64 (by omega) (by omega))) (VD.nw [] (VD.c (.rem rfl rfl (by omega)) (VD.c (.add rfl rfl (by have h := hwi; unfold wi2 at h; omega)) ?_))); refine VD.c (.assign rfl) (VD.c (.assign rfl) ?_); refine VD.go (VC.seq (VC.drawn ?_)); refine VD.r [] (.ld vt25) (.inl rfl) ?_; refine VD.call rfl rfl (VF.call (tRecord_ok (by first | assumption | omega | simp) (by first | assumption | omega | simp))) ?_; refine VD.r [] (.ld vt25) (.inl rfl) ?_; refine VD.call rfl rfl (VF.call (tRecord_ok (by first | assumption | omega | simp) (by first | assumption | omega | simp))) ?_; refine VD.r [] (.ld vt25) (.inl rfl) ?_; refine VD.call rfl rfl (VF.call (tRecord_ok (by first | assumption | omega | simp) (by first | assumption | omega | simp))) ?_; refine VD.nw [72, 70, 68] (VD.c (.build (a, a, b) bt36) (VD.c (.move rfl) ?_)); refine VD.callO rfl rfl (VF.call (gVoteV_ok (vote_zero hall (by omega) hsh) hL hG)) ?_; refine VD.c (.move rfl) (VD.c (.extract) (VD.c (.extract) (VD.c (.extract) ?_))); refine VD.nw [76, 66, 75, 73, 72, 70, 68] ?_; refine VD.cell (.alloc zt30) ?_; intro ww9; refine VD.cell (.alloc zt31) ?_; intro ww10; refine VD.perm swap1 ?_; refine VD.mk0 (MakeV.setF (k := 0) vt30 .v (Nat.le_of_ble_eq_true rfl) (.inr ⟨rfl, rfl⟩) rfl rfl) ?_; rintro _ _ tl11 ⟨rfl, rfl⟩; refine VD.perm swap1 ?_; refine VD.mk0 (MakeV.setF (k := 0) vt31 .v (Nat.le_of_ble_eq_true rfl) (.inr ⟨rfl, rfl⟩) rfl rfl) ?_; rintro _ _ tl12 ⟨rfl, rfl⟩; refine VD.c (.assign rfl) ?_; refine VD.go (VC.seq ?_); refine VC.perm swap1 ?_; refine VC.shutL [(ww9, .var [St ((voteK (a, a, b) n.1).1), I ((voteK (a, a, b) n.1).2.1), .v y22 ((voteK (a, a, b) n.1).2.2.1), .v y23 ((voteK (a, a, b) n.1).2.2.2)])] [(9, .p y30 (voteK (a, a, b) n.1))] rfl (.cons rfl (.var m0 .refl) .nil) ?_; refine VC.shutL [(ww10, .var [I (dvE (a, a, b) n.1 0 a.2.2.1.length), I (dvE (a, a, b) n.1 1 a.2.2.1.length), I (dvE (a, a, b) n.1 2 a.2.2.1.length)])] [(10, .p y31 (dvE (a, a, b) n.1 0 a.2.2.1.length, dvE (a, a, b) n.1 1 a.2.2.1.length, dvE (a, a, b) n.1 2 a.2.2.1.length))] rfl (.cons rfl (.var m0 .refl) .nil) ?_; refine VC.keep [(3, .p y25 a), (4, .p y25 b), (7, I n.1), (8, I (wi2 n)), (9, .p y30 (voteK (a, a, b) n.1)), (10, .p y31 (dvE (a, a, b) n.1 0 a.2.2.1.length, dvE (a, a, b) n.1 1 a.2.2.1.length, dvE (a, a, b) n.1 2 a.2.2.1.length)), (11, I 0)] ⟨rfl, rfl, rfl, rfl, rfl, rfl, rfl, trivial⟩ ?_; refine VC.drawn ?_; refine VD.r [] (.ld vt25) (.inl rfl) ?_; refine VD.call rfl rfl (VF.call (tRecord_ok (by first | assumption | omega | simp) (by first | assumption | omega | simp))) ?_; refine VD.r [] (.ld vt25) (.inl rfl) ?_; refine VD.call rfl rfl (VF.call (tRecord_ok (by first | assumption | omega | simp) (by first | assumption | omega | simp))) ?_; refine VD.r [] (.ld vt25) (.inl rfl) ?_; refine VD.call rfl rfl (VF.call (tRecord_ok (by first | assumption | omega | simp) (by first | assumption | omega | simp))) ?_; refine VD.nw [85, 83, 81] (VD.c (.build (b, a, a) bt36) (VD.c (.move rfl) ?_)); refine VD.callO rfl rfl (VF.call (gVoteV_ok (vote_zero hallR (by omega) hshR) hLR hGR)) ?_; refine VD.c (.move rfl) (VD.c (.extract) (VD.c (.extract) (VD.c (.extract) ?_))); refine VD.nw [89, 79, 88, 86, 85, 83, 81] ?_; refine VD.cell (.alloc zt30) ?_; intro ww13; refine VD.cell (.alloc zt31) ?_; intro ww14; refine VD.perm swap1 ?_; refine VD.mk0 (MakeV.setF (k := 0) vt30 .v (Nat.le_of_ble_eq_true rfl) (.inr ⟨rfl, rfl⟩) rfl rfl) ?_; rintro _ _ tl15 ⟨rfl, rfl⟩; refine VD.perm swap1 ?_; refine VD.mk0 (MakeV.setF (k := 0) vt31 .v (Nat.le_of_ble_eq_true rfl) (.inr ⟨rfl, rfl⟩) rfl rfl) ?_; rintro _ _ tl16 ⟨rfl, rfl⟩; refine VD.c (.assign rfl) ?_; refine VD.go (VC.seq (VC.seq ?_)); refine VC.perm swap1 ?_; refine VC.shutL [(ww13, .var [St ((voteK (b, a, a) n.1).1), I ((voteK (b, a, a) n.1).2.1), .v y22 ((voteK (b, a, a) n.1).2.2.1), .v y23 ((voteK (b, a, a) n.1).2.2.2)])] [(12, .p y30 (voteK (b, a, a) n.1))] rfl (.cons rfl (.var m0 .refl) .nil) ?_; refine VC.shutL [(ww14, .var [I (dvE (b, a, a) n.1 0 b.2.2.1.length), I (dvE (b, a, a) n.1 1 b.2.2.1.length), I (dvE (b, a, a) n.1 2 b.2.2.1.length)])] [(13, .p y31 (dvE (b, a, a) n.1 0 b.2.2.1.length, dvE (b, a, a) n.1 1 b.2.2.1.length, dvE (b, a, a) n.1 2 b.2.2.1.length))] rfl (.cons rfl (.var m0 .refl) .nil) ?_; refine VC.text ?_; refine VO.c (.move rfl) (VO.c (.neq) (VO.c (.move rfl) ?_)); refine VO.splitD (x := 94) rfl (fun g6_2 => ?_) (fun g6_2 => ?_)
  · exact absurd rfl g6_2
  refine VO.c (.move rfl) (VO.c (.neq) (VO.c (.pickF rfl rfl) (VO.c (.move rfl) ?_))); refine VO.splitD (x := 98) rfl (fun g6_6 => ?_) (fun g6_6 => ?_)
  · exact absurd rfl g6_6
  refine VO.c (.ixP 0 (τ' := (.int .i64)) (dy := dvE (a, a, b) n.1 0 a.2.2.1.length) (.l .o)) ?_; refine VO.r (.ld vt3) ?_; refine VO.c (.neq) (VO.c (.pickF rfl rfl) (VO.c (.move rfl) ?_)); refine VO.splitD (x := 103) rfl (fun g6_11 => ?_) (fun g6_11 => ?_)
  · exact absurd hd0 g6_11
  refine VO.c (.ixP 1 (τ' := (.int .i64)) (dy := dvE (a, a, b) n.1 1 a.2.2.1.length) (.r (.l .o))) ?_; refine VO.r (.ld vt3) ?_; refine VO.c (.neq) (VO.c (.pickF rfl rfl) (VO.c (.move rfl) ?_)); refine VO.splitD (x := 108) rfl (fun g6_16 => ?_) (fun g6_16 => ?_)
  · exact absurd hd1 g6_16
  refine VO.c (.ixP 1 (τ' := (.int .i64)) (dy := dvE (b, a, a) n.1 1 b.2.2.1.length) (.r (.l .o))) ?_; refine VO.r (.ld vt3) ?_; refine VO.c (.neq) (VO.c (.pickF rfl rfl) (VO.c (.move rfl) ?_)); refine VO.splitD (x := 113) rfl (fun g6_21 => ?_) (fun g6_21 => ?_)
  · exact absurd ho1 g6_21
  refine VO.c (.ixP 2 (τ' := (.int .i64)) (dy := dvE (b, a, a) n.1 2 b.2.2.1.length) (.r (.r .o))) ?_; refine VO.r (.ld vt3) ?_; refine VO.c (.neq) (VO.c (.pickF rfl rfl) (VO.c (.move rfl) ?_)); refine VO.splitD (x := 118) rfl (fun g6_26 => ?_) (fun g6_26 => ?_)
  · exact absurd ho2 g6_26
  refine VO.c (.ixP 2 (τ' := (.int .i64)) (dy := dvE (a, a, b) n.1 2 a.2.2.1.length) (.r (.r .o))) ?_; refine VO.r (.ld vt3) ?_; refine VO.c (.ixP 0 (τ' := (.int .i64)) (dy := dvE (b, a, a) n.1 0 b.2.2.1.length) (.l .o)) ?_; refine VO.r (.ld vt3) ?_; refine VO.c (.neq) (VO.c (.pickF rfl rfl) (VO.c (.move rfl) ?_)); refine VO.splitD (x := 125) rfl (fun g6_33 => ?_) (fun g6_33 => ?_)
  · exact absurd ho0.symm g6_33
  refine VO.c (.fa (.r (.r (.l .o)))) ?_; refine VO.r (.ld vt22) ?_; refine VO.c (.fa (.r (.r (.l .o)))) ?_; refine VO.r (.ld vt22) ?_; refine VO.call rfl rfl (VF.call (rSameLv_ok (by first | assumption | omega | simp))) ?_; refine VO.c (.not) (VO.c (.pickF rfl rfl) (VO.c (.move rfl) ?_)); refine VO.splitB (x := 133) rfl (fun g6_41 => ?_) (fun g6_41 => ?_)
  · try simp only [Bool.and_eq_true, Bool.or_eq_true, Bool.and_eq_false_iff, Bool.or_eq_false_iff, Bool.not_eq_true', Bool.not_eq_false', decide_eq_true_eq, decide_eq_false_iff_not] at g6_41
    exact absurd hts.1 (by rw [g6_41]; decide)
  try simp only [Bool.and_eq_true, Bool.or_eq_true, Bool.and_eq_false_iff, Bool.or_eq_false_iff, Bool.not_eq_true', Bool.not_eq_false', decide_eq_true_eq, decide_eq_false_iff_not] at g6_41
  refine VO.c (.fa (.r (.r (.r .o)))) ?_; refine VO.r (.ld vt23) ?_; refine VO.c (.fa (.r (.r (.r .o)))) ?_; refine VO.r (.ld vt23) ?_; refine VO.call rfl rfl (VF.call (rSameSp_ok (by first | assumption | omega | simp) (by first | assumption | omega | simp))) ?_; refine VO.c (.not) (VO.c (.pickF rfl rfl) (VO.c (.move rfl) ?_)); refine VO.splitB (x := 141) rfl (fun g6_49 => ?_) (fun g6_49 => ?_)
  · try simp only [Bool.and_eq_true, Bool.or_eq_true, Bool.and_eq_false_iff, Bool.or_eq_false_iff, Bool.not_eq_true', Bool.not_eq_false', decide_eq_true_eq, decide_eq_false_iff_not] at g6_49
    exact absurd hts.2 g6_49
  try simp only [Bool.and_eq_true, Bool.or_eq_true, Bool.and_eq_false_iff, Bool.or_eq_false_iff, Bool.not_eq_true', Bool.not_eq_false', decide_eq_true_eq, decide_eq_false_iff_not] at g6_49
  refine VO.c (.fa (.r (.r (.l .o)))) ?_; refine VO.r (.ld vt22) ?_; refine VO.c (.fa (.r (.r (.l .o)))) ?_; refine VO.r (.ld vt22) ?_; refine VO.call rfl rfl (VF.call (rSameLv_ok (by first | assumption | omega | simp))) ?_; refine VO.c (.not) (VO.c (.pickF rfl rfl) (VO.c (.move rfl) ?_)); refine VO.splitB (x := 149) rfl (fun g6_57 => ?_) (fun g6_57 => ?_)
  · try simp only [Bool.and_eq_true, Bool.or_eq_true, Bool.and_eq_false_iff, Bool.or_eq_false_iff, Bool.not_eq_true', Bool.not_eq_false', decide_eq_true_eq, decide_eq_false_iff_not] at g6_57
    exact absurd hws (by rw [g6_57]; decide)
  try simp only [Bool.and_eq_true, Bool.or_eq_true, Bool.and_eq_false_iff, Bool.or_eq_false_iff, Bool.not_eq_true', Bool.not_eq_false', decide_eq_true_eq, decide_eq_false_iff_not] at g6_57
  refine VO.c (.fa (.r (.r (.r .o)))) ?_; refine VO.r (.ld vt23) ?_; refine VO.c (.fa (.r (.r (.r .o)))) ?_; refine VO.r (.ld vt23) ?_; refine VO.call rfl rfl (VF.call (rSameSp_ok (by first | assumption | omega | simp) (by first | assumption | omega | simp))) ?_; refine VO.c (.not) (VO.c (.pickF rfl rfl) (VO.go ?_)); refine VC.condB rfl (fun c6 => ?_) (fun c6 => ?_)
  · try simp only [Bool.and_eq_true, Bool.or_eq_true, Bool.and_eq_false_iff, Bool.or_eq_false_iff, Bool.not_eq_true', Bool.not_eq_false', decide_eq_true_eq, decide_eq_false_iff_not] at c6
    exact absurd hwg c6
  try simp only [Bool.and_eq_true, Bool.or_eq_true, Bool.and_eq_false_iff, Bool.or_eq_false_iff, Bool.not_eq_true', Bool.not_eq_false', decide_eq_true_eq, decide_eq_false_iff_not] at c6
  refine VC.skip (VC.seq ?_); refine VC.keep [(3, .p y25 a), (4, .p y25 b), (7, I n.1), (8, I (wi2 n)), (9, .p y30 (voteK (a, a, b) n.1)), (10, .p y31 (dvE (a, a, b) n.1 0 a.2.2.1.length, dvE (a, a, b) n.1 1 a.2.2.1.length, dvE (a, a, b) n.1 2 a.2.2.1.length))] ⟨rfl, rfl, rfl, rfl, rfl, rfl, trivial⟩ ?_; refine VC.text ?_; refine VO.c (.assign rfl) ?_; refine VO.go (VC.seq (VC.seq (VC.text ?_))); refine VO.c (.fa (.r (.r (.l .o)))) ?_; refine VO.r (.ld vt22) ?_; refine VO.r (.len el22) ?_; refine VO.c (.move rfl) ?_; refine VO.go (VC.block ?_); refine VC.keep [(3, .p y25 a), (4, .p y25 b), (7, I n.1), (8, I (wi2 n)), (9, .p y30 (voteK (a, a, b) n.1)), (10, .p y31 (dvE (a, a, b) n.1 0 a.2.2.1.length, dvE (a, a, b) n.1 1 a.2.2.1.length, dvE (a, a, b) n.1 2 a.2.2.1.length)), (15, I (dvE (a, a, b) n.1 2 0)), (158, .v y22 a.2.2.1), (159, I ((a.2.2.1.length : Nat) : Int)), (160, I ((0 : Nat) : Int))] ⟨rfl, rfl, rfl, rfl, rfl, rfl, rfl, rfl, rfl, rfl, trivial⟩ ?_; refine VC.loop (I := fun kk ff ss => ∃ (i : Nat), kk = a.2.2.1.length - i ∧ ff = [(3, .p y25 a), (4, .p y25 b), (7, I n.1), (8, I (wi2 n)), (9, .p y30 (voteK (a, a, b) n.1)), (10, .p y31 (dvE (a, a, b) n.1 0 a.2.2.1.length, dvE (a, a, b) n.1 1 a.2.2.1.length, dvE (a, a, b) n.1 2 a.2.2.1.length)), (15, I (dvE (a, a, b) n.1 2 i)), (158, .v y22 a.2.2.1), (159, I ((a.2.2.1.length : Nat) : Int)), (160, I ((i : Nat) : Int))] ∧ ss = [] ∧ (i ≤ a.2.2.1.length)) ?_ _ _ _ ⟨0, rfl, rfl, rfl, Nat.zero_le _⟩; rintro kk ff ss ⟨i, hk0, rfl, rfl, hi⟩; refine VC.seq (VC.text ?_); refine VO.c (.lss) ?_; refine VO.go (VC.seq ?_); refine VC.condD rfl (fun c10 => ?_) (fun c10 => ?_)
  · have hia : i < a.2.2.1.length := by omega
    have hib : i < b.2.2.1.length := by omega
    have hxa := hqa.2.2.2.1 _ (List.getElem_mem hia); have hxb := hqb.2.2.2.1 _ (List.getElem_mem hib); have hba := (lvl_ok hxa).2; have hbb := (lvl_ok hxb).2; have hbd := dvE_bnd (l := (a, a, b)) (tol := n.1) (k := 2) i; have hdv := dv_two2 (a := a) (b := b) ht i; rw [getDat hia, getDat hib] at hdv; refine VC.skip (VC.seq (VC.block (VC.seq (VC.text ?_)))); refine VO.c (.move rfl) (VO.c (.ix (j := i) rfl rfl el22 (by omega)) ?_); refine VO.r (.ld vt39) ?_; refine VO.c (.assign rfl) (VO.c (.assign rfl) ?_); refine VO.go (VC.seq (VC.drawn ?_)); refine VD.c (.move rfl) ?_; refine VD.call rfl rfl (VF.call (rSix_ok (by first | assumption | omega | simp))) ?_; refine VD.c (.fa (.r (.r (.l .o)))) ?_; refine VD.r [] (.ld vt22) (.inl rfl) ?_; refine VD.c (.move rfl) (VD.c (.ix (j := i) rfl rfl el22 (by omega)) (VD.nw [] ?_)); refine VD.r [] (.ld vt39) (.inl rfl) ?_; refine VD.call rfl rfl (VF.call (rSix_ok (by first | assumption | omega | simp))) ?_; refine VD.c (.sub rfl rfl (by omega)) (VD.c (.assign rfl) ?_); refine VD.go (VC.seq ?_); refine VC.join [(3, .p y25 a), (4, .p y25 b), (7, I n.1), (8, I (wi2 n)), (9, .p y30 (voteK (a, a, b) n.1)), (10, .p y31 (dvE (a, a, b) n.1 0 a.2.2.1.length, dvE (a, a, b) n.1 1 a.2.2.1.length, dvE (a, a, b) n.1 2 a.2.2.1.length)), (15, I (dvE (a, a, b) n.1 2 i)), (158, .v y22 a.2.2.1), (159, I ((a.2.2.1.length : Nat) : Int)), (160, I ((i : Nat) : Int)), (189, B (dvB (a, a, b) n.1 2 i))] [] ?_ ?_
    · skip
      refine VC.text ?_; refine VO.r (.ld vt25) ?_; refine VO.c (.move rfl) ?_; refine VO.call rfl rfl (VF.call (rRecorded_ok (by first | assumption | omega | simp))) ?_; refine VO.c (.move rfl) ?_; refine VO.rg (r := recB a ((i : Nat) : Int)) (w := true) [] trivial (fun _ => (.ld vt25)) ?_; refine VO.cg (r := recB a ((i : Nat) : Int)) (w := true) [] trivial (fun _ => (.move rfl)) ?_; refine VO.callg (r0 := recB a ((i : Nat) : Int)) (w := true) [(178, .v y25 b), (179, I ((i : Nat) : Int))] ⟨rfl, rfl, trivial⟩ rfl rfl .same .refl rfl (fun hgd => have g13_3 : recB a ((i : Nat) : Int) = true := (by simpa using hgd); VF.call (rRecorded_ok (by first | assumption | omega | simp))) ?_; refine VO.c (.and) (VO.c (.move rfl) ?_); refine VO.cg (r := ((recB a ((i : Nat) : Int)) && (recB b ((i : Nat) : Int)))) (w := true) [] trivial (fun _ => (.move rfl)) ?_; refine VO.cg (r := ((recB a ((i : Nat) : Int)) && (recB b ((i : Nat) : Int)))) (w := true) [] trivial (fun _ => (.move rfl)) ?_; refine VO.cg (r := ((recB a ((i : Nat) : Int)) && (recB b ((i : Nat) : Int)))) (w := true) [(184, I (sxE (a.2.2.1[i]) - sxE (b.2.2.1[i])))] ⟨rfl, trivial⟩ (fun hgd => have g13_8 : ((recB a ((i : Nat) : Int)) && (recB b ((i : Nat) : Int))) = true := (by simpa using hgd); (.neg rfl (by omega))) ?_; refine VO.rg (r := ((recB a ((i : Nat) : Int)) && (recB b ((i : Nat) : Int)))) (w := true) [(183, I (sxE (a.2.2.1[i]) - sxE (b.2.2.1[i]))), (185, I (-(sxE (a.2.2.1[i]) - sxE (b.2.2.1[i]))))] ⟨rfl, rfl, trivial⟩ (fun _ => (.max)) ?_; refine VO.cg (r := ((recB a ((i : Nat) : Int)) && (recB b ((i : Nat) : Int)))) (w := true) [] trivial (fun _ => (.move rfl)) ?_; refine VO.cg (r := ((recB a ((i : Nat) : Int)) && (recB b ((i : Nat) : Int)))) (w := true) [(186, I (max (sxE (a.2.2.1[i]) - sxE (b.2.2.1[i])) (-(sxE (a.2.2.1[i]) - sxE (b.2.2.1[i]))))), (187, I n.1)] ⟨rfl, rfl, trivial⟩ (fun _ => (.gtr)) ?_; refine VO.c (.and) ?_; refine VO.nil ?_; exact ⟨⟨rfl, rfl, rfl, rfl, rfl, rfl, rfl, rfl, rfl, rfl, slE rfl (by exact hdv.symm), trivial⟩, rfl⟩
    refine VC.condB rfl (fun c13 => ?_) (fun c13 => ?_)
    · refine VC.text ?_; refine VO.c (.move rfl) (VO.c (.add rfl rfl (by omega)) (VO.c (.assign rfl) ?_)); refine VO.nil (VC.text ?_); refine VO.c (.add rfl rfl (by omega)) (VO.c (.move rfl) ?_); refine VO.nil ?_; refine ⟨_, [(3, .p y25 a), (4, .p y25 b), (7, I n.1), (8, I (wi2 n)), (9, .p y30 (voteK (a, a, b) n.1)), (10, .p y31 (dvE (a, a, b) n.1 0 a.2.2.1.length, dvE (a, a, b) n.1 1 a.2.2.1.length, dvE (a, a, b) n.1 2 a.2.2.1.length)), (15, I (dvE (a, a, b) n.1 2 (i + 1))), (158, .v y22 a.2.2.1), (159, I ((a.2.2.1.length : Nat) : Int)), (160, I (((i + 1) : Nat) : Int))], ?_, ⟨rfl, rfl, rfl, rfl, rfl, rfl, slI rfl (by first | (rw [dvE_t c13]; done) | (rw [dvE_f c13]; done) | rw [dvE_f (by simpa using c13)]), rfl, rfl, rfl, trivial⟩, (i + 1), rfl, rfl, rfl, (by omega)⟩; omega
    refine VC.skip (VC.text ?_); refine VO.c (.add rfl rfl (by omega)) (VO.c (.move rfl) ?_); refine VO.nil ?_; refine ⟨_, [(3, .p y25 a), (4, .p y25 b), (7, I n.1), (8, I (wi2 n)), (9, .p y30 (voteK (a, a, b) n.1)), (10, .p y31 (dvE (a, a, b) n.1 0 a.2.2.1.length, dvE (a, a, b) n.1 1 a.2.2.1.length, dvE (a, a, b) n.1 2 a.2.2.1.length)), (15, I (dvE (a, a, b) n.1 2 (i + 1))), (158, .v y22 a.2.2.1), (159, I ((a.2.2.1.length : Nat) : Int)), (160, I (((i + 1) : Nat) : Int))], ?_, ⟨rfl, rfl, rfl, rfl, rfl, rfl, slI rfl (by first | (rw [dvE_t c13]; done) | (rw [dvE_f c13]; done) | rw [dvE_f (by simpa using c13)]), rfl, rfl, rfl, trivial⟩, (i + 1), rfl, rfl, rfl, (by omega)⟩; omega
  have hil : i = a.2.2.1.length := by omega
  refine VC.exit (VC.seq (VC.text ?_)); refine VO.r (.ld vt25) ?_; refine VO.call rfl rfl (VF.call (tRecord_ok (by first | assumption | omega | simp) (by first | assumption | omega | simp))) ?_; refine VO.c (.move rfl) ?_; refine VO.call rfl rfl (VF.call (gHighs_ok (by first | assumption | omega | simp) (by first | assumption | omega | simp))) ?_; refine VO.c (.move rfl) (VO.c (.extract) (VO.c (.extract) (VO.c (.assign rfl) ?_))); refine VO.c (.assign rfl) ?_; refine VO.go (VC.seq (VC.text ?_)); refine VO.r (.ld vt30) ?_; refine VO.call rfl rfl (VF.call (tTold_ok )) ?_; refine VO.call rfl rfl (VF.call (tRecord_ok (by first | assumption | omega | simp) (by first | assumption | omega | simp))) ?_; refine VO.c (.move rfl) ?_; refine VO.call rfl rfl (VF.call (gHighs_ok (by first | assumption | omega | simp) (by first | assumption | omega | simp))) ?_; refine VO.c (.move rfl) (VO.c (.extract) (VO.c (.extract) (VO.c (.assign rfl) ?_))); refine VO.c (.assign rfl) ?_; refine VO.go (VC.seq (VC.text ?_)); refine VO.c (.move rfl) (VO.c (.ixP 2 (τ' := (.int .i64)) (dy := dvE (a, a, b) n.1 2 a.2.2.1.length) (.r (.r .o))) ?_); refine VO.r (.ld vt3) ?_; refine VO.c (.eql) (VO.c (.move rfl) ?_); refine VO.cg (r := decide ((dvE (a, a, b) n.1 2 i) = dvE (a, a, b) n.1 2 a.2.2.1.length)) (w := true) [] trivial (fun _ => (.move rfl)) ?_; refine VO.cg (r := decide ((dvE (a, a, b) n.1 2 i) = dvE (a, a, b) n.1 2 a.2.2.1.length)) (w := true) [(213, I (wtrC a (wi2 n)))] ⟨rfl, trivial⟩ (fun _ => (.eql)) ?_; refine VO.c (.and) (VO.c (.move rfl) ?_); refine VO.cg (r := ((decide ((dvE (a, a, b) n.1 2 i) = dvE (a, a, b) n.1 2 a.2.2.1.length)) && (decide (wtrC a (wi2 n) = (0 : Int))))) (w := true) [] trivial (fun _ => (.move rfl)) ?_; refine VO.cg (r := ((decide ((dvE (a, a, b) n.1 2 i) = dvE (a, a, b) n.1 2 a.2.2.1.length)) && (decide (wtrC a (wi2 n) = (0 : Int))))) (w := true) [(217, I (wtrC (voteK (a, a, b) n.1) (wi2 n)))] ⟨rfl, trivial⟩ (fun _ => (.eql)) ?_; refine VO.c (.and) (VO.c (.move rfl) ?_); refine VO.cg (r := (((decide ((dvE (a, a, b) n.1 2 i) = dvE (a, a, b) n.1 2 a.2.2.1.length)) && (decide (wtrC a (wi2 n) = (0 : Int)))) && (decide (wtrC (voteK (a, a, b) n.1) (wi2 n) = (0 : Int))))) (w := true) [] trivial (fun _ => (.move rfl)) ?_; refine VO.cg (r := (((decide ((dvE (a, a, b) n.1 2 i) = dvE (a, a, b) n.1 2 a.2.2.1.length)) && (decide (wtrC a (wi2 n) = (0 : Int)))) && (decide (wtrC (voteK (a, a, b) n.1) (wi2 n) = (0 : Int))))) (w := true) [] trivial (fun _ => (.move rfl)) ?_; refine VO.callg (r0 := (((decide ((dvE (a, a, b) n.1 2 i) = dvE (a, a, b) n.1 2 a.2.2.1.length)) && (decide (wtrC a (wi2 n) = (0 : Int)))) && (decide (wtrC (voteK (a, a, b) n.1) (wi2 n) = (0 : Int))))) (w := true) [(221, .v y42 (wtrE a (wi2 n) 1065353216)), (222, .v y42 (wtrE (voteK (a, a, b) n.1) (wi2 n) 1065353216))] ⟨rfl, rfl, trivial⟩ rfl rfl .same .refl rfl (fun hgd => have g18_12 : (((decide ((dvE (a, a, b) n.1 2 i) = dvE (a, a, b) n.1 2 a.2.2.1.length)) && (decide (wtrC a (wi2 n) = (0 : Int)))) && (decide (wtrC (voteK (a, a, b) n.1) (wi2 n) = (0 : Int)))) = true := (by simpa using hgd); VF.call (rSameI_ok (by first | assumption | omega | simp) (by first | assumption | omega | simp))) ?_; refine VO.c (.and) (VO.c (.move rfl) ?_); refine VO.callg (r0 := ((((decide ((dvE (a, a, b) n.1 2 i) = dvE (a, a, b) n.1 2 a.2.2.1.length)) && (decide (wtrC a (wi2 n) = (0 : Int)))) && (decide (wtrC (voteK (a, a, b) n.1) (wi2 n) = (0 : Int)))) && (decide ((wtrE a (wi2 n) 1065353216) = (wtrE (voteK (a, a, b) n.1) (wi2 n) 1065353216))))) (w := true) [] trivial rfl rfl .same .refl rfl (fun _ => VF.call (awake_ok )) ?_; refine VO.c (.and) (VO.c (.assign rfl) (VO.go ?_)); refine VC.ret ?_; exact VEnd.one rfl evT (pvE (by rw [decide_eq_true (show dvE (a, a, b) n.1 2 i = dvE (a, a, b) n.1 2 a.2.2.1.length by rw [hil]), decide_eq_true hw0, decide_eq_true hw1, decide_eq_true hwe] <;> rfl))
end Go.Proofs
namespace Go.Fs
open Go.RowKit (Below)
variable {P : Program}
def orcB (fi fj fc : FuncId) (T : TypeId) : FuncId → List Value → Heap → Option (Value × Heap) := fun f xs h =>
  bif Nat.beq f fc then
    match xs with
    | [.pointer (some ⟨b, 0, none⟩)] =>
      match h.get b with
      | some (.row e [p, v] true false) =>
        bif Nat.beq e T then
          match p with
          | .pointer none => some (.tuple #[], h.set b (.row e [.pointer (some ⟨b, 0, none⟩), v] true false))
          | .pointer (some ⟨b', 0, none⟩) => bif Nat.beq b' b then some (.tuple #[], h) else none
          | _ => none
        else none
      | _ => none
    | _ => none
  else orcS fi fj f xs h
theorem orcB_sound {B : Nat} {w0 : World} {fi fj fc : FuncId} {T : TypeId} (hz : w0.drawn = 0) (hS : CallSound P B w0 (orcS fi fj)) (hc : Enters P fc)
    (hF : ∀ (b : Nat) (w : World), w.cell? ⟨b, 0, none⟩ = some (.pointer none) → w.shape? b = some (T, 2) → w.frozen? ⟨b, 0, none⟩ = false →
      Calls P fc #[.pointer (some ⟨b, 0, none⟩)] w fun e w' => e = .returned (.tuple #[]) ∧ w' = w.setCell ⟨b, 0, none⟩ (.pointer (some ⟨b, 0, none⟩)))
    (hU : ∀ (b : Nat) (w : World), w.cell? ⟨b, 0, none⟩ = some (.pointer (some ⟨b, 0, none⟩)) → Calls P fc #[.pointer (some ⟨b, 0, none⟩)] w fun e w' => e = .returned (.tuple #[]) ∧ w' = w) :
    CallSound P B w0 (orcB fi fj fc T) := by
  intro f xs h v h' hf; unfold orcB at hf
  cases hb : Nat.beq f fc with
  | false =>
    rw [hb] at hf
    exact hS f xs h v h' hf
  | true =>
    have := nbeq hb; subst this; rw [hb] at hf; simp only [cond_true] at hf; split at hf
    · rename_i b; split at hf
      · rename_i e p u hg; obtain ⟨he, hf2⟩ := bif_some hf; obtain rfl := nbeq he; refine ⟨hc, fun ρ S w args' hr ha nn => ?_⟩; obtain ⟨hsb, cur, k1, k2, k3, k4, k5, k6, k7⟩ := hr.objs b _ hg; have hcl : cur.length = 2 := (k6 rfl).symm
        match cur, hcl with
        | [p', u'], _ =>
        have hp : VR ρ S p p' := k7 0 (by simp); have hu : VR ρ S u u' := k7 1 (by simp)
        have hat : (ρ b).at 0 = ⟨(ρ b).block, 0, none⟩ := by unfold Loc.at; rw [k2]
        have harg : args' = [.pointer (some ⟨(ρ b).block, 0, none⟩)] := by
          have h1 := ha.1
          match args', h1 with
          | [a], _ =>
            have h2 : VR ρ S (.pointer (some ⟨b, 0, none⟩)) a := ha.2 0 (by simp); rw [h2.ptr_inv.2, hat]
        subst harg
        have hcell : w.cell? ⟨(ρ b).block, 0, none⟩ = some p' := by simp [World.cell?, k1]
        split at hf2
        · simp only [Option.some.injEq, Prod.mk.injEq] at hf2; obtain ⟨rfl, rfl⟩ := hf2; obtain rfl := hp.eq_of_af0 rfl; have hC : CallsIn Fence.wide nn P f #[.pointer (some ⟨(ρ b).block, 0, none⟩)] w _ := callsIn_wide.2 (hF (ρ b).block w hcell (by simp [World.shape?, k1]) (frozen_soft k1 (by rw [k3]; exact Nat.zero_lt_succ _))); refine hC.mono fun e2 w' hret => ?_; obtain ⟨rfl, rfl⟩ := hret; refine ⟨ρ, Moved.set hr hg rfl rfl rfl rfl rfl (by simp [World.setCell]) (fun k hk => ?_) ?_, VR.tuple' LR.nil⟩
          · simp only [World.setCell, Array.getElem?_modify]; rw [if_neg (fun e0 => hk e0.symm)]
          refine ⟨[.pointer (some ⟨(ρ b).block, 0, none⟩), u'], ?_, k2, k3, k4, Nat.le_refl _, fun _ => rfl, fun i hi => ?_⟩
          · simp only [World.setCell, Array.getElem?_modify, if_pos rfl, k1]; simp
          match i, hi with
          | 0, _ => show VR ρ S (.pointer (some ⟨b, 0, none⟩)) (.pointer (some ⟨(ρ b).block, 0, none⟩)); rw [← hat]; exact .ptr b 0 hsb
          | 1, _ => exact hu
        · rename_i b'; obtain ⟨hbb, hf3⟩ := bif_some hf2; obtain rfl := nbeq hbb; simp only [Option.some.injEq, Prod.mk.injEq] at hf3; obtain ⟨rfl, rfl⟩ := hf3; have hp2 := hp.ptr_inv.2; rw [hat] at hp2; subst hp2; have hC : CallsIn Fence.wide nn P f #[.pointer (some ⟨(ρ b').block, 0, none⟩)] w _ := callsIn_wide.2 (hU (ρ b').block w hcell); refine hC.mono fun e2 w' hret => ?_; obtain ⟨rfl, rfl⟩ := hret; exact ⟨ρ, Moved.same hr, VR.tuple' LR.nil⟩
        cases hf2
      cases hf
    cases hf
end Go.Fs
namespace Go.Fs
open Go.RowKit (Below)
variable {P : Program} {ops : Array Oper} {n : Nat}
def sameV : Value → Value → Bool
  | .int k a, .int k' b => decide (k = k') && decide (a = b)
  | .bool a, .bool b => decide (a = b)
  | _, _ => false
theorem sameV_eq {a b : Value} (h : sameV a b = true) : a = b := by
  unfold sameV at h; split at h
  · obtain ⟨h1, h2⟩ := band h; rw [of_decide_eq_true h1, of_decide_eq_true h2]
  · rw [of_decide_eq_true h]
  cases h
def sameL : List Value → List Value → Bool
  | [], [] => true
  | a :: r, b :: q => sameV a b && sameL r q
  | _, _ => false
theorem sameL_eq : ∀ {a b : List Value}, sameL a b = true → a = b
  | [], [], _ => rfl
  | [], _ :: _, h => by cases h
  | _ :: _, [], h => by cases h
  | a :: r, b :: q, h => by
    obtain ⟨h1, h2⟩ := band (h : (sameV a b && sameL r q) = true); rw [sameV_eq h1, sameL_eq h2]
def sameO : AObj → AObj → Bool
  | .row e cs o m, .row e' cs' o' m' => Nat.beq e e' && sameL cs cs' && decide (o = o') && decide (m = m')
  | _, _ => false
theorem sameO_eq {a b : AObj} (h : sameO a b = true) : a = b := by
  unfold sameO at h; split at h
  · obtain ⟨h, h1⟩ := band h; obtain ⟨h, h2⟩ := band h; obtain ⟨h, h3⟩ := band h; rw [nbeq h, sameL_eq h3, of_decide_eq_true h2, of_decide_eq_true h1]
  cases h
def okRd (rd : List (Nat × AObj)) (h : Heap) : Bool := rd.all fun p => match h.get p.1 with
  | some ob => sameO ob p.2
  | none => false
theorem stLook_mem {b : Nat} {ob : AObj} : ∀ {l : List (Nat × AObj)}, look l b = some ob → (b, ob) ∈ l
  | [], h => by cases h
  | (c, oc) :: r, h => by
    simp only [look] at h
    cases hc : Nat.beq c b with
    | true =>
      rw [hc] at h; simp only [cond_true, Option.some.injEq] at h
      rw [nbeq hc, h]; exact List.mem_cons_self
    | false =>
      rw [hc] at h; simp only [cond_false] at h; exact List.mem_cons_of_mem _ (stLook_mem h)
theorem okRd_get {rd : List (Nat × AObj)} {h : Heap} (hk : okRd rd h = true) {b : Nat} {ob : AObj} (hl : look rd b = some ob) : h.get b = some ob := by
  have := List.all_eq_true.1 hk _ (stLook_mem hl); simp only at this; split at this
  · rename_i o2 hg; rw [hg, sameO_eq this]
  cases this
def stillR (P : Program) (rd : List (Nat × AObj)) (ops : Array Oper) (n : Nat) (o : Oper) (s : DSt) : Option DSt :=
  match fsWanted ops s.t o, o.op with
  | some true, .load T a =>
    match evalO s.t a with
    | .pointer (some p) =>
      match look rd p.block with
      | some ob =>
        match fsLoad P T (evalO s.t a) { next := s.h.next, low := s.h.next, objs := [(p.block, ob)] } with
        | some v => (put n s.t o.dst v).map fun t => { s with t, bs := s.bs ++ [beforeOf s.bs o] }
        | none => none
      | none => none
    | _ => none
  | _, _ => none
def fsDrawnY (P : Program) (rd : List (Nat × AObj)) (step : Oper → (Operand → Value) → Heap → Option (Value × Heap)) (ops : Array Oper) (n : Nat) : List Oper → Nat → DSt → Option DSt
  | [], _, s => bif okRd rd s.h then some s else none
  | o :: r, i, s => bif okRd rd s.h then
      match fsDraw step ops n o i s with
      | some s' => fsDrawnY P rd step ops n r (i + 1) s'
      | none => match stillR P rd ops n o s with
        | some s' => fsDrawnY P rd step ops n r (i + 1) s'
        | none => none
    else none
def fsReads (P : Program) (h0 : Heap) (step : Oper → (Operand → Value) → Heap → Option (Value × Heap)) (ops : Array Oper) (n : Nat) : List Oper → Nat → DSt → List (Nat × AObj) → List (Nat × AObj)
  | [], _, _, l => l
  | o :: r, i, s, l => match fsDraw step ops n o i s with
    | some s' => fsReads P h0 step ops n r (i + 1) s' l
    | none => match stillO P h0 ops n o s with
      | some (s', b) => match h0.get (b - 1) with
        | some ob => fsReads P h0 step ops n r (i + 1) s' ((b - 1, ob) :: l)
        | none => l
      | none => l
def drawnY (P : Program) (h0 : Heap) (step : Oper → (Operand → Value) → Heap → Option (Value × Heap)) (ops : Array Oper) (n : Nat) (s : DSt) (rd : List (Nat × AObj)) : Option DSt :=
  bif rd.all fun p => Nat.blt p.1 h0.next then fsDrawnY P rd step ops n ops.toList 0 s else none
theorem stillR_of {call : FuncId → List Value → Heap → Option (Value × Heap)} {yield : Nat → List Value → Heap → Option (Value × Heap)} {X : Nat → AObj → Prop} {rd : List (Nat × AObj)} {o : Oper} {i : Nat} {s s' : DSt}
    (hf : stillR P rd ops n o s = some s') (hX : ∀ c ob, look rd c = some ob → X c ob) :
    s'.bs = s.bs ++ [beforeOf s.bs o] ∧ Did (fsOp P call yield) ops n X o i s s' := by
  unfold stillR at hf; split at hf
  · rename_i T a hw hop; split at hf
    · rename_i p hev; split at hf
      · rename_i ob hg; split at hf
        · rename_i v hv; obtain ⟨t, h3, h4⟩ := Option.map_eq_some_iff.1 hf; subst h4; refine ⟨rfl, .still hw v [(p.block, ob)] (fun c oc hc => ?_) ?_ h3 rfl rfl rfl rfl⟩
          · simp only [look] at hc
            cases hbc : Nat.beq p.block c with
            | true =>
              rw [hbc] at hc; simp only [cond_true, Option.some.injEq] at hc; obtain rfl := nbeq hbc; subst hc
              exact hX _ _ hg
            | false => rw [hbc] at hc; cases hc
          unfold fsOp; rw [hop]; simp only [hv, Option.map_some]
        cases hf
      cases hf
    cases hf
  cases hf
theorem drawnY_trace {call : FuncId → List Value → Heap → Option (Value × Heap)} {yield : Nat → List Value → Heap → Option (Value × Heap)} {rd : List (Nat × AObj)} : ∀ (l : List Oper) (i : Nat) (s s' : DSt), fsDrawnY P rd (fsOp P call yield) ops n l i s = some s' →
    ∃ st : Nat → DSt, st i = s ∧ st (i + l.length) = s' ∧ (∀ q, i ≤ q → q ≤ i + l.length → okRd rd (st q).h = true) ∧
    ∀ j o, l[j]? = some o → ∀ X : Nat → AObj → Prop, (∀ c ob, look rd c = some ob → X c ob) → (st (i + j + 1)).bs = (st (i + j)).bs ++ [beforeOf (st (i + j)).bs o] ∧ Did (fsOp P call yield) ops n X o (i + j) (st (i + j)) (st (i + j + 1))
  | [], i, s, s', h => by
    simp only [fsDrawnY] at h; obtain ⟨h1, h2⟩ := bif_some h; simp only [Option.some.injEq] at h2; subst h2
    exact ⟨fun _ => s, rfl, rfl, fun _ _ _ => h1, fun j o hj => by simp at hj⟩
  | o :: l, i, s, s', h => by
    simp only [fsDrawnY] at h; obtain ⟨hok, h⟩ := bif_some h
    have key : ∀ s1, fsDrawnY P rd (fsOp P call yield) ops n l (i + 1) s1 = some s' →
        (∀ X : Nat → AObj → Prop, (∀ c ob, look rd c = some ob → X c ob) → s1.bs = s.bs ++ [beforeOf s.bs o] ∧ Did (fsOp P call yield) ops n X o i s s1) →
      ∃ st : Nat → DSt, st i = s ∧ st (i + (o :: l).length) = s' ∧ (∀ q, i ≤ q → q ≤ i + (o :: l).length → okRd rd (st q).h = true) ∧
        ∀ j o', (o :: l)[j]? = some o' → ∀ X : Nat → AObj → Prop, (∀ c ob, look rd c = some ob → X c ob) → (st (i + j + 1)).bs = (st (i + j)).bs ++ [beforeOf (st (i + j)).bs o'] ∧ Did (fsOp P call yield) ops n X o' (i + j) (st (i + j)) (st (i + j + 1)) := fun s1 hr hd => by
      obtain ⟨st, h1, h2, hq, h3⟩ := drawnY_trace l (i + 1) s1 s' hr; refine ⟨fun k => if k = i then s else st k, by simp, ?_, fun q hq1 hq2 => ?_, fun j o' hj X hX => ?_⟩
      · simp only [List.length_cons]; rw [if_neg (by omega), ← h2]; congr 1; omega
      · rw [List.length_cons] at hq2; by_cases e : q = i
        · subst e; simpa using hok
        simp only [if_neg e]; exact hq q (by omega) (by omega)
      cases j with
      | zero =>
        simp at hj; subst hj
        simpa [h1] using hd X hX
      | succ j =>
        simp only [List.getElem?_cons_succ] at hj; have := h3 j o' hj X hX; rw [show i + 1 + j = i + (j + 1) by omega] at this; simp only; rw [if_neg (by omega), if_neg (by omega)]; exact this
    split at h
    · rename_i s1 hs1; exact key s1 h fun X _ => did_of hs1
    split at h
    · rename_i s1 hs1; exact key s1 h fun X hX => stillR_of hs1 hX
    cases h
theorem traceY_of {call : FuncId → List Value → Heap → Option (Value × Heap)} {yield : Nat → List Value → Heap → Option (Value × Heap)} {t0 : Tr} {h0 : Heap} {s : DSt} {rd : List (Nat × AObj)} (h : drawnY P h0 (fsOp P call yield) ops n ⟨t0, h0, [], [], 0, false⟩ rd = some s) : ∃ st, Trace (fsOp P call yield) ops n st t0 h0 ∧ st ops.size = s := by
  unfold drawnY at h; obtain ⟨hb, h⟩ := bif_some h; obtain ⟨st, h1, h2, hq, h3⟩ := drawnY_trace _ _ _ _ h
  have h2' : st ops.size = s := by simpa using h2
  refine ⟨st, ⟨h1, fun i o ho => ?_⟩, h2'⟩; have := h3 i o (by simpa using ho) (fun b ob => h0.get b = some ob ∧ b < h0.next ∧ (b < (st ops.size).h.low ∨ ∀ q, q ≤ ops.size → (st q).h.get b = some ob)) (fun c ob hc => ?_)
  · simpa only [Nat.zero_add] using this
  have hall : ∀ q, q ≤ ops.size → (st q).h.get c = some ob := fun q hq2 => okRd_get (hq q (Nat.zero_le _) (by simpa using hq2)) hc; have h0 := hall 0 (Nat.zero_le _); rw [h1] at h0; exact ⟨h0, nblt (List.all_eq_true.1 hb _ (stLook_mem hc)), .inr hall⟩
variable {B : Nat} {w0 : World} {S : Nat → Prop} {ρ0 : Ren} {call : FuncId → List Value → Heap → Option (Value × Heap)} {yield : Nat → List Value → Heap → Option (Value × Heap)} {t0 : Tr} {h0 : Heap}
theorem drawn_wpY (hcs : CallSnd P B w0 call) (hys : YieldSound P B w0 yield) (hok : regionOk ops = true) {s : DSt} {rd : List (Nat × AObj)} (hf : drawnY P h0 (fsOp P call yield) ops n ⟨t0, h0, [], [], 0, false⟩ rd = some s)
    {w : World} {a : Act} (hr : HR P ρ0 S B w0 h0 w) (ht : TrR ρ0 S t0 n a.tmps) {r : Option Nat} {nn : Nat} {Q : Exit → Act → World → Prop}
    (k : ∀ ρ' w' a', Moved P B w0 ρ0 ρ' S h0 s.h w w' → TrR ρ' (Ext S h0 s.h) s.t n a'.tmps → a'.defers = a.defers → Q .normal a' w') (t : Nat) :
    wpOpsIn (Wide r) nn P ops Q (Region.schedule true ops t) a w := drawn_wpT hcs hys hok (traceY_of hf) hr ht k t
end Go.Fs
namespace Go.Fs
open Go.RowKit (Below)
variable {P : Program} {B : Nat} {w0 : World}
def fsStepX (P : Program) (orc : FuncId → List Value → Heap → Option (Value × Heap)) (rec : Rec) : Rec := fun rnd c fr h =>
  match c with
  | .region _ ops true => match drawnX P { next := h.next, low := h.next, objs := h.objs } (fsOp P (callOf P orc rec) (fsYield rec)) ops fr.n ⟨fr.t, { next := h.next, low := h.next, objs := h.objs }, [], [], 0, false⟩ with
    | some s => some (.normal, { t := s.t, n := fr.n, marks := fr.marks }, { next := s.h.next, low := min h.low s.h.low, objs := s.h.objs })
    | none => match drawnY P { next := h.next, low := h.next, objs := h.objs } (fsOp P (callOf P orc rec) (fsYield rec)) ops fr.n ⟨fr.t, { next := h.next, low := h.next, objs := h.objs }, [], [], 0, false⟩ (fsReads P { next := h.next, low := h.next, objs := h.objs } (fsOp P (callOf P orc rec) (fsYield rec)) ops fr.n ops.toList 0 ⟨fr.t, { next := h.next, low := h.next, objs := h.objs }, [], [], 0, false⟩ []) with
      | some s => some (.normal, { t := s.t, n := fr.n, marks := fr.marks }, { next := s.h.next, low := min h.low s.h.low, objs := s.h.objs })
      | none => fsStep P orc rec rnd c fr h
  | c => fsStep P orc rec rnd c fr h
def fsCodeX (P : Program) (orc : FuncId → List Value → Heap → Option (Value × Heap)) : Nat → Rec
  | 0 => fun _ _ _ _ => none
  | n + 1 => fsStepX P orc (fsCodeX P orc n)
theorem HR.low {ρ : Ren} {S : Nat → Prop} {h : Heap} {w : World} (hr : HR P ρ S B w0 h w) (l : Nat) : HR P ρ S B w0 { next := h.next, low := l, objs := h.objs } w :=
  { objs := hr.objs, inj := hr.inj, base := hr.base, ro := hr.ro, ids := hr.ids, pos := hr.pos, below := hr.below, drawn := hr.drawn, size := hr.size }
theorem Moved.lowered {ρ ρ' : Ren} {S : Nat → Prop} {h h' : Heap} {w w' : World} {l : Nat} (m : Moved P B w0 ρ ρ' S { next := h.next, low := l, objs := h.objs } h' w w') :
    Moved P B w0 ρ ρ' S h { next := h'.next, low := min h.low h'.low, objs := h'.objs } w w' where
  agree := m.agree
  next := m.next
  hr := m.hr.low _
  frame := ⟨m.frame.os, m.frame.tape, m.frame.output, m.frame.size, m.frame.block⟩
  low := Nat.min_le_left _ _
  keep := fun i hi hl => m.keep i hi (Nat.lt_of_lt_of_le hl (Nat.min_le_right _ _))
  old := m.old
  fresh := fun i o ho hi => by
    obtain ⟨h1, h2⟩ := m.fresh i o ho hi; refine ⟨h1, ?_⟩; rcases h2 with h2 | ⟨j, oj, h3, h4, h5, h6, h7⟩
    · exact .inl h2
    exact .inr ⟨j, oj, h3, h4, h5, Nat.le_trans (Nat.min_le_right _ _) h6, h7⟩
theorem stepX_sound (hP : ProgOk P) {orc : FuncId → List Value → Heap → Option (Value × Heap)} (horc : CallSound P B w0 orc) {m : Nat} {rec : Rec} (hrec : SoundR P B w0 m rec) : SoundR P B w0 (m + 1) (fsStepX P orc rec) := by
  have hcs : CallSnd P B w0 (callOf P orc rec) := call_sound hP horc hrec; have hys : YieldSound P B w0 (fsYield rec) := yield_sound hrec; have hold := step_sound hP horc hrec; intro rnd c fr h e fr' h' hok hf
  cases c with
  | region id ops draw =>
    cases draw with
    | false => exact hold rnd _ fr h e fr' h' hok hf
    | true =>
      intro ρ S w a nn Q hr ht hm hs k; simp only [fsStepX] at hf; split at hf
      · rename_i s hrun; simp only [Option.some.injEq, Prod.mk.injEq] at hf; obtain ⟨rfl, rfl, rfl⟩ := hf; refine wpIn_region_draw fun t => ?_; rw [hP.mixed]; exact drawn_wpX (h0 := { next := h.next, low := h.next, objs := h.objs }) (call := callOf P orc rec) (yield := fsYield rec) hcs hys hok hrun ((hr.drew _).low _) ht (fun ρ1 w1 a1 m1 ht1 hd1 => k _ _ _ ⟨(Moved.ofDrew m1).lowered, ht1, by rw [hd1]; exact hm.mono fun b hb => ⟨.inl hb, m1.agree b hb⟩⟩) t
      split at hf
      · rename_i s hrun; simp only [Option.some.injEq, Prod.mk.injEq] at hf; obtain ⟨rfl, rfl, rfl⟩ := hf; refine wpIn_region_draw fun t => ?_; rw [hP.mixed]; exact drawn_wpY (h0 := { next := h.next, low := h.next, objs := h.objs }) (call := callOf P orc rec) (yield := fsYield rec) hcs hys hok hrun ((hr.drew _).low _) ht (fun ρ1 w1 a1 m1 ht1 hd1 => k _ _ _ ⟨(Moved.ofDrew m1).lowered, ht1, by rw [hd1]; exact hm.mono fun b hb => ⟨.inl hb, m1.agree b hb⟩⟩) t
      exact hold rnd _ fr h e fr' h' hok hf ρ S w a nn Q hr ht hm hs k
  | _ => exact hold rnd _ fr h e fr' h' hok hf
theorem codeX_sound (hP : ProgOk P) {orc : FuncId → List Value → Heap → Option (Value × Heap)} (horc : CallSound P B w0 orc) : ∀ m, SoundR P B w0 m (fsCodeX P orc m)
  | 0 => fun rnd c fr h e fr' h' _ hf => by cases hf
  | m + 1 => stepX_sound hP horc (codeX_sound hP horc m)
theorem fsX_calls (hP : ProgOk P) {orc : FuncId → List Value → Heap → Option (Value × Heap)} (horc : CallSound P B w0 orc) (m : Nat) : CallSound P B w0 (fsEnter P (fsCodeX P orc m)) := enter_sound hP (codeX_sound hP horc m)
theorem fsX_closed (hP : ProgOk P) {w : World} {orc : FuncId → List Value → Heap → Option (Value × Heap)} (horc : CallSound P w.heap.size (wz w) orc) {m : Nat} {f : FuncId} {args : List Value} {v : Value} (ha : args.all af = true)
    (hf : (fsEnter P (fsCodeX P orc m) f args ⟨1, 1, []⟩).map (·.1) = some v) (hv : af v = true) :
    Calls P f args.toArray w fun | .returned v', w' => v' = v ∧ Below w.heap.size w w' | _, _ => False := by
  obtain ⟨⟨v0, h0⟩, h1, h2⟩ := Option.map_eq_some_iff.1 hf; simp only at h2; subst h2
  have hr : HR P (fun _ => Loc.clean 0 0 0 0) (fun _ => False) w.heap.size (wz w) ⟨1, 1, []⟩ w :=
    { objs := fun i o hi => (by cases hi), inj := fun i j oi oj hi => (by cases hi), base := fun i o hi => (by cases hi), ro := fun i o hi => (by cases hi), ids := fun b hb => hb.elim, pos := by decide,
      below := z_below (Below.refl _ _), drawn := Nat.zero_le _, size := Nat.le_refl _ }
  have hc := ((fsX_calls hP horc m) f args _ _ _ h1).2 _ _ w args hr ⟨rfl, fun i hi => .of_af (List.all_eq_true.1 ha _ (mem_getD hi))⟩ 0; refine Calls.mono (callsIn_wide.1 hc) fun e w' he => ?_
  cases e with
  | returned v' =>
    obtain ⟨ρ', m1, hv1⟩ := he
    exact ⟨hv1.eq_of_af hv, below_z m1.hr.below⟩
  | panicked c => exact he.elim
  | outgrown => exact he.elim
theorem awakeX_calls (hP : ProgOk P) {B : Nat} {w0 : World} {O : FuncId → List Value → Heap → Option (Value × Heap)} {fa : FuncId} (hS : ∀ w, Below B w0 w → CallSound P w.heap.size (wz w) O) {m : Nat}
    (hrun : (fsEnter P (fsCodeX P O m) fa [] ⟨1, 1, []⟩).map (·.1) = some (.bool true)) (w : World) (hw : Below B w0 w) :
    Calls P fa #[] w fun | .returned v', w' => v' = .bool true ∧ Below w.heap.size w w' | _, _ => False :=
  fsX_closed hP (hS w hw) (args := []) rfl hrun rfl
end Go.Fs
namespace Go.Fs
variable {P : Program} {orc : FuncId → List Value → Heap → Option (Value × Heap)}
end Go.Fs
namespace Go.Fs
open Go.RowKit (Below)
variable {P : Program} {B : Nat} {w0 : World}
theorem orcI_sound {fi : FuncId} (hz : w0.drawn = 0) (hi : Enters P fi)
    (hI : ∀ (n : Int) (w : World), Below B w0 w → -9223372036854775808 ≤ n → n ≤ 9223372036854775807 → Calls P fi #[.int .i64 n] w fun e w' => e = .returned (.string ⟨(Lib.itoa n).toArray⟩) ∧ Below w.heap.size w w') : CallSound P B w0 (orcS fi fi) := by
  intro f xs h v h' hf; unfold orcS at hf
  cases hfi : Nat.beq f fi with
  | true =>
    have := nbeq hfi; subst this; rw [hfi] at hf; simp only [cond_true] at hf; split at hf
    · rename_i n; obtain ⟨hc, hf2⟩ := bif_some hf; obtain ⟨h0, h1⟩ := band hc; have h0 := of_decide_eq_true h0; have h1 := of_decide_eq_true h1; simp only [Option.some.injEq, Prod.mk.injEq] at hf2; obtain ⟨rfl, rfl⟩ := hf2; refine ⟨hi, fun ρ S w args' hr ha nn => ?_⟩; have he : args' = [.int .i64 n] := ha.eq_of_af (by rfl); subst he; have hC : CallsIn Fence.wide nn P f #[.int .i64 n] w _ := callsIn_wide.2 (hI n w hr.below (by omega) (by omega)); refine hC.mono fun e w' hret => ?_; obtain ⟨rfl, hb⟩ := hret; exact ⟨ρ, Moved.grewWorld hr hb (by rw [hz]; exact Nat.zero_le _), by rw [itoaF_eq h0 h1]; exact .lit rfl⟩
    cases hf
  | false =>
    rw [hfi] at hf; simp only [cond_false] at hf; cases hf
end Go.Fs
