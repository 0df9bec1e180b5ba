/- Parts of the proof: an evaluator of the model, what it is sound for, and contracts of functions. No condition. -/
import Derived.Test.YtgkcodkgcnbdeabGreatDoorP1
import Derived.RangeFuncRecord
import Derived.LoopNIn
import Derived.Test.YtgkcodkgcnbdeabGreatDoorP0
import Derived.KernelRfl
set_option linter.all false
namespace Go.Fs
open Go.RowKit (Below)
variable {P : Program}
section
variable {call : FuncId → List Value → Heap → Option (Value × Heap)} {yield : Nat → List Value → Heap → Option (Value × Heap)} {ops : Array Oper} {n : Nat} {st : Nat → DSt} {t0 : Tr} {h0 : Heap}
variable {S : Nat → Prop} {ρ0 : Ren} {B : Nat} {w0 ws : World} {d0 : List Deferred}
theorem HR.empty {ρ : Ren} {S S1 : Nat → Prop} {H : Heap} {w : World} (hr : HR P ρ S B w0 H w) (h1 : ∀ b, S1 b → S b) {nx : Nat} (hnx : ∀ b, S1 b → b < nx) (hpos : 0 < nx) :
    HR P ρ S1 B w0 { next := nx, low := nx, objs := [] } w where
  objs := fun i o hi => by cases hi
  inj := fun i j oi oj hi => by cases hi
  base := fun i o hi => by cases hi
  ro := fun i o hi => by cases hi
  ids := fun b hb => ⟨hnx b hb, (hr.ids b (h1 b hb)).2⟩
  pos := hpos
  below := hr.below
  drawn := hr.drawn
  size := hr.size
theorem Moved.selfS {ρ : Ren} {H : Heap} {w : World} {L : Nat} (hr : HR P ρ S B w0 H w) : MovedS P B w0 ρ ρ S S H H L w w where
  agree := fun _ _ => rfl
  sub := fun _ hb => hb
  hr := hr
  frame := Frame.refl _ _ _
  keep := fun _ _ _ => rfl
  old := fun _ o ho _ => ⟨o, ho, rfl⟩
  fresh := fun i o ho hS => absurd (hr.objs i o ho).1 hS
theorem drawn_go (hst0 : HR P ρ0 S B w0 h0 ws) (hcs : CallSnd P B w0 call) (hys : YieldSound P B w0 yield) (T : Trace (fsOp P call yield) ops n st t0 h0) (hed : EdgesOk ops) (hdst : DstOk ops) (hn : n ≤ 4000) (hrd : ReadsOk st ops)
    (h0ids : ∀ b, S b → b < h0.next) (h0S : ∀ b o, h0.get b = some o → S b) (hpos0 : 0 < h0.next) {r : Option Nat} {nn : Nat} {Q : Exit → Act → World → Prop}
    (k : ∀ E ρ H w a, (∀ i, i < ops.size → E i = true) → Inv P B w0 st ops n t0 h0 S ρ0 ws d0 E ρ H w a → Q .normal a w) :
    ∀ (E : Nat → Bool) (l : List Nat), Sched ops E l → ∀ ρ H w a, Inv P B w0 st ops n t0 h0 S ρ0 ws d0 E ρ H w a → wpOpsIn (Wide r) nn P ops Q l a w := by
  intro E l hs
  induction hs with
  | nil E hall => intro ρ H w a I; exact k E ρ H w a hall I
  | cons E i o l ho hE he _ ih =>
    intro ρ H w a I; have hi : i < ops.size := (Array.getElem?_eq_some_iff.1 ho).1; have hbf := T.bf_done hed I.down ho he; have hlook := I.tmp.look T hed hdst hn hrd I.down ho hE he; have hev := eval_of_look hlook
    have hwant : ∀ b, fsWanted ops (st i).t o = some b → Region.wanted o (yielded ops a.tmps) = b := fun b hb => wanted_ok (fun j want d hg hd => by
      refine hlook d ?_; unfold Oper.looksAt; refine List.mem_append_right _ ?_; rw [hg]
      simp [hd]) hb
    have h0n : h0.next ≤ (st i).h.next := by have := T.next 0 i (by omega) (by omega); rwa [T.zero] at this
    have hidsB : ∀ b, SB st ops S i b → b < (st i).h.next := T.ids_lt h0ids (by omega) (T.bf_lt hed i); simp only [wpOpsIn, ho]; have hdid := (T.did i o ho).2
    cases hdid with
    | skip hw hp hh hs hm ht =>
      rw [if_neg (by rw [hwant _ hw]; simp)]; refine ⟨wide_about, ?_⟩; have hnm : ¬ isMem st ops i := fun h => h.2 (by rw [hs])
      exact ih ρ H w _ (I.quiet ho hnm hh hbf (fun _ _ => rfl) (Moved.selfS I.moved.hr) (I.tmp.put hdst hn I.down (fun _ _ => rfl) ho hE hp VR.undef) (put_defers _ _ _))
    | calm hw hc v h' hst hnx hp hh hs hm ht =>
      rw [if_pos (hwant _ hw)]; have hnm : ¬ isMem st ops i := fun h => h.2 (by rw [hs]); have hsub1 : ∀ b, SB st ops S i b → SE st ops S E b := fun b hb => idsOf_mono hbf b hb; have hrm := I.moved.hr.empty hsub1 hidsB (by omega : 0 < (st i).h.next); refine op_wp hcs hys hrm hev hst fun ρ1 w1 v1 m hv => ?_
      have hfr := framed (H2 := H) (S2 := SE st ops S E) (L := min (st ops.size).h.low h0.next) I.moved.hr hsub1 (fun b o' hg => by cases hg) hrm m (fun b h1 h2 => by
          have h3 : (st i).h.next ≤ b := h1
          omega) (fun b => ⟨.inl, fun h => by
            rcases h with h | ⟨h1, h2⟩
            · exact h
            have h3 : (st i).h.next ≤ b := h1
            omega⟩) (fun b hb => (I.moved.hr.ids b hb).1) I.moved.hr.pos
        (fun b o' hb hg => absurd (I.moved.hr.objs b o' hg).1 hb) (fun b o' hb hg => .inr ⟨rfl, hg⟩) (fun b o' hb hg => absurd (I.moved.hr.objs b o' hg).1 hb) (fun _ _ _ => rfl)
      have hag : ∀ b, SE st ops S E b → glue (SE st ops S E) ρ ρ1 b = ρ b := fun b hb => glue_in hb; refine ih _ H w1 _ (I.quiet ho hnm hh hbf hag hfr (I.tmp.put hdst hn I.down hag ho hE hp (hv.mono fun b hb => ?_)) (put_defers _ _ _)); rcases hb with hb | ⟨h1, h2⟩
      · exact ⟨idsOf_mono (fun m hm => .inr hm) b hb, by rw [glue_in (hsub1 b hb), m.agree b hb]⟩
      have h3 : (st i).h.next ≤ b := h1
      omega
    | still hw v objs hX hst hp hh hs hm ht =>
      rw [if_pos (hwant _ hw)]; have hnm : ¬ isMem st ops i := fun h => h.2 (by rw [hs]); have hsub1 : ∀ b, SB st ops S i b → SE st ops S E b := fun b hb => idsOf_mono hbf b hb; have hSb : ∀ b ob, look objs b = some ob → S b := fun b ob hl => h0S b ob (hX b ob hl).1
      have hHb : ∀ b ob, look objs b = some ob → H.get b = some ob := fun b ob hl => by
        obtain ⟨hX1, hX2, hX3⟩ := hX b ob hl; rcases hX3 with hX3 | hX3
        · rw [I.moved.keep b (hSb b ob hl) (by omega)]; exact hX1
        rcases I.mode with A | ⟨p, Bm⟩
        · rw [A.base b hX2]; exact hX1
        rw [Bm.get b]; exact hX3 p Bm.le
      have hrm : HR P ρ (SB st ops S i) B w0 { next := (st i).h.next, low := (st i).h.next, objs := objs } w := {
        objs := fun c oc hc => by
          have hS := hSb c oc hc; refine ⟨.inl hS, ?_⟩; have h1 := (hst0.objs c oc (hX c oc hc).1).2; have h2 := (I.moved.hr.objs c oc (hHb c oc hc)).2; have h3 := I.moved.agree c hS; rw [← h3] at h1; exact (h1.keepS h2 I.moved.agree).mono fun c hc => ⟨.inl hc, I.moved.agree c hc⟩
        inj := fun c d oc od hc hd => I.moved.hr.inj c d oc od (hHb c oc hc) (hHb d od hd)
        base := fun c oc hc => I.moved.hr.base c oc (hHb c oc hc)
        ro := fun c oc hc => I.moved.hr.ro c oc (hHb c oc hc)
        ids := fun c hc => ⟨hidsB c hc, (I.moved.hr.ids c (hsub1 c hc)).2⟩
        pos := (by omega : 0 < (st i).h.next)
        below := I.moved.hr.below
        drawn := I.moved.hr.drawn
        size := I.moved.hr.size }
      refine op_wp hcs hys hrm hev hst fun ρ1 w1 v1 m hv => ?_
      have hfr := framed (H2 := H) (S2 := SE st ops S E) (L := min (st ops.size).h.low h0.next) I.moved.hr hsub1 (hm := { next := (st i).h.next, low := (st i).h.next, objs := objs }) hHb hrm m (fun b h1 h2 => by
          have h3 : (st i).h.next ≤ b := h1; have h4 : b < (st i).h.next := h2
          omega) (fun b => ⟨.inl, fun h => by
            rcases h with h | ⟨h1, h2⟩
            · exact h
            have h3 : (st i).h.next ≤ b := h1; have h4 : b < (st i).h.next := h2
            omega⟩) (fun b hb => (I.moved.hr.ids b hb).1) I.moved.hr.pos
        (fun b o' hb hg => absurd (I.moved.hr.objs b o' hg).1 hb) (fun c oc hc hg => by
          cases hq : look objs c with
          | none => exact .inr ⟨hq, hg⟩
          | some o2 =>
            have h3 := hHb c o2 hq; rw [hg] at h3; injection h3 with h3; subst h3
            exact .inl ⟨by show look objs c ≠ none; rw [hq]; simp, hq⟩) (fun b o' hb hg => absurd (I.moved.hr.objs b o' hg).1 hb) (fun _ _ _ => rfl)
      have hag : ∀ b, SE st ops S E b → glue (SE st ops S E) ρ ρ1 b = ρ b := fun b hb => glue_in hb; refine ih _ H w1 _ (I.quiet ho hnm hh hbf hag hfr (I.tmp.put hdst hn I.down hag ho hE hp (hv.mono fun b hb => ?_)) (put_defers _ _ _)); rcases hb with hb | ⟨h1, h2⟩
      · exact ⟨idsOf_mono (fun m hm => .inr hm) b hb, by rw [glue_in (hsub1 b hb), m.agree b hb]⟩
      have h3 : (st i).h.next ≤ b := h1; have h4 : b < (st i).h.next := h2
      omega
    | mem hw hc v h' ord hord htail hst hnn hp hm hs hnx hk =>
      rw [if_pos (hwant _ hw)]; have hmi : isMem st ops i := ⟨hi, by rw [hs]; simp⟩; obtain ⟨hrm, hgo⟩ := I.memStep T hed h0ids h0S hpos0 ho hE hmi hbf hord htail (v := v) hnx hnn hk; refine op_wp hcs hys hrm hev hst fun ρ1 w1 v1 m hv => ?_; obtain ⟨ρ2, H2, I2⟩ := hgo ρ1 w1 v1 (a.put o.dst v1) m hv (put_defers _ _ _) fun ρ2 hag hv2 => I.tmp.put hdst hn I.down hag ho hE hp hv2; exact ih ρ2 H2 w1 _ I2
theorem Inv.end {E : Nat → Bool} {ρ : Ren} {H : Heap} {w : World} {a : Act} {step : Oper → (Operand → Value) → Heap → Option (Value × Heap)} (T : Trace step ops n st t0 h0) (hdst : DstOk ops) (hn : n ≤ 4000)
    (h0ids : ∀ b, S b → b < h0.next) (h0S : ∀ b o, h0.get b = some o → S b) (I : Inv P B w0 st ops n t0 h0 S ρ0 ws d0 E ρ H w a) (hall : ∀ i, i < ops.size → E i = true) :
    Moved P B w0 ρ0 ρ S h0 (st ops.size).h ws w ∧ TrR ρ (Ext S h0 (st ops.size).h) (st ops.size).t n a.tmps := by
  have hM := I.moved; have hHR := hM.hr
  have h0n : h0.next ≤ (st ops.size).h.next := by have := T.next 0 ops.size (by omega) (by omega); rwa [T.zero] at this
  have hSE : ∀ b, SE st ops S E b → Ext S h0 (st ops.size).h b := fun b hb => by
    rcases hb with hb | ⟨m, h1, h2, h3⟩
    · exact .inl hb
    refine .inr ⟨T.seg_ge h2 h3, ?_⟩; have := T.next (m + 1) ops.size (by omega) (by omega); exact Nat.lt_of_lt_of_le h3.2 this
  have hSlt : ∀ b, SE st ops S E b → b < h0.next → S b := fun b hb hlt => by
    rcases hb with hb | ⟨m, h1, h2, h3⟩
    · exact hb
    have := T.seg_ge h2 h3; omega
  -- the same objects
  have hget : ∀ b, (st ops.size).h.get b = H.get b := fun b => by
    rcases I.mode with A | ⟨p, Bm⟩
    · have ht : (st ops.size).tail = false := by
        cases h : (st ops.size).tail with
        | false => rfl
        | true =>
          obtain ⟨k, h1, h2, h3⟩ := T.tail_from ops.size (by omega) h; rw [A.calm k (hall k h1) h2] at h3; cases h3
      obtain ⟨sb1, sb2, sb3⟩ := T.stable (fun b o' hg => h0ids b (h0S b o' hg)) ops.size (by omega) ht; by_cases h1 : b < h0.next
      · rw [sb1 b h1, A.base b h1]
      by_cases h2 : b < (st ops.size).h.next
      · obtain ⟨m, h3, h4⟩ := T.cover ops.size (by omega) b (by omega) h2; rw [sb2 m h3 b h4, A.news m (hall m h3) h3 b h4]
      have e1 : (st ops.size).h.get b = none := by
        cases hq : (st ops.size).h.get b with
        | none => rfl
        | some o => have := sb3 b o hq; omega
      have e2 : H.get b = none := by
        cases hq : H.get b with
        | none => rfl
        | some o =>
          have h3 := hSE b (hHR.objs b o hq).1; rcases h3 with h3 | h3
          · have := h0ids b h3; omega
          omega
      rw [e1, e2]
    rw [Bm.get b]
    have hqh : ∀ q, p ≤ q → q ≤ ops.size → (st q).h = (st p).h := fun q => by
      induction q with
      | zero => intro h1 _; have : p = 0 := by omega
                subst this; rfl
      | succ q ih =>
        intro h1 h2; by_cases hq : p = q + 1
        · subst hq; rfl
        have hqo : ops[q]? = some ops[q] := Array.getElem?_eq_getElem (by omega); rcases T.mem_or q _ hqo with ⟨h3, _⟩ | ⟨_, _, _, h3, _⟩
        · exfalso; have := (Bm.all q h3).1 (hall q (by omega)); omega
        rw [h3]; exact ih (by omega) (by omega)
    rw [hqh ops.size Bm.le (Nat.le_refl _)]
  refine ⟨{
    agree := hM.agree
    next := h0n
    hr := {
      objs := fun i o hi => by
        rw [hget] at hi; obtain ⟨h1, h2⟩ := hHR.objs i o hi; exact ⟨hSE i h1, h2.mono fun b hb => ⟨hSE b hb, rfl⟩⟩
      inj := fun i j oi oj hi hj => by rw [hget] at hi hj; exact hHR.inj i j oi oj hi hj
      base := fun i o hi => by rw [hget] at hi; exact hHR.base i o hi
      ro := fun i o hi => by rw [hget] at hi; exact hHR.ro i o hi
      ids := fun b hb => by
        rcases hb with hb | hb
        · have := h0ids b hb; exact ⟨by omega, (hHR.ids b (hM.sub b hb)).2⟩
        obtain ⟨m, h3, h4⟩ := T.cover ops.size (by omega) b hb.1 hb.2; exact ⟨hb.2, (hHR.ids b (.inr ⟨m, hall m h3, h3, h4⟩)).2⟩
      pos := by have := hHR.pos; rwa [I.next] at this
      below := hHR.below
      drawn := hHR.drawn
      size := hHR.size }
    frame := hM.frame
    low := by have := T.low 0 ops.size (by omega) (by omega); rwa [T.zero] at this
    keep := fun i hi hl => by
      rw [hget]; by_cases hS : S i
      · exact hM.keep i hS (by omega)
      have e1 : h0.get i = none := by
        cases hq : h0.get i with
        | none => rfl
        | some o => exact absurd (h0S i o hq) hS
      have e2 : H.get i = none := by
        cases hq : H.get i with
        | none => rfl
        | some o => exact absurd (hSlt i (hHR.objs i o hq).1 hi) hS
      rw [e1, e2]
    old := fun i o hi hlt => by
      rw [hget] at hi; exact hM.old i o hi (hSlt i (hHR.objs i o hi).1 hlt)
    fresh := fun i o hi hge => by
      rw [hget] at hi
      obtain ⟨h1, h2⟩ := hM.fresh i o hi fun hS => by have := h0ids i hS; omega
      refine ⟨h1, ?_⟩; rcases h2 with h2 | ⟨j, oj, h3, h4, h5, h6⟩
      · exact .inl h2
      have h7 := h0ids j (h0S j oj h3)
      exact .inr ⟨j, oj, h3, h4, h5, by omega, h7⟩ }, ?_⟩
  obtain ⟨t1, t2, t3⟩ := I.tmp; refine ⟨t1, hn, fun x => ?_⟩; by_cases hw : ∃ (j : Nat) (oj : Oper), ops[j]? = some oj ∧ oj.dst = some x
  · obtain ⟨j, oj, hj, hjx⟩ := hw; have hjs : j < ops.size := (Array.getElem?_eq_some_iff.1 hj).1; rw [T.get_new hdst hn ops.size (Nat.le_refl _) j oj x hjs hj hjx]; exact (t2 j oj x (hall j hjs) hj hjx).mono fun b hb => ⟨hSE b (cl_SE I.down (hall j hjs) b hb), rfl⟩
  rw [T.get_old hn ops.size (Nat.le_refl _) x fun j oj _ hok hkx => hw ⟨j, oj, hok, hkx⟩]; exact (t3 x fun j oj _ hok hkx => hw ⟨j, oj, hok, hkx⟩).mono fun b hb => ⟨.inl hb, rfl⟩
theorem dstAt_mem {ops : Array Oper} {x : Tmp} {j : Nat} {oj : Oper} (hj : ops[j]? = some oj) (hx : oj.dst = some x) : j ∈ dstAt ops.toList x := by
  unfold dstAt; refine List.mem_filterMap.2 ⟨(oj, j), ?_, ?_⟩
  · rw [List.mem_zipIdx_iff_getElem?]; simpa using hj
  simp [hx]
theorem regionOk_spec {ops : Array Oper} (h : regionOk ops = true) : EdgesOk ops ∧ DstOk ops ∧
    ∀ (i : Nat) (oi : Oper), ops[i]? = some oi → ∀ x ∈ oi.looksAt ops, ∀ (j : Nat) (oj : Oper), ops[j]? = some oj → oj.dst = some x →
      j = i ∨ ((bsOf ops.toList []).getD i 0).testBit j = true ∨ ((bsOf ops.toList []).getD j 0).testBit i = true := by
  have key : ∀ (i : Nat) (o : Oper), ops[i]? = some o → opOk ops ops.toList (bsOf ops.toList []) o i = true := fun i o ho => by
    unfold regionOk at h; have := List.all_eq_true.1 h (o, i) (by rw [List.mem_zipIdx_iff_getElem?]; simpa using ho); exact this
  refine ⟨fun i o ho e he hb => ?_, fun i j oi oj d hi hj hdi hdj => ?_, fun i oi hi x hx j oj hj hjx => ?_⟩
  · have := key i o ho; unfold opOk at this; obtain ⟨h1, _⟩ := band this; obtain ⟨h2, _⟩ := band h1; have := List.all_eq_true.1 h2 e he; rw [hb] at this; exact nblt (by simpa using this)
  · have := key i oi hi; unfold opOk at this; obtain ⟨h1, _⟩ := band this; obtain ⟨_, h2⟩ := band h1; rw [hdi] at h2; exact nbeq (List.all_eq_true.1 h2 j (dstAt_mem hj hdj))
  have := key i oi hi; unfold opOk at this; obtain ⟨_, h1⟩ := band this; have h2 := List.all_eq_true.1 (List.all_eq_true.1 h1 x hx) j (dstAt_mem hj hjx); simp only [Bool.or_eq_true] at h2; rcases h2 with (h2 | h2) | h2
  · exact .inl (nbeq h2)
  · exact .inr (.inl h2)
  exact .inr (.inr h2)
theorem bsOf_trace {step : Oper → (Operand → Value) → Heap → Option (Value × Heap)} (T : Trace step ops n st t0 h0) : ∀ (l : List Oper) (i : Nat), l = ops.toList.drop i → i ≤ ops.size → bsOf l (st i).bs = (st ops.size).bs
  | [], i, hl, hi => by
    have : ops.size ≤ i := by
      have := congrArg List.length hl; simp at this; omega
    have : i = ops.size := by omega
    subst this; rfl
  | o :: r, i, hl, hi => by
    have hlt : i < ops.size := by
      have := congrArg List.length hl; simp at this; omega
    have ho : ops[i]? = some o := by
      have := congrArg (·[0]?) hl; simpa using this.symm
    have hr : r = ops.toList.drop (i + 1) := by
      have := congrArg List.tail hl; simpa using this
    simp only [bsOf]; rw [← (T.did i o ho).1]; exact bsOf_trace T r (i + 1) hr (by omega)
theorem drawn_wpT (hcs : CallSnd P B w0 call) (hys : YieldSound P B w0 yield) (hok : regionOk ops = true) {s : DSt} (hf : ∃ st, Trace (fsOp P call yield) ops n st t0 h0 ∧ st ops.size = s)
    {w : World} {a : Act} (hr : HR P ρ0 S B w0 h0 w) (ht : TrR ρ0 S t0 n a.tmps) {r : Option Nat} {nn : Nat} {Q : Exit → Act → World → Prop}
    (k : ∀ ρ' w' a', Moved P B w0 ρ0 ρ' S h0 s.h w w' → TrR ρ' (Ext S h0 s.h) s.t n a'.tmps → a'.defers = a.defers → Q .normal a' w') (t : Nat) :
    wpOpsIn (Wide r) nn P ops Q (Region.schedule true ops t) a w := by
  obtain ⟨hed, hdst, hrd0⟩ := regionOk_spec hok; obtain ⟨st, T, hs⟩ := hf; have h0ids : ∀ b, S b → b < h0.next := fun b hb => (hr.ids b hb).1; have h0S : ∀ b o, h0.get b = some o → S b := fun b o hg => (hr.objs b o hg).1
  have hbs : bsOf ops.toList [] = (st ops.size).bs := by
    have := bsOf_trace T ops.toList 0 (by simp) (by omega)
    rwa [T.zero] at this
  have hrd : ReadsOk st ops := fun i oi hi x hx j oj hj hjx => by
    have h1 := hrd0 i oi hi x hx j oj hj hjx; have hi' : i < ops.size := (Array.getElem?_eq_some_iff.1 hi).1; have hj' : j < ops.size := (Array.getElem?_eq_some_iff.1 hj).1; rw [hbs, (T.bs ops.size (Nat.le_refl _)).2 i hi', (T.bs ops.size (Nat.le_refl _)).2 j hj'] at h1; exact h1
  have h0SE : SE st ops S (fun _ => false) = S := funext fun b => propext ⟨fun hb => (by
    rcases hb with hb | ⟨m, h1, _⟩
    · exact hb
    cases h1), fun hb => .inl hb⟩
  refine drawn_go (ρ0 := ρ0) (ws := w) (d0 := a.defers) hr hcs hys T hed hdst ht.2.1 hrd h0ids h0S hr.pos (fun E ρ H w' a' hall I => ?_) _ _ (sched_any hed t) ρ0 { next := (st ops.size).h.next, low := 0, objs := h0.objs } w a
    ⟨?_, .inl ⟨fun k hk => (by cases hk), fun b _ => rfl, fun k hk => (by cases hk), fun b o hb hg => (hr.objs b o hg).2, fun k hk => (by cases hk)⟩, ⟨ht.1, fun k o d hk => (by cases hk), fun d _ => ht.2.2 d⟩, rfl, rfl, fun k hk => (by cases hk)⟩
  · obtain ⟨h1, h2⟩ := I.end T hdst ht.2.1 h0ids h0S hall; rw [hs] at h1 h2; exact k ρ w' a' h1 h2 I.defers
  have h0n : h0.next ≤ (st ops.size).h.next := by have := T.next 0 ops.size (by omega) (by omega); rwa [T.zero] at this
  rw [h0SE]
  exact {
    agree := fun _ _ => rfl
    sub := fun _ hb => hb
    hr := { objs := hr.objs, inj := hr.inj, base := hr.base, ro := hr.ro, ids := fun b hb => ⟨Nat.lt_of_lt_of_le (hr.ids b hb).1 h0n, (hr.ids b hb).2⟩, pos := Nat.lt_of_lt_of_le hr.pos h0n, below := hr.below, drawn := hr.drawn, size := hr.size }
    frame := Frame.refl _ _ _
    keep := fun _ _ _ => rfl
    old := fun i o ho _ => ⟨o, ho, rfl⟩
    fresh := fun i o ho hS => absurd (hr.objs i o ho).1 hS }
theorem drawn_wp (hcs : CallSnd P B w0 call) (hys : YieldSound P B w0 yield) (hok : regionOk ops = true) {s : DSt} (hf : fsDrawn (fsOp P call yield) ops n ops.toList 0 ⟨t0, h0, [], [], 0, false⟩ = some s)
    {w : World} {a : Act} (hr : HR P ρ0 S B w0 h0 w) (ht : TrR ρ0 S t0 n a.tmps) {r : Option Nat} {nn : Nat} {Q : Exit → Act → World → Prop}
    (k : ∀ ρ' w' a', Moved P B w0 ρ0 ρ' S h0 s.h w w' → TrR ρ' (Ext S h0 s.h) s.t n a'.tmps → a'.defers = a.defers → Q .normal a' w') (t : Nat) :
    wpOpsIn (Wide r) nn P ops Q (Region.schedule true ops t) a w := drawn_wpT hcs hys hok (trace_of hf) hr ht k t
theorem drawn_wpX (hcs : CallSnd P B w0 call) (hys : YieldSound P B w0 yield) (hok : regionOk ops = true) {s : DSt} (hf : drawnX P h0 (fsOp P call yield) ops n ⟨t0, h0, [], [], 0, false⟩ = some s)
    {w : World} {a : Act} (hr : HR P ρ0 S B w0 h0 w) (ht : TrR ρ0 S t0 n a.tmps) {r : Option Nat} {nn : Nat} {Q : Exit → Act → World → Prop}
    (k : ∀ ρ' w' a', Moved P B w0 ρ0 ρ' S h0 s.h w w' → TrR ρ' (Ext S h0 s.h) s.t n a'.tmps → a'.defers = a.defers → Q .normal a' w') (t : Nat) :
    wpOpsIn (Wide r) nn P ops Q (Region.schedule true ops t) a w := drawn_wpT hcs hys hok (traceX_of hf) hr ht k t
end
end Go.Fs
namespace Go.Fs
open Go.RowKit (Below)
variable {P : Program} {ρ ρ' : Ren} {S S' : Nat → Prop} {B : Nat} {w0 w w' w1 w2 : World} {h h' h1 h2 : Heap}
theorem HR.same (hr : HR P ρ S B w0 h w) (hg : ∀ i, h'.get i = h.get i) (hn : h'.next = h.next) : HR P ρ S B w0 h' w where
  objs := fun i o hi => hr.objs i o (by rw [← hg]; exact hi)
  inj := fun i j oi oj hi hj => hr.inj i j oi oj (by rw [← hg]; exact hi) (by rw [← hg]; exact hj)
  base := fun i o hi => hr.base i o (by rw [← hg]; exact hi)
  ro := fun i o hi => hr.ro i o (by rw [← hg]; exact hi)
  ids := fun b hb => by rw [hn]; exact hr.ids b hb
  pos := by rw [hn]; exact hr.pos
  below := hr.below
  drawn := hr.drawn
  size := hr.size
theorem Ext.next_eq {g g' : Heap} (h1 : g.next = h.next) (h2 : g'.next = h'.next) : Ext S g g' = Ext S h h' := by
  funext b; unfold Ext; rw [h1, h2]
theorem Moved.relow {g g' : Heap} (m : Moved P B w0 ρ ρ' S g g' w w') (hg : ∀ i, h.get i = g.get i) (hn : h.next = g.next) (hg' : ∀ i, h'.get i = g'.get i) (hn' : h'.next = g'.next)
    (hl : h'.low ≤ g'.low) (hl2 : h'.low ≤ h.low) : Moved P B w0 ρ ρ' S h h' w w' where
  agree := m.agree
  next := by rw [hn, hn']; exact m.next
  hr := by
    rw [Ext.next_eq hn hn']; exact m.hr.same hg' hn'
  frame := ⟨m.frame.os, m.frame.tape, m.frame.output, m.frame.size, fun k hk hno => m.frame.block k hk fun i o hi ho => hno i o (by rw [hg]; exact hi) ho⟩
  low := hl2
  keep := fun i hi hlow => by rw [hg, hg']; exact m.keep i (by omega) (by omega)
  old := fun i o hi hlt => by
    obtain ⟨o', h1, h2⟩ := m.old i o (by rw [← hg']; exact hi) (by omega); exact ⟨o', by rw [hg]; exact h1, h2⟩
  fresh := fun i o hi hge => by
    obtain ⟨h1, hf⟩ := m.fresh i o (by rw [← hg']; exact hi) (by omega); refine ⟨h1, ?_⟩; rcases hf with hf | ⟨j, oj, h3, h4, h5, h6, h7⟩
    · exact .inl hf
    exact .inr ⟨j, oj, by rw [hg]; exact h3, h4, h5, by omega, by omega⟩
theorem Moved.forget {g : Heap} (hr : HR P ρ S B w0 g w) (m : Moved P B w0 ρ ρ' S h h1 w w') (hlow : h.next ≤ h1.low) (hg : ∀ i, g.get i = h.get i) (hn : g.next = h.next) : Moved P B w0 ρ ρ S g g w w' where
  agree := fun _ _ => rfl
  next := Nat.le_refl _
  hr := HR.congr (S := S) {
    objs := fun i o hi => by
      obtain ⟨h3, h4⟩ := hr.objs i o hi; have hlt := (hr.ids i h3).1
      have hk : h1.get i = some o := by rw [m.keep i (by omega) (by omega), ← hg]; exact hi
      have h5 := (m.hr.objs i o hk).2; rw [m.agree i h3] at h5; exact ⟨h3, h4.keepS h5 m.agree⟩
    inj := hr.inj
    base := hr.base
    ro := hr.ro
    ids := hr.ids
    pos := hr.pos
    below := m.hr.below
    drawn := m.hr.drawn
    size := m.hr.size } fun b => (Ext.refl_iff rfl b).symm
  frame := ⟨m.frame.os, m.frame.tape, m.frame.output, m.frame.size, fun k hk hno => m.frame.block k hk fun i o hi ho => hno i o (by rw [hg]; exact hi) ho⟩
  low := Nat.le_refl _
  keep := fun _ _ _ => rfl
  old := fun i o ho _ => ⟨o, ho, rfl⟩
  fresh := fun i o ho hi => by
    have := (hr.ids i (hr.objs i o ho).1).1; omega
theorem Moved.dropped (hr : HR P ρ S B w0 h w) {i : Nat} {o : AObj} (hi : h.get i = some o) (ho : ownO o = true)
    (hos : w'.os = w.os) (ht : w'.tape = w.tape) (hout : w'.output = w.output) (hsz : w'.heap.size = w.heap.size) (hblk : ∀ k, k ≠ (ρ i).block → w'.heap[k]? = w.heap[k]?)
    (hd : w.drawn ≤ w'.drawn := by first | exact Nat.le_refl _ | exact Nat.le_succ _) : Moved P B w0 ρ ρ S h (h.drop i) w w' where
  agree := fun _ _ => rfl
  next := Nat.le_refl _
  hr := HR.congr (S := S) {
    objs := fun j oj hj => by
      rw [Heap.get_drop] at hj; split at hj
      · cases hj
      rename_i e; obtain ⟨h1, h2⟩ := hr.objs j oj hj; refine ⟨h1, h2.world (hblk _ fun he => ?_)⟩; by_cases hown : ownO oj = true
      · exact e (hr.inj j i oj o hj hi hown ho he)
      have := hr.ro j oj hj (by simpa using hown); have := hr.base i o hi ho; omega
    inj := fun a b oa ob ha hb => by
      rw [Heap.get_drop] at ha hb; split at ha
      · cases ha
      split at hb
      · cases hb
      exact hr.inj a b oa ob ha hb
    base := fun j oj hj => by
      rw [Heap.get_drop] at hj; split at hj
      · cases hj
      exact hr.base j oj hj
    ro := fun j oj hj => by
      rw [Heap.get_drop] at hj; split at hj
      · cases hj
      exact hr.ro j oj hj
    ids := hr.ids
    pos := hr.pos
    drawn := Nat.le_trans hr.drawn hd
    below := ⟨hos.trans hr.below.os, ht.trans hr.below.tape, hout.trans hr.below.output, by rw [hsz]; exact hr.below.size, fun k hk => by
      rw [hblk k (fun e => by have := hr.base i o hi ho; omega)]; exact hr.below.block k hk⟩
    size := by rw [hsz]; exact hr.size } fun b => (Ext.refl_iff rfl b).symm
  frame := ⟨hos, ht, hout, by rw [hsz]; exact Nat.le_refl _, fun k _ hno => hblk k (Ne.symm (hno i o hi ho))⟩
  low := Nat.min_le_left _ _
  keep := fun j _ hl => by
    have hmin : min h.low i ≤ i := Nat.min_le_right _ _; have hlt : j < min h.low i := hl; rw [Heap.get_drop, if_neg (by omega)]
  old := fun j oj hj _ => by
    rw [Heap.get_drop] at hj; split at hj
    · cases hj
    exact ⟨oj, hj, rfl⟩
  fresh := fun j oj hj hge => by
    rw [Heap.get_drop] at hj; split at hj
    · cases hj
    have := (hr.ids j (hr.objs j oj hj).1).1; have : h.next ≤ j := hge; omega
def MarksR (ρ : Ren) (S : Nat → Prop) (marks : List Nat) (ds : List Deferred) : Prop := ds = marks.map (fun d => ({ target := .collected (ρ d).block, args := #[] } : Deferred)) ∧ ∀ d ∈ marks, S d
theorem MarksR.mono {marks : List Nat} {ds : List Deferred} (hm : MarksR ρ S marks ds) (hs : ∀ b, S b → S' b ∧ ρ' b = ρ b) : MarksR ρ' S' marks ds := by
  refine ⟨?_, fun d hd => (hs d (hm.2 d hd)).1⟩; rw [hm.1]
  exact List.map_congr_left fun d hd => by rw [(hs d (hm.2 d hd)).2]
theorem Ext.self {b : Nat} (hb : S b) : Ext S h h' b := .inl hb
theorem dropMarks_ok {fn : Func} {tmps : Array Value} {R : Ending → World → Prop} {F : Fence} {n : Nat} : ∀ (marks : List Nat) (S : Nat → Prop) (h : Heap) (w : World) (ds : List Deferred), HR P ρ S B w0 h w → MarksR ρ S marks ds →
    dropMarks marks h = some h2 → (∀ w', Moved P B w0 ρ ρ S h h2 w w' → LeavesInM F n P fn tmps R [] .returning w') → LeavesInM F n P fn tmps R ds .returning w
  | [], S, h, w, ds, hr, hm, hd, k => by
    simp only [dropMarks, Option.some.injEq] at hd; subst hd; rw [hm.1]
    exact k w (Moved.same hr)
  | d :: r, S, h, w, ds, hr, hm, hd, k => by
    simp only [dropMarks] at hd; split at hd
    · rename_i hg; have hobj : w.heap[(ρ d).block]? = some (.deferred (some [])) := (hr.objs d _ hg).2; have hlt : (ρ d).block < w.heap.size := (Array.getElem?_eq_some_iff.1 hobj).1; have m := Moved.dropped (w' := w.putObj (ρ d).block (.deferred none)) hr hg rfl rfl rfl rfl World.putObj_size (fun k hk => World.putObj_heap_other hk); rw [hm.1]; simp only [List.map_cons, LeavesInM]; refine ⟨by simp, .inl ⟨(ρ d).block, _, rfl, run_takeDeferred hobj, ?_⟩⟩; refine dropMarks_ok r (Ext S h (h.drop d)) (h.drop d) _ _ m.hr ⟨rfl, fun x hx => .inl (hm.2 x (List.mem_cons_of_mem _ hx))⟩ hd fun w' m' => k w' (m.trans m')
    cases hd
def resOf (tmps : Array Value) : ResultVar → Sem Value
  | .tmp t => pure (tmps.getD t undef)
  | .cell a t => do loadVar t (← asAddr (tmps.getD a undef))
theorem results_eq (fn : Func) (tmps : Array Value) : results fn tmps = (do
    let vs ← fn.results.mapM (resOf tmps)
    pure (if h : vs.size = 1 then vs[0] else .tuple vs)) := rfl
theorem result_ok {t : Tr} {n : Nat} {tmps : Array Value} {rv : ResultVar} {v : Value} (hr : HR P ρ S B w0 h w) (ht : TrR ρ S t n tmps) (hf : fsResult P t h rv = some v) :
    ∃ v', (resOf tmps rv).run P w = .ok v' w ∧ VR ρ S v v' := by
  have hget : ∀ i, tmps.getD i undef = tmps.toList.getD i undef := fun i => by simp [Array.getD_eq_getD_getElem?, List.getD_eq_getElem?_getD]
  cases rv with
  | tmp i =>
    simp only [fsResult, Option.some.injEq] at hf; subst hf
    exact ⟨_, rfl, by rw [hget]; exact ht.2.2 i⟩
  | cell a ty =>
    simp only [fsResult] at hf; have hv := ht.2.2 a; rw [← hget] at hv; obtain ⟨v', h1, h2⟩ := fsLoad_ok hr hf hv; refine ⟨v', ?_, h2⟩; unfold fsLoad at hf; split at hf
    · rename_i b o hb; rw [hb] at hv; obtain ⟨_, he⟩ := hv.ptr_inv; simp only [resOf, he] at h1 ⊢; simpa [Instr.loadAt, Instr.sureAddr, asAddr] using h1
    cases hf
theorem results_ok {t : Tr} {n : Nat} {tmps : Array Value} (hr : HR P ρ S B w0 h w) (ht : TrR ρ S t n tmps) : ∀ (rs : List ResultVar) (vs : List Value), fsResults P t h rs = some vs →
    ∃ vs', (rs.mapM (resOf tmps)).run P w = .ok vs' w ∧ LR ρ S vs vs'
  | [], vs, hf => by
    simp only [fsResults, Option.some.injEq] at hf; subst hf
    exact ⟨[], rfl, LR.nil⟩
  | r :: rs, vs, hf => by
    simp only [fsResults] at hf; split at hf
    · rename_i v vs0 hv hvs; simp only [Option.some.injEq] at hf; subst hf; obtain ⟨v', h1, h2⟩ := result_ok hr ht hv; obtain ⟨vs', h3, h4⟩ := results_ok hr ht rs vs0 hvs; refine ⟨v' :: vs', ?_, LR.cons h2 h4⟩; rw [List.mapM_cons]; simp only [Sem.run_bind, h1, Result.andThen_ok, h3, Sem.run_pure]
    cases hf
theorem tupled_ok {vs vs' : List Value} (hv : LR ρ S vs vs') : VR ρ S (tupled vs) (if h : vs'.toArray.size = 1 then vs'.toArray[0] else .tuple vs'.toArray) := by
  have hl := hv.1
  match vs, vs', hl with
  | [], [], _ => exact VR.undef
  | [v], [v'], _ => exact hv.2 0 (by simp)
  | v1 :: v2 :: r, u1 :: u2 :: r', _ =>
    rw [dif_neg (by simp)]; exact VR.tuple' (by simpa [tupled] using hv)
theorem resultsRun_ok {fn : Func} {t : Tr} {n : Nat} {tmps : Array Value} {vs : List Value} (hr : HR P ρ S B w0 h w) (ht : TrR ρ S t n tmps) (hf : fsResults P t h fn.results.toList = some vs) :
    ∃ v', (results fn tmps).run P w = .ok v' w ∧ VR ρ S (tupled vs) v' := by
  obtain ⟨vs', h1, h2⟩ := results_ok hr ht _ _ hf; refine ⟨_, ?_, tupled_ok h2⟩; rw [results_eq, Array.mapM_eq_mapM_toList]; simp only [Sem.run_bind, Sem.run_map, h1, Result.andThen_ok, Sem.run_pure]
end Go.Fs
namespace Go.Fs
open Go.RowKit (Below)
variable {P : Program} {ρ ρ' : Ren} {S S' : Nat → Prop} {B : Nat} {w0 w w' w1 w2 : World} {h h' h1 h2 : Heap}
def exOf : Ex → Exit
  | .normal => .normal
  | .exit id => .exit id
  | .ret => .ret
def wpX (m : Nat) (F : Fence) (n : Nat) (P : Program) (c : Code) (Q : Exit → Act → World → Prop) (a : Act) (w : World) : Prop :=
  match c with
  | .loop b => Code.roundsIn F n P b Q m a w
  | c => c.wpIn F n P Q a w
theorem wpX.wpIn {m : Nat} {F : Fence} {n : Nat} {c : Code} {Q : Exit → Act → World → Prop} {a : Act} {w : World} (h : wpX m F n P c Q a w) : c.wpIn F n P Q a w := by
  cases c with
  | loop b => exact wpIn_loop_rounds m h
  | _ => exact h
def rndF (ρ : Ren) (rnd : Option Nat) : Fence := Wide (rnd.map fun l => (ρ l).block)
structure Post (P : Program) (B : Nat) (w0 : World) (ρ ρ' : Ren) (S : Nat → Prop) (h : Heap) (w : World) (fr' : Fr) (h' : Heap) (w' : World) (a' : Act) : Prop where
  moved : Moved P B w0 ρ ρ' S h h' w w'
  tmps : TrR ρ' (Ext S h h') fr'.t fr'.n a'.tmps
  marks : MarksR ρ' (Ext S h h') fr'.marks a'.defers
def SoundR (P : Program) (B : Nat) (w0 : World) (m : Nat) (rec : Rec) : Prop := ∀ rnd c fr h e fr' h', codeOk c = true → rec rnd c fr h = some (e, fr', h') →
  ∀ ρ S w a nn Q, HR P ρ S B w0 h w → TrR ρ S fr.t fr.n a.tmps → MarksR ρ S fr.marks a.defers → (∀ l, rnd = some l → S l) →
    (∀ ρ' w' a', Post P B w0 ρ ρ' S h w fr' h' w' a' → Q (exOf e) a' w') → wpX m (rndF ρ rnd) nn P c Q a w
theorem rndF_eq {rnd : Option Nat} (hs : ∀ l, rnd = some l → S l) (hag : ∀ b, S b → ρ' b = ρ b) : rndF ρ' rnd = rndF ρ rnd := by
  cases rnd with
  | none => rfl
  | some l => simp [rndF, hag l (hs l rfl)]
theorem Post.trans {ρ1 ρ2 : Ren} {fr1 fr2 : Fr} {a1 a2 : Act} (p : Moved P B w0 ρ ρ1 S h h1 w w1) (q : Post P B w0 ρ1 ρ2 (Ext S h h1) h1 w1 fr2 h2 w2 a2) : Post P B w0 ρ ρ2 S h w fr2 h2 w2 a2 where
  moved := p.trans q.moved
  tmps := q.tmps.mono fun b hb => ⟨Ext.trans' p.next q.moved.next hb, rfl⟩
  marks := q.marks.mono fun b hb => ⟨Ext.trans' p.next q.moved.next hb, rfl⟩
theorem fill_get : ∀ (vs : List Value) (t : Tr) (i : Nat), i + vs.length ≤ 4000 → ∀ j, (fillTr t i vs).get j = if j < i then t.get j else if j < i + vs.length then vs.getD (j - i) undef else t.get j
  | [], t, i, _, j => by simp only [fillTr, List.length_nil, Nat.add_zero]; split <;> simp_all
  | v :: r, t, i, hl, j => by
    simp only [List.length_cons] at hl; simp only [fillTr]; rw [fill_get r _ (i + 1) (by omega), Tr.get_set depth t i v j (by have : 2 ^ depth = 8192 := rfl; omega)]; simp only [List.length_cons]; by_cases h1 : j < i
    · rw [if_pos (by omega), if_neg (by omega), if_pos h1]
    by_cases h2 : j = i
    · subst h2; rw [if_pos (by omega), if_pos rfl, if_neg h1, if_pos (by omega), Nat.sub_self]; rfl
    rw [if_neg (by omega), if_neg h1]; by_cases h3 : j < i + 1 + r.length
    · rw [if_pos h3, if_pos (by omega), show j - i = (j - (i + 1)) + 1 by omega]; rfl
    rw [if_neg h3, if_neg h2, if_neg (by omega)]
theorem leaf_get (i : Nat) : Tr.leaf.get i = undef := rfl
theorem enter_tmps {n : Nat} {args args' : List Value} (hn : n ≤ 4000) (hl : args.length ≤ n) (ha : LR ρ S args args') :
    TrR ρ S (fillTr .leaf 0 args) n (args'.toArray ++ Array.replicate (n - args'.toArray.size) undef) := by
  have h0 := ha.1; refine ⟨by simp; omega, hn, fun i => ?_⟩; rw [fill_get args .leaf 0 (by omega), if_neg (by omega), leaf_get, Nat.sub_zero, Nat.zero_add]; simp only [Array.toList_append, Array.toList_replicate, List.getD_eq_getElem?_getD, List.getElem?_append]; by_cases hi : i < args.length
  · rw [if_pos hi, if_pos (by omega)]; have := ha.2 i hi
    rwa [List.getD_eq_getElem?_getD, List.getD_eq_getElem?_getD] at this
  rw [if_neg hi, if_neg (by omega), List.getElem?_replicate]; split
  · exact VR.undef
  exact VR.undef
structure ProgOk (P : Program) : Prop where
  mixed : P.follows .mixedOrders = true
  name : ∀ (f : FuncId) (fn : Func), P.funcs[f]? = some fn → fn.body.isNone = false → (fn.name == "runtime.NumGoroutine") = false
  code : ∀ (f : FuncId) (fn : Func) (c : Code), P.funcs[f]? = some fn → fn.body = some c → codeOk c = true
theorem enterK_sound (hP : ProgOk P) {m : Nat} {rec : Rec} {k : Bool} (hrec : SoundR P B w0 m rec) : CallSound P B w0 (fsEnterK P k rec) := by
  intro f args h v h' hf; unfold fsEnterK at hf; split at hf
  · rename_i fn hfn; split at hf
    · rename_i c hc; refine ⟨⟨fn, hfn, by rw [hc]; rfl, hP.name f fn hfn (by rw [hc]; rfl)⟩, fun ρ S w args' hr ha n => ?_⟩
      cases hb : (Nat.blt 4000 fn.ntmps || Nat.blt fn.ntmps args.length) with
      | true => rw [hb] at hf; cases hf
      | false =>
        rw [hb] at hf; simp only [cond_false] at hf
        have hb2 : Nat.blt 4000 fn.ntmps = false ∧ Nat.blt fn.ntmps args.length = false := by simpa using hb
        have hn : fn.ntmps ≤ 4000 := by have := nble_no hb2.1; omega
        have hl : args.length ≤ fn.ntmps := by have := nble_no hb2.2; omega
        split at hf
        · rename_i e fr h1 hrun; obtain ⟨hgo, hf2⟩ := bif_some hf; clear hf; split at hf2
          · rename_i h2 hdrop; split at hf2
            · rename_i vs hvs; have hrb : HR P ρ S B w0 { next := h.next, low := h.next, objs := h.objs } w := hr.same (fun _ => rfl) rfl; refine callsIn_of_wp_marks hfn hc trivial ?_
              have hw := (hrec none c _ _ _ _ _ (hP.code f fn c hfn hc) hrun ρ S w { tmps := args'.toArray ++ Array.replicate (fn.ntmps - args'.toArray.size) undef, defers := [] } n
                (bodyPostM Fence.wide n P fn (RetR P B w0 ρ S h w v h')) hrb (enter_tmps hn hl ha) ⟨rfl, fun d hd => by cases hd⟩ (fun l hl => by cases hl) fun ρ1 w1 a1 p1 => ?_).wpIn
              · exact hw
              have hleave : LeavesInM Fence.wide n P fn a1.tmps (RetR P B w0 ρ S h w v h') a1.defers .returning w1 := by
                refine dropMarks_ok fr.marks _ h1 w1 a1.defers p1.moved.hr p1.marks hdrop fun w2 m2 => ?_; have htm := p1.tmps.mono (fun b hb => (⟨Ext.self (h := h1) (h' := h2) hb, rfl⟩ : Ext _ h1 h2 b ∧ ρ1 b = ρ1 b)); obtain ⟨v', hv1, hv2⟩ := resultsRun_ok m2.hr htm hvs; refine ⟨v', hv1, ?_⟩; have m3 := p1.moved.trans m2; have hv3 := hv2.mono (fun b hb => (⟨Ext.trans' p1.moved.next m2.next hb, rfl⟩ : Ext S { next := h.next, low := h.next, objs := h.objs } h2 b ∧ ρ1 b = ρ1 b))
                cases hq : (!k && (af (tupled vs) && Nat.ble h.next h2.low)) with
                | true =>
                  rw [hq] at hf2; simp only [cond_true, Option.some.injEq, Prod.mk.injEq] at hf2; obtain ⟨rfl, rfl⟩ := hf2; obtain ⟨q1, q2⟩ := band (band hq).2; have q2 := nble q2; refine ⟨ρ, m3.forget hr q2 (fun _ => rfl) rfl, ?_⟩
                  rw [hv3.eq_of_af q1]; exact .of_af q1
                | false =>
                  rw [hq] at hf2; simp only [cond_false, Option.some.injEq, Prod.mk.injEq] at hf2; obtain ⟨rfl, rfl⟩ := hf2; exact ⟨ρ1, m3.relow (fun _ => rfl) rfl (fun _ => rfl) rfl (Nat.min_le_right _ _) (Nat.min_le_left _ _), hv3⟩
              cases e with
              | normal => exact hleave
              | ret => exact hleave
              | exit id => cases hgo
            cases hf2
          cases hf2
        cases hf
    cases hf
  cases hf
theorem enter_sound (hP : ProgOk P) {m : Nat} {rec : Rec} (hrec : SoundR P B w0 m rec) : CallSound P B w0 (fsEnter P rec) := enterK_sound hP hrec
theorem setAll_ok {n : Nat} : ∀ (ps : List Tmp) (args args' : List Value) (t t' : Tr) (tmps : Array Value), TrR ρ S t n tmps → LR ρ S args args' → setAll n t (ps.zip args) = some t' →
    TrR ρ S t' n ((ps.zip args').foldl (fun tmps p => tmps.setIfInBounds p.1 p.2) tmps)
  | [], args, args', t, t', tmps, ht, _, hs => by
    simp only [List.zip_nil_left, setAll, Option.some.injEq] at hs; subst hs
    simpa using ht
  | p :: ps, [], args', t, t', tmps, ht, ha, hs => by
    have : args' = [] := List.eq_nil_of_length_eq_zero ha.1.symm; subst this; simp only [List.zip_nil_right, setAll, Option.some.injEq] at hs; subst hs
    simpa using ht
  | p :: ps, v :: args, [], t, t', tmps, ht, ha, hs => by have := ha.1; simp at this
  | p :: ps, v :: args, v' :: args', t, t', tmps, ht, ha, hs => by
    simp only [List.zip_cons_cons, setAll] at hs; split at hs
    · rename_i t1 hp; have hv : VR ρ S v v' := ha.2 0 (by simp); have hrest : LR ρ S args args' := ⟨by have := ha.1; simpa using this, fun i hi => by have := ha.2 (i + 1) (by simp; omega); simpa using this⟩; have h1 := ht.put hp hv []; simp only [List.zip_cons_cons, List.foldl_cons]; exact setAll_ok ps args args' t1 t' _ h1 hrest hs
    cases hs
theorem loopo_ok {l : Nat} {st : LoopState} {jump : Option Code} {tmps : Tr} {n d : Nat} {params : Array Tmp} {assign body : Code} (hr : HR P ρ S B w0 h w) (hg : h.get l = some (.loopo st jump tmps n params assign body d)) :
    S l ∧ S d ∧ ∃ fn tmps', w.heap[(ρ l).block]? = some (.loop ⟨st, jump, fn, tmps', params, assign, body, (ρ d).block⟩) ∧ TrR ρ S tmps n tmps' ∧ codeOk assign = true ∧ codeOk body = true := by
  obtain ⟨h1, h2, fn, tmps', h3, h4, h5⟩ := hr.objs l _ hg; exact ⟨h1, h2, fn, tmps', h3, h4, (band h5).1, (band h5).2⟩
theorem loop_set {l : Nat} {st st' : LoopState} {jump jump' : Option Code} {tmps : Tr} {n d : Nat} {params : Array Tmp} {assign body : Code} {fn : FuncId} {tmps' : Array Value} (hr : HR P ρ S B w0 h w)
    (hg : h.get l = some (.loopo st jump tmps n params assign body d)) (hw : w.heap[(ρ l).block]? = some (.loop ⟨st, jump, fn, tmps', params, assign, body, (ρ d).block⟩)) :
    Moved P B w0 ρ ρ S h (h.set l (.loopo st' jump' tmps n params assign body d)) w (w.putObj (ρ l).block (.loop ⟨st', jump', fn, tmps', params, assign, body, (ρ d).block⟩)) := by
  obtain ⟨h1, h2, fn0, tm0, h3, h4, h5⟩ := hr.objs l _ hg; rw [hw] at h3; simp only [Option.some.injEq, Obj.loop.injEq, Loop.mk.injEq, true_and, and_true] at h3; obtain ⟨rfl, rfl⟩ := h3
  exact Moved.set hr hg rfl rfl rfl rfl rfl World.putObj_size (fun k hk => World.putObj_heap_other hk)
    ⟨h2, fn, tmps', World.putObj_heap_same (Array.getElem?_eq_some_iff.1 hw).1, h4, h5⟩
theorem yield_sound {m : Nat} {rec : Rec} (hrec : SoundR P B w0 m rec) : YieldSound P B w0 (fsYield rec) := by
  intro l args h v h' hf ρ S w args' hr ha hl; unfold fsYield at hf; split at hf
  · rename_i jump0 tmps n params assign body d0 hg; obtain ⟨hS, hSd, fn, tmps', hw, ht, hca, hcb⟩ := loopo_ok hr hg; obtain ⟨hlen, hf2⟩ := bif_some hf; clear hf; have hlen := nbeq hlen; split at hf2
    · rename_i t hset
      have hlen' : args'.toArray.size = params.size := by have := ha.1; simp; omega
      refine ⟨fn, _, assign, body, run_yield hw hlen', fun nn => roundIn_of_wpIn trivial ?_⟩; have hta := setAll_ok params.toList args args' tmps t tmps' ht ha hset
      have hfold : (params.zip args'.toArray).foldl (fun tmps (x : Tmp × Value) => tmps.setIfInBounds x.1 x.2) tmps' = (params.toList.zip args').foldl (fun tmps p => tmps.setIfInBounds p.1 p.2) tmps' := by
        rw [← Array.foldl_toList, Array.toList_zip]
      rw [← hfold] at hta; split at hf2
      · rename_i fr h1 hrun1; split at hf2
        · rename_i jump1 tmps1 n1 params1 assign1 body1 d1 hg1; split at hf2
          · rename_i e fr2 h2 hrun2; split at hf2
            · rename_i st2 jump2 tmps2 n2 params2 assign2 body2 d2 hg2; simp only [Option.some.injEq, Prod.mk.injEq] at hf2; obtain ⟨rfl, rfl⟩ := hf2; have hF : (Fence.wide.inRound (ρ l).block) = rndF ρ (some l) := rfl; rw [hF]; refine (hrec (some l) assign _ _ _ _ _ hca hrun1 ρ S w { tmps := (params.zip args'.toArray).foldl (fun tmps (x : Tmp × Value) => tmps.setIfInBounds x.1 x.2) tmps', defers := [] } nn _ hr hta ⟨rfl, fun d hd => by cases hd⟩ (fun l' hl' => by cases hl'; exact hS) fun ρ1 w1 a1 p1 => ?_).wpIn; obtain ⟨hS1, hSd1, fn1, tm1, hw1, ht1, hca1, hcb1⟩ := loopo_ok p1.moved.hr hg1
              have hb1 : (ρ1 l).block = (ρ l).block := by rw [p1.moved.agree l hS]
              refine ⟨_, by rw [← hb1]; exact run_beginRound hw1 rfl, ?_⟩; have m2 := loop_set (st' := .busy) (jump' := jump1) p1.moved.hr hg1 hw1; have hcb' : codeOk body = true := hcb
              have hF2 : rndF ρ (some l) = rndF ρ1 (some l) := by simp [rndF, hb1]
              rw [hF2]
              refine (hrec (some l) body fr _ _ _ _ hcb' hrun2 ρ1 (Ext (Ext S h h1) h1 (h1.set l (.loopo .busy jump1 tmps1 n1 params1 assign1 body1 d1))) _ a1 nn (roundPost P (ρ l).block (RetR P B w0 ρ S h w _ _)) m2.hr
                (p1.tmps.mono fun b hb => ⟨.inl hb, rfl⟩) (p1.marks.mono fun b hb => ⟨.inl hb, rfl⟩) (fun l' hl' => by cases hl'; exact .inl hS1) fun ρ3 w3 a3 p3 => ?_).wpIn
              obtain ⟨hS3, hSd3, fn3, tm3, hw3, ht3, hca3, hcb3⟩ := loopo_ok p3.moved.hr hg2
              have hb3 : (ρ3 l).block = (ρ l).block := by rw [p3.moved.agree l (.inl hS1), hb1]
              have fin : ∀ j : Option Code, j = jumpOf e → ∃ v w4, (Instr.endRound (ρ l).block j).run P w3 = .ok v w4 ∧ RetR P B w0 ρ S h w (.bool (jumpOf e).isNone) (h2.set l (.loopo (bif (jumpOf e).isNone then .ready else .done) (jumpOf e) tmps2 n2 params2 assign2 body2 d2)) (.returned v) w4 := fun j hj => by
                subst hj; refine ⟨_, _, by rw [← hb3]; exact run_endRound _ hw3, ρ3, ?_, .lit rfl⟩; have m4 := loop_set (st' := bif (jumpOf e).isNone then .ready else .done) (jump' := jumpOf e) p3.moved.hr hg2 hw3; have m5 := p1.moved.trans (m2.trans (p3.moved.trans m4))
                have he : (bif (jumpOf e).isNone then LoopState.ready else .done) = if (jumpOf e).isNone then .ready else .done := by cases (jumpOf e).isNone <;> rfl
                rw [← he]; exact m5
              cases e with
              | normal => exact fin none rfl
              | exit id => exact fin (some (.exit id)) rfl
              | ret => exact fin (some .ret) rfl
            cases hf2
          cases hf2
        cases hf2
      cases hf2
    cases hf2
  cases hf
theorem mark_ok {rnd : Option Nat} {d : Nat} {mark : List Nat} (hr : HR P ρ S B w0 h w) (hs : ∀ l, rnd = some l → S l) (hf : fsMark rnd h = some (d, mark, h1)) (fn : FuncId) (tmps : Array Value) (ps : Array Tmp) (assign body : Code)
    {t : Tr} {n : Nat} (ht : TrR ρ S t n tmps) (hca : codeOk assign = true) (hcb : codeOk body = true) :
    ∃ ρ1 lw ms w2, (Instr.enterLoop fn tmps ps assign body (rndF ρ rnd).round).run P w = .ok (lw, ms) w2 ∧ (ρ1 h1.next).block = lw ∧ MarksR ρ1 (Ext S h (h1.push (.loopo .ready none t n ps assign body d))) mark ms ∧
      Moved P B w0 ρ ρ1 S h (h1.push (.loopo .ready none t n ps assign body d)) w w2 ∧ Ext S h (h1.push (.loopo .ready none t n ps assign body d)) h1.next := by
  -- the record, behind what is there
  have push : ∀ (ρa : Ren) (wa : World), Moved P B w0 ρ ρa S h h1 w wa → Ext S h h1 d → Moved P B w0 ρ (ρa.put h1.next (.clean wa.heap.size 0 0 (0))) S h (h1.push (.loopo .ready none t n ps assign body d)) w
      (wa.alloc (.loop ⟨.ready, none, fn, tmps, ps, assign, body, (ρa d).block⟩)) := fun ρa wa ma hd => by
    have hta := ht.mono (fun b hb => (⟨.inl hb, ma.agree b hb⟩ : Ext S h h1 b ∧ ρa b = ρ b)); have hag := ma.hr.agree' (.clean wa.heap.size 0 0 (0)) (.loopo .ready none t n ps assign body d)
    exact ma.trans (Moved.push ma.hr (.loopo .ready none t n ps assign body d) (.loop ⟨.ready, none, fn, tmps, ps, assign, body, (ρa d).block⟩) (.clean wa.heap.size 0 0 (0)) rfl rfl
      ⟨(hag d hd).1, fn, tmps, by rw [(hag d hd).2]; exact heap_alloc_new wa _, hta.mono hag, by rw [hca, hcb]; rfl⟩)
  unfold fsMark at hf; split at hf
  · simp only [Option.some.injEq, Prod.mk.injEq] at hf; obtain ⟨rfl, rfl, rfl⟩ := hf; have m1 : Moved P B w0 ρ (ρ.put h.next (.clean w.heap.size 0 0 (0))) S h (h.push .defd) w (w.alloc (.deferred (some []))) := Moved.push hr .defd (.deferred (some [])) (.clean w.heap.size 0 0 (0)) rfl rfl (heap_alloc_new w _); have m2 := push _ _ m1 (Ext.pushNext _)
    have hb : ((ρ.put h.next (.clean w.heap.size 0 0 (0))) h.next).block = w.heap.size := by rw [Ren.put_same]
    have hne : h.next ≠ (h.push .defd).next := Nat.ne_of_lt (Nat.lt_succ_self _); refine ⟨_, w.heap.size + 1, _, _, run_enterLoop_outer fn tmps ps assign body, ?_, ⟨?_, ?_⟩, by rw [hb] at m2; exact m2, .inr ⟨Nat.le_succ _, Nat.lt_succ_self _⟩⟩
    · rw [Ren.put_same]; simp
    · simp only [List.map_cons, List.map_nil]; rw [Ren.put_other hne, hb]
    intro x hx; simp only [List.mem_cons, List.not_mem_nil, or_false] at hx; subst hx; exact .inr ⟨Nat.le_refl _, Nat.lt_succ_of_lt (Nat.lt_succ_self _)⟩
  rename_i l; split at hf
  · rename_i st jump tm n0 ps0 as0 bo0 d0 hg; simp only [Option.some.injEq, Prod.mk.injEq] at hf; obtain ⟨rfl, rfl, rfl⟩ := hf; obtain ⟨hS, hSd, fn0, tm0, hw, _⟩ := loopo_ok hr hg; have m2 := push ρ w (Moved.same hr) (.inl hSd); refine ⟨_, w.heap.size, [], _, ?_, by rw [Ren.put_same], ⟨rfl, fun x hx => by cases hx⟩, m2, .inr ⟨Nat.le_refl _, Nat.lt_succ_self _⟩⟩; show (Instr.enterLoop fn tmps ps assign body (some (ρ l).block)).run P w = _; unfold Instr.enterLoop; simp only [Sem.run_bind, run_getLoop hw, Result.andThen_ok, Sem.run_pure]; rfl
  cases hf
theorem rangeFunc_sound (hP : ProgOk P) {m : Nat} {rec : Rec} (hrec : SoundR P B w0 m rec) {rnd : Option Nat} {g : Operand} {ps : Array Tmp} {assign body : Code} {fr fr' : Fr} {e : Ex} (hca : codeOk assign = true) (hcb : codeOk body = true)
    (hf : fsRangeFunc P rec rnd g ps assign body fr h = some (e, fr', h')) {a : Act} {nn : Nat} {Q : Exit → Act → World → Prop} (hr : HR P ρ S B w0 h w) (ht : TrR ρ S fr.t fr.n a.tmps) (hm : MarksR ρ S fr.marks a.defers)
    (hs : ∀ l, rnd = some l → S l) (k : ∀ ρ' w' a', Post P B w0 ρ ρ' S h w fr' h' w' a' → Q (exOf e) a' w') : (Code.rangeFunc g ps assign body).wpIn (rndF ρ rnd) nn P Q a w := by
  unfold fsRangeFunc at hf; split at hf
  · rename_i d mark h1 hmark; split at hf
    · rename_i f first captured hg; split at hf
      · rename_i v3 h3 hrun; split at hf
        · rename_i st jump tm n0 ps0 as0 bo0 d0 hg3; have hev := ht.eval a.defers g; rw [hg] at hev; obtain ⟨f1, c1, hef, hl1, hl2⟩ := hev.func_inv; refine wpIn_rangeFunc fun fn _ => ?_; obtain ⟨ρ1, lw, ms, w2, he, hb1, hms, m1, hS1⟩ := mark_ok hr hs hmark fn a.tmps ps assign body ht hca hcb
          have hargs : LR ρ1 (Ext S h (h1.push (.loopo .ready none fr.t fr.n ps assign body d))) (first.toList ++ [.func (.yield h1.next) #[] #[]] ++ captured.toList) (f1.toList ++ [.func (.yield lw) #[] #[]] ++ c1.toList) := by
            have hag : ∀ b, S b → Ext S h (h1.push (.loopo .ready none fr.t fr.n ps assign body d)) b ∧ ρ1 b = ρ b := fun b hb => ⟨.inl hb, m1.agree b hb⟩; refine ((hl1.mono hag).append ?_).append (hl2.mono hag); refine LR.cons ?_ LR.nil; rw [← hb1]; exact .yield _ hS1
          obtain ⟨hent, hcall⟩ := enterK_sound hP hrec _ _ _ _ _ hrun; have hev' : a.eval g = .func (.func f) f1 c1 := hef; have hinv : (invoke (.fn (.func f) c1) (f1 ++ #[Value.func (.yield lw) #[] #[]])).run P w2 = .ok (.enter f ((f1 ++ #[Value.func (.yield lw) #[] #[]]) ++ c1)) w2 := callFunc_run hent _ w2; refine ⟨lw, ms, w2, { target := .fn (.func f) c1, args := f1 ++ #[Value.func (.yield lw) #[] #[]] }, w2, f, (f1 ++ #[Value.func (.yield lw) #[] #[]]) ++ c1, w2, he, ?_, fun _ _ => trivial, hinv, fun hd => (by cases hd), ?_⟩
          · unfold resolve; simp only [rangeCall, List.map_toArray, hev', Deferred.ofValue]; rfl
          have h4 := hcall ρ1 _ w2 _ m1.hr hargs (nn - 1)
          have h5 : (f1.toList ++ [Value.func (.yield lw) #[] #[]] ++ c1.toList).toArray = (f1 ++ #[Value.func (.yield lw) #[] #[]]) ++ c1 := by
            apply Array.toList_inj.1; simp
          rw [h5] at h4; refine CallsIn.mono (F := rndF ρ rnd) h4 fun e3 w3 hret => ?_
          cases e3 with
          | panicked c => exact hret.elim
          | outgrown => exact hret.elim
          | returned v3' =>
            obtain ⟨ρ3, m3, _⟩ := hret; obtain ⟨hS3, hSd3, fn3, tm3, hw3, _⟩ := loopo_ok m3.hr hg3
            have hb3 : (ρ3 h1.next).block = lw := by rw [m3.agree _ hS1, hb1]
            have m13 := m1.trans m3
            have post : st ≠ .busy → ∀ h4 : Heap, h4 = h3.set h1.next (.loopo .exhausted jump tm n0 ps0 as0 bo0 d0) → ∃ w4, (Instr.endLoop lw).run P w3 = .ok jump w4 ∧
                Post P B w0 ρ ρ3 S h w { t := fr.t, n := fr.n, marks := mark ++ fr.marks } h4 w4 { a with defers := ms ++ a.defers } := fun hst h4 hh4 => by
              subst hh4; have m4 := loop_set (st' := .exhausted) (jump' := jump) m3.hr hg3 hw3; have m14 := m1.trans (m3.trans m4); refine ⟨_, by rw [← hb3]; exact run_endLoop hw3 hst, ⟨m14, ht.mono fun b hb => ⟨.inl hb, m14.agree b hb⟩, ?_, ?_⟩⟩
              · show ms ++ a.defers = (mark ++ fr.marks).map _
                have e1 : ms = mark.map (fun d => ({ target := .collected (ρ3 d).block, args := #[] } : Deferred)) := by
                  rw [hms.1]; refine List.map_congr_left fun x hx => ?_; simp only [m3.agree x (hms.2 x hx)]
                have e2 : a.defers = fr.marks.map (fun d => ({ target := .collected (ρ3 d).block, args := #[] } : Deferred)) := by
                  rw [hm.1]; refine List.map_congr_left fun x hx => ?_; simp only [m14.agree x (hm.2 x hx)]
                rw [List.map_append, e1, e2]
              intro x hx; rcases List.mem_append.1 hx with hx | hx
              · exact Ext.trans' m1.next (Nat.le_trans m3.next m4.next) (.inl (hms.2 x hx))
              exact .inl (hm.2 x hx)
            split at hf
            · cases hf
            rename_i hst; have hst' : st ≠ .busy := fun h => hst h; simp only at hf; split at hf
            · simp only [Option.some.injEq, Prod.mk.injEq] at hf; obtain ⟨rfl, rfl, rfl⟩ := hf; obtain ⟨w4, h6, h7⟩ := post hst' _ rfl; exact ⟨none, w4, h6, k _ _ _ h7⟩
            · simp only [Option.some.injEq, Prod.mk.injEq] at hf; obtain ⟨rfl, rfl, rfl⟩ := hf; obtain ⟨w4, h6, h7⟩ := post hst' _ rfl; exact ⟨some .ret, w4, h6, wpIn_ret (k _ _ _ h7)⟩
            · rename_i id; simp only [Option.some.injEq, Prod.mk.injEq] at hf; obtain ⟨rfl, rfl, rfl⟩ := hf; obtain ⟨w4, h6, h7⟩ := post hst' _ rfl; exact ⟨some (.exit id), w4, h6, wpIn_exit (k _ _ _ h7)⟩
            cases hf
        cases hf
      cases hf
    cases hf
  cases hf
end Go.Fs
namespace Go.Fs
variable {P : Program} {orc : FuncId → List Value → Heap → Option (Value × Heap)} {rnd : Option Nat} {fr : Fr} {h : Heap} {Q : Ex → Fr → Heap → Prop}
theorem get_setD (t : Tr) (d : Nat) (v : Value) (j : Nat) (hd : d < 4000 := by decide) : (t.set depth d v).get j = if j = d then v else t.get j := Tr.get_set depth t d v j (by have : 2 ^ depth = 8192 := rfl; omega)
theorem put_set (n : Nat) (t : Tr) (d : Nat) (v : Value) : put n t (some d) v = bif Nat.blt d n then some (t.set depth d v) else none := rfl
theorem put_none (n : Nat) (t : Tr) (v : Value) : put n t none v = some t := rfl
theorem newer_same (lo : Nat) (l : List (Nat × AObj)) : newer lo lo l = [] := by unfold newer; rw [Nat.beq_refl]; rfl
theorem runPure_underlying {t : TypeId} {d : TypeDesc} (h : P.underlying t = some d) : runPure P (underlying t) = some d := by
  unfold underlying; rw [runPure_bind]; show (some P).bind _ = _; simp only [Option.bind_some, h]; rfl
theorem runPure_typeInfo {t : TypeId} {i : TypeInfo} (h : P.info? t = some i) : runPure P (typeInfo t) = some i := by
  unfold typeInfo; rw [runPure_bind]; show (some P).bind _ = _; simp only [Option.bind_some, h]; rfl
theorem runPure_sizeOf {t : TypeId} {i : TypeInfo} (h : P.info? t = some i) : runPure P (sizeOf t) = some i.size := by
  unfold sizeOf; rw [runPure_bind, runPure_typeInfo h]; rfl
structure IntsT (P : Program) (T e : TypeId) : Prop where
  sl : P.underlying T = some (.slice e)
  el : P.underlying e = some (.int .i64)
  info : (P.info? e).map (·.size) = some 1
end Go.Fs
namespace Go.Fs
variable {P : Program} {orc : FuncId → List Value → Heap → Option (Value × Heap)} {rnd : Option Nat} {h : Heap}
abbrev FL := List (Nat × Value)
section
variable (P orc)
end
variable {ops : Array Oper} {n : Nat} {ms : List Nat} {fl : FL} {Q : Ex → Fr → Heap → Prop} {K : FL → Heap → Prop} {l : List Oper}
variable {d : Tmp} {ty : TypeId} {pos : String} {after : Array Edge} {op : Op} {v : Value}
section
variable (P orc)
end
variable {i mem : Nat} {bs : List Nat} {segs : List (Nat × Nat × Nat)} {tail : Bool}
end Go.Fs
namespace Go.Fs
variable {P : Program} {orc : FuncId → List Value → Heap → Option (Value × Heap)} {rnd : Option Nat} {h : Heap}
end Go.Fs
namespace Go.Fs
variable {P : Program} {orc : FuncId → List Value → Heap → Option (Value × Heap)} {rnd : Option Nat} {h h' h0 h1 h2 : Heap}
def HOk (h : Heap) : Prop := ∀ b o, h.get b = some o → b < h.next
structure After (h h' : Heap) : Prop where
  next : h.next ≤ h'.next
  get : ∀ b, b < h.next → h'.get b = h.get b
  ok : HOk h → HOk h'
  low : ∀ e, e ≤ h.low → e ≤ h.next → e ≤ h'.low
theorem After.refl (h : Heap) : After h h := ⟨Nat.le_refl _, fun _ _ => rfl, fun x => x, fun _ x _ => x⟩
theorem After.trans (a : After h h1) (b : After h1 h2) : After h h2 where
  next := Nat.le_trans a.next b.next
  get := fun i hi => (b.get i (Nat.lt_of_lt_of_le hi a.next)).trans (a.get i hi)
  ok := fun x => b.ok (a.ok x)
  low := fun e h3 h4 => b.low e (a.low e h3 h4) (Nat.le_trans h4 a.next)
theorem After.push (h : Heap) (o : AObj) : After h (h.push o) where
  next := Nat.le_succ _
  get := fun b hb => by rw [Heap.get_push, if_neg (by omega)]
  ok := fun x b o' hg => by
    rw [Heap.get_push] at hg; split at hg
    · rename_i e; rw [e]; exact Nat.lt_succ_self _
    exact Nat.lt_succ_of_lt (x b o' hg)
  low := fun e h3 _ => h3
def entry (h : Heap) : Heap := { next := h.next, low := h.next, objs := h.objs }
end Go.Fs
namespace Go.Fs
variable {P : Program} {h h' h0 : Heap}
structure SlT (P : Program) (T e : TypeId) (s : Nat) : Prop where
  sl : P.underlying T = some (.slice e)
  info : ∃ i z, P.info? e = some i ∧ i.size = s ∧ 0 < i.bytes ∧ i.bytes ≤ 4096 ∧ i.zero = some z ∧ z.cells.size = s ∧ z.cells.toList.all af0 = true
  pos : 0 < s
def slB (P : Program) (T e : TypeId) (s : Nat) : Bool :=
  match P.underlying T, P.info? e with
  | some (.slice e'), some i => match i.zero with
    | some z => Nat.beq e' e && Nat.beq i.size s && Nat.blt 0 i.bytes && Nat.ble i.bytes 4096 && Nat.beq z.cells.size s && z.cells.toList.all af0 && Nat.blt 0 s
    | none => false
  | _, _ => false
theorem slT_of {T e : TypeId} {s : Nat} (h : slB P T e s = true) : SlT P T e s := by
  unfold slB at h; split at h
  · rename_i e' i hu hi; split at h
    · rename_i z hz; obtain ⟨h, h7⟩ := band h; obtain ⟨h, h6⟩ := band h; obtain ⟨h, h5⟩ := band h; obtain ⟨h, h4⟩ := band h; obtain ⟨h, h3⟩ := band h; obtain ⟨h1, h2⟩ := band h; have := nbeq h1; subst this; exact ⟨hu, ⟨i, z, hi, nbeq h2, nblt h3, nble h4, hz, nbeq h5, h6⟩, nblt h7⟩
    cases h
  cases h
def numbered : Nat → List Value → List (Nat × Value)
  | _, [] => []
  | k, v :: r => (k, v) :: numbered (k + 1) r
end Go.Fs
namespace Go.Fs
variable {P : Program} {orc : FuncId → List Value → Heap → Option (Value × Heap)} {h : Heap} {ops : Array Oper} {n i mem : Nat} {fl : FL} {K : FL → Heap → Prop} {l : List Oper} {bs : List Nat} {segs : List (Nat × Nat × Nat)} {tail : Bool}
  {d : Tmp} {ty : TypeId} {pos : String} {after : Array Edge}
theorem newer_in {lo hi : Nat} (l : List (Nat × AObj)) (b : Nat) (h1 : lo ≤ b) (h2 : b < hi) : look (newer lo hi l) b = look l b := by
  unfold newer; rw [beq_no (show lo ≠ hi by omega)]; simp only [cond_false]
  induction l with
  | nil => rfl
  | cons p r ih =>
    obtain ⟨k, o⟩ := p; rw [List.filter_cons]; by_cases hk : k = b
    · subst hk
      have : inside lo hi (k, o) = true := by
        unfold inside
        have e1 : Nat.ble lo k = true := by rw [Nat.ble_eq]; exact h1
        have e2 : Nat.blt k hi = true := by show Nat.ble (k + 1) hi = true; rw [Nat.ble_eq]; omega
        simp only [e1, e2, Bool.and_self]
      rw [if_pos this]; simp [look]
    split
    · simp only [look, beq_no hk, cond_false, ih]
    simp only [look, beq_no hk, cond_false, ih]
structure Left (h h' h2 : Heap) : Prop where
  next : h2.next = h'.next
  low : h2.low = h.low
  old : ∀ b, b < h.next → h2.get b = h.get b
  new : ∀ b, h.next ≤ b → h2.get b = h'.get b
end Go.Fs
namespace Go.Fs
variable {P : Program} {orc : FuncId → List Value → Heap → Option (Value × Heap)} {h h' : Heap} {ops : Array Oper} {n i mem : Nat} {fl : FL} {K : FL → Heap → Prop} {l : List Oper} {bs : List Nat} {segs : List (Nat × Nat × Nat)} {tail : Bool}
  {d : Tmp} {ty : TypeId} {pos : String} {after : Array Edge} {op : Op} {v : Value}
end Go.Fs
namespace Go.Fs
variable {P : Program}
theorem store_keep {t : TypeId} {a x : Value} {h h' : Heap} {b o : Nat} (ha : a = .pointer (some ⟨b, o, none⟩)) (hs : fsStore P t a x h = some h') (c : Nat) (hc : c ≠ b) : h'.get c = h.get c := by
  subst ha; unfold fsStore at hs; simp only at hs; split at hs
  · rename_i e cs more i hg hi; split at hs
    · simp only [Option.some.injEq] at hs; subst hs; rw [Heap.get_set hg, if_neg hc]
    cases hs
  cases hs
theorem grown_keep {e : TypeId} {m : Nat} {news : List Value} {h : Heap} {v : Value} {h' : Heap} (hg : grown e m news h = (v, h')) (c : Nat) (hc : c < h.next) : h'.get c = h.get c := by
  unfold grown at hg; simp only [Prod.mk.injEq] at hg; obtain ⟨_, rfl⟩ := hg; rw [Heap.get_push, if_neg (by omega)]
theorem grow_keep {e : TypeId} {i : TypeInfo} {s : Value} {m n mk b o : Nat} {news : List Value} {h h' : Heap} {v : Value} (ha : s = .slice (some ⟨b, o, none⟩) n mk) (hs : fsGrow e i s m news h = some (v, h')) (c : Nat) (hc : c ≠ b) (hn : c < h.next) : h'.get c = h.get c := by
  subst ha; unfold fsGrow at hs; simp only at hs
  cases h1 : (Nat.beq m 0 && Nat.beq mk 1) with
  | true =>
    rw [h1] at hs; simp only [cond_true, Option.some.injEq, Prod.mk.injEq] at hs
    rw [hs.2]
  | false =>
    rw [h1] at hs; simp only [cond_false] at hs
    cases hg : h.get b with
    | none => rw [hg] at hs; cases hs
    | some ob =>
      rw [hg] at hs
      cases ob with
      | row e' cs own more =>
        simp only at hs; obtain ⟨_, hs⟩ := bif_some hs
        cases h3 : Nat.beq mk 1 with
        | true =>
          rw [h3] at hs; simp only [cond_true, Option.some.injEq] at hs
          exact grown_keep hs c hn
        | false =>
          rw [h3] at hs; simp only [cond_false] at hs; obtain ⟨_, hs⟩ := bif_some hs
          cases h5 : Nat.ble (o + (n + m) * i.size) cs.length with
          | true =>
            rw [h5] at hs; simp only [cond_true, Option.some.injEq, Prod.mk.injEq] at hs; rw [← hs.2]
            cases Nat.beq m 0 with
            | true => rfl
            | false => simp only [cond_false]; rw [Heap.get_set hg, if_neg hc]
          | false =>
            rw [h5] at hs; simp only [cond_false] at hs
            cases more with
            | false =>
              simp only [Bool.not_false, cond_true, Option.some.injEq] at hs
              exact grown_keep hs c hn
            | true =>
              simp only [Bool.not_true, cond_false] at hs; obtain ⟨_, hs⟩ := bif_some hs; simp only [Option.some.injEq] at hs
              rw [grown_keep hs c hn, Heap.get_drop, if_neg hc]
      | _ => cases hs
theorem append_keep {at_ : Array TypeId} {s x : Value} {n mk b o : Nat} {h h' : Heap} {v : Value} (ha : s = .slice (some ⟨b, o, none⟩) n mk) (hs : fsAppend P at_ s x h = some (v, h')) (c : Nat) (hc : c ≠ b) (hn : c < h.next) : h'.get c = h.get c := by
  unfold fsAppend at hs; split at hs
  · split at hs
    · split at hs
      · split at hs
        · split at hs
          · obtain ⟨_, hs⟩ := bif_some hs; exact grow_keep ha hs c hc hn
          cases hs
        cases hs
      cases hs
    cases hs
  cases hs
theorem turned_keep {call : FuncId → List Value → Heap → Option (Value × Heap)} {yield : Nat → List Value → Heap → Option (Value × Heap)} {o : Oper} {ev : Operand → Value} {h h' : Heap} {v : Value} {k : Nat}
    (hs : fsOp P call yield o ev h = some (v, h')) (ht : turned o.op ev = some k) (c : Nat) (hc : c ≠ k) (hn : c < h.next) : h'.get c = h.get c := by
  unfold turned at ht; split at ht
  · rename_i T a x hop; split at ht
    · rename_i b o' hev; simp only [Option.some.injEq] at ht; subst ht; unfold fsOp at hs; rw [hop] at hs; simp only at hs; obtain ⟨h2, h3, h4⟩ := Option.map_eq_some_iff.1 hs; simp only [Prod.mk.injEq] at h4; rw [← h4.2]; exact store_keep hev h3 c hc
    cases ht
  · rename_i hop; split at ht
    · rename_i b o' n' mk' rest hev; simp only [Option.some.injEq] at ht; subst ht; unfold fsOp at hs; rw [hop] at hs; simp only at hs; unfold fsBuiltin at hs; rw [hev] at hs
      cases rest with
      | nil => cases hs
      | cons x rest =>
        cases rest with
        | nil => exact append_keep rfl hs c hc hn
        | cons y rest => cases hs
    cases ht
  cases ht
section
variable {h0 : Heap} {ops : Array Oper} {n : Nat} {call : FuncId → List Value → Heap → Option (Value × Heap)} {yield : Nat → List Value → Heap → Option (Value × Heap)}
structure LDid (P : Program) (call : FuncId → List Value → Heap → Option (Value × Heap)) (yield : Nat → List Value → Heap → Option (Value × Heap)) (ops : Array Oper) (n : Nat) (h0 : Heap) (rd chg : List Nat) (o : Oper) (i : Nat) (s s' : DSt) : Prop where
  bs : s'.bs = s.bs ++ [beforeOf s.bs o]
  did : Did (fsOp P call yield) ops n (fun b ob => h0.get b = some ob ∧ b < h0.next ∧ b ∈ rd) o i s s'
  next : s.h.next ≤ s'.h.next
  keep : ∀ b, b < s.h.next → b ∉ chg → s'.h.get b = s.h.get b
theorem Did.mono {step : Oper → (Operand → Value) → Heap → Option (Value × Heap)} {X X' : Nat → AObj → Prop} {o : Oper} {i : Nat} {s s' : DSt} (h : Did step ops n X o i s s') (hX : ∀ b ob, X b ob → X' b ob) : Did step ops n X' o i s s' := by
  cases h with
  | skip hw hp hh hs hm ht => exact .skip hw hp hh hs hm ht
  | calm hw hc v h' hst hn hp hh hs hm ht => exact .calm hw hc v h' hst hn hp hh hs hm ht
  | still hw v objs hX0 hst hp hh hs hm ht => exact .still hw v objs (fun b ob hl => hX b ob (hX0 b ob hl)) hst hp hh hs hm ht
  | mem hw hc v h' ord ho htail hst hn hp hm hs hnx hk => exact .mem hw hc v h' ord ho htail hst hn hp hm hs hnx hk
theorem LDid.mono {rd rd' chg chg' : List Nat} {o : Oper} {i : Nat} {s s' : DSt} (h : LDid P call yield ops n h0 rd chg o i s s') (h1 : ∀ b ∈ rd, b ∈ rd') (h2 : ∀ b ∈ chg, b ∈ chg') : LDid P call yield ops n h0 rd' chg' o i s s' :=
  ⟨h.bs, h.did.mono fun b ob ⟨a, b1, c⟩ => ⟨a, b1, h1 b c⟩, h.next, fun b hb hn => h.keep b hb fun hm => hn (h2 b hm)⟩
theorem newer_keep {lo hi : Nat} {l objs : List (Nat × AObj)} {c : Nat} (hc : c < lo) : look (newer lo hi l ++ objs) c = look objs c := by
  rw [look_append]
  cases hl : look (newer lo hi l) c with
  | none => rfl
  | some o => have := (newer_some _ _ _ hl).1; omega
theorem lateMem_did {o : Oper} {i : Nat} {x x' : LSt} (hw : fsWanted ops x.1.t o = some true) (hc : calm o.op = false) (hf : lateMem P (fsOp P call yield) ops n o i x = some x') :
    x'.2.1 = x.2.1 ∧ (∀ k ∈ x.2.2, k ∈ x'.2.2) ∧ LDid P call yield ops n h0 x'.2.1 x'.2.2 o i x.1 x'.1 := by
  unfold lateMem at hf; simp only at hf; generalize hord : Nat.beq (x.1.mem &&& beforeOf x.1.bs o) x.1.mem = ord at hf
  cases htl : (x.1.tail && !ord) with
  | true => rw [htl] at hf; cases hf
  | false =>
    rw [htl] at hf; simp only [cond_false] at hf
    have htail : x.1.tail = true → ord = true := fun h => by rw [h] at htl; simpa using htl
    split at hf
    · rename_i v h' hst
      cases hlt : Nat.blt h'.next x.1.h.next with
      | true => rw [hlt] at hf; cases hf
      | false =>
        rw [hlt] at hf; simp only [cond_false] at hf
        have hn : x.1.h.next ≤ h'.next := by have := nble_no hlt; omega
        split at hf
        · rename_i t hp
          cases hlow : Nat.ble x.1.h.next h'.low with
          | true =>
            rw [hlow] at hf; simp only [cond_true, Option.some.injEq] at hf; subst hf
            exact ⟨rfl, fun k hk => hk, rfl, .mem hw hc v h' ord hord.symm htail hst hn hp rfl rfl rfl (.inl ⟨nble hlow, rfl, rfl, rfl⟩), hn, fun b hb _ => newer_keep hb⟩
          | false =>
            rw [hlow] at hf; simp only [cond_false] at hf; obtain ⟨h5, h6⟩ := bif_some hf; split at h6
            · rename_i k hk; simp only [Option.some.injEq] at h6; subst h6; refine ⟨rfl, fun k' hk' => List.mem_cons_of_mem _ hk', rfl, .mem hw hc v h' ord hord.symm htail hst hn hp rfl rfl rfl (.inr ⟨h5, rfl, rfl, rfl⟩), hn, fun b hb hnb => ?_⟩; subst h5; have := turned_keep hst hk b (fun e => hnb (by subst e; exact List.mem_cons_self)) hb; exact this
            cases h6
        cases hf
    cases hf
theorem lateDraw_did {o : Oper} {i : Nat} {x x' : LSt} (hf : lateDraw P h0 (fsOp P call yield) ops n o i x = some x') :
    (∀ b ∈ x.2.1, b ∈ x'.2.1) ∧ (∀ k ∈ x.2.2, k ∈ x'.2.2) ∧ LDid P call yield ops n h0 x'.2.1 x'.2.2 o i x.1 x'.1 := by
  unfold lateDraw at hf; simp only at hf; split at hf
  · rename_i hw; obtain ⟨t, h1, h2⟩ := Option.map_eq_some_iff.1 hf; subst h2; exact ⟨fun _ h => h, fun _ h => h, rfl, .skip hw h1 rfl rfl rfl rfl, Nat.le_refl _, fun _ _ _ => rfl⟩
  · cases hf
  rename_i hw; split at hf
  · rename_i hc; split at hf
    · rename_i v h' hst; obtain ⟨h3, h4⟩ := bif_some hf; obtain ⟨t, h1, h2⟩ := Option.map_eq_some_iff.1 h4; subst h2; exact ⟨fun _ h => h, fun _ h => h, rfl, .calm hw hc v h' hst (nbeq h3) h1 rfl rfl rfl rfl, Nat.le_refl _, fun _ _ _ => rfl⟩
    cases hf
  rename_i hc
  have hc : calm o.op = false := by simpa using hc
  split at hf
  · rename_i v b hq; obtain ⟨t, h1, h2⟩ := Option.map_eq_some_iff.1 hf; subst h2; refine ⟨fun _ h => List.mem_append_right _ h, fun _ h => h, rfl, ?_, Nat.le_refl _, fun _ _ _ => rfl⟩; unfold quietV at hq; split at hq
    · rename_i T a hop; split at hq
      · rename_i b' o' hev; split at hq
        · rename_i ob hg; obtain ⟨h3, h4⟩ := bif_some hq; obtain ⟨v', h5, h6⟩ := Option.map_eq_some_iff.1 h4; simp only [Prod.mk.injEq] at h6; obtain ⟨rfl, rfl⟩ := h6; refine .still hw v' [(b', ob)] (fun c oc hl => ?_) ?_ h1 rfl rfl rfl rfl
          · simp only [look] at hl
            cases hbc : Nat.beq b' c with
            | true =>
              rw [hbc] at hl; simp only [cond_true, Option.some.injEq] at hl; obtain rfl := nbeq hbc; subst hl
              exact ⟨hg, nblt h3, List.mem_append_left _ List.mem_cons_self⟩
            | false => rw [hbc] at hl; cases hl
          unfold fsOp; rw [hop]; simp only [hev, h5, Option.map_some]
        cases hq
      cases hq
    · rename_i hop; split at hq
      · rename_i y hargs; obtain ⟨v', h5, h6⟩ := Option.map_eq_some_iff.1 hq; simp only [Prod.mk.injEq] at h6; obtain ⟨rfl, rfl⟩ := h6; refine .still hw v' [] (fun c oc hl => by cases hl) ?_ h1 rfl rfl rfl rfl; unfold fsOp; rw [hop]; simp only [fsBuiltin, hargs, List.map_cons, List.map_nil, h5, Option.map_some]
      cases hq
    · rename_i T a lo hi mx hop; split at hq
      · rename_i p' mk' hev; obtain ⟨v', h5, h6⟩ := Option.map_eq_some_iff.1 hq; simp only [Prod.mk.injEq] at h6; obtain ⟨rfl, rfl⟩ := h6; refine .still hw v' [] (fun c oc hl => by cases hl) ?_ h1 rfl rfl rfl rfl; unfold fsOp; rw [hop]; simp only [hev, h5, Option.map_some]
      · rename_i b' o' n' mk' hne hev; split at hq
        · rename_i ob hg; obtain ⟨h3, h4⟩ := bif_some hq; obtain ⟨v', h5, h6⟩ := Option.map_eq_some_iff.1 h4; simp only [Prod.mk.injEq] at h6; obtain ⟨rfl, rfl⟩ := h6; refine .still hw v' [(b', ob)] (fun c oc hl => ?_) ?_ h1 rfl rfl rfl rfl
          · simp only [look] at hl
            cases hbc : Nat.beq b' c with
            | true =>
              rw [hbc] at hl; simp only [cond_true, Option.some.injEq] at hl; obtain rfl := nbeq hbc; subst hl
              exact ⟨hg, nblt h3, List.mem_append_left _ List.mem_cons_self⟩
            | false => rw [hbc] at hl; cases hl
          unfold fsOp; rw [hop]; simp only [hev, h5, Option.map_some]
        cases hq
      cases hq
    cases hq
  obtain ⟨e1, e2, e3⟩ := lateMem_did (h0 := h0) hw hc hf; exact ⟨fun b hb => by rw [e1]; exact hb, e2, e3⟩
theorem late_trace : ∀ (l : List Oper) (i : Nat) (x x' : LSt), lateDrawn P h0 (fsOp P call yield) ops n l i x = some x' → (∀ b ∈ x.2.1, b ∈ x'.2.1) ∧ (∀ k ∈ x.2.2, k ∈ x'.2.2) ∧ ∃ st : Nat → DSt, st i = x.1 ∧ st (i + l.length) = x'.1 ∧
    ∀ j o, l[j]? = some o → LDid P call yield ops n h0 x'.2.1 x'.2.2 o (i + j) (st (i + j)) (st (i + j + 1))
  | [], i, x, x', h => by
    simp only [lateDrawn, Option.some.injEq] at h; subst h
    exact ⟨fun _ h => h, fun _ h => h, fun _ => x.1, rfl, rfl, fun j o hj => by simp at hj⟩
  | o :: l, i, x, x', h => by
    simp only [lateDrawn] at h; split at h
    · rename_i x1 hx1; obtain ⟨a1, a2, a3⟩ := lateDraw_did hx1; obtain ⟨b1, b2, st, h1, h2, h3⟩ := late_trace l (i + 1) x1 x' h; refine ⟨fun b hb => b1 b (a1 b hb), fun k hk => b2 k (a2 k hk), fun k => if k = i then x.1 else st k, by simp, ?_, fun j o' hj => ?_⟩
      · simp only [List.length_cons]; rw [if_neg (by omega), ← h2]; congr 1; omega
      cases j with
      | zero =>
        simp at hj; subst hj
        simpa [h1] using a3.mono b1 b2
      | succ j =>
        simp only [List.getElem?_cons_succ] at hj; have := h3 j o' hj; rw [show i + 1 + j = i + (j + 1) by omega] at this; simp only; rw [if_neg (by omega), if_neg (by omega)]; exact this
    cases h
theorem traceL_of {t0 : Tr} {s : DSt} (h : drawnL P h0 (fsOp P call yield) ops n ⟨t0, h0, [], [], 0, false⟩ = some s) : ∃ st, Trace (fsOp P call yield) ops n st t0 h0 ∧ st ops.size = s := by
  unfold drawnL at h; split at h
  · rename_i x hr; obtain ⟨hl, h⟩ := bif_some h; simp only [Option.some.injEq] at h; subst h; obtain ⟨_, _, st, h1, h2, h3⟩ := late_trace _ _ _ _ hr
    have h2' : st ops.size = x.1 := by simpa using h2
    have h3' : ∀ i o, ops[i]? = some o → LDid P call yield ops n h0 x.2.1 x.2.2 o i (st i) (st (i + 1)) := fun i o ho => by
      have := h3 i o (by simpa using ho); simpa only [Nat.zero_add] using this
    have hap : ∀ b ∈ x.2.1, b ∉ x.2.2 := fun b hb hk => by
      have := List.all_eq_true.1 (List.all_eq_true.1 hl b hb) b hk; simp at this
    have hst : ∀ q, q ≤ ops.size → h0.next ≤ (st q).h.next ∧ ∀ b, b < h0.next → b ∉ x.2.2 → (st q).h.get b = h0.get b := fun q => by
      induction q with
      | zero => intro _; rw [h1]; exact ⟨Nat.le_refl _, fun _ _ _ => rfl⟩
      | succ q ih =>
        intro hq; obtain ⟨i1, i2⟩ := ih (by omega); have hd := h3' q ops[q] (Array.getElem?_eq_getElem (by omega)); exact ⟨Nat.le_trans i1 hd.next, fun b hb hn => (hd.keep b (by omega) hn).trans (i2 b hb hn)⟩
    refine ⟨st, ⟨h1, fun i o ho => ?_⟩, h2'⟩; have hd := h3' i o ho; refine ⟨hd.bs, hd.did.mono fun b ob ⟨a, b1, c⟩ => ⟨a, b1, .inr fun q hq => ?_⟩⟩; rw [(hst q hq).2 b b1 (hap b c)]; exact a
  cases h
end
section
variable {call : FuncId → List Value → Heap → Option (Value × Heap)} {yield : Nat → List Value → Heap → Option (Value × Heap)} {ops : Array Oper} {n : Nat} {t0 : Tr} {h0 : Heap} {S : Nat → Prop} {ρ0 : Ren} {B : Nat} {w0 : World}
theorem drawn_wpL (hcs : CallSnd P B w0 call) (hys : YieldSound P B w0 yield) (hok : regionOk ops = true) {s : DSt} (hf : drawnL P h0 (fsOp P call yield) ops n ⟨t0, h0, [], [], 0, false⟩ = some s)
    {w : World} {a : Act} (hr : HR P ρ0 S B w0 h0 w) (ht : TrR ρ0 S t0 n a.tmps) {r : Option Nat} {nn : Nat} {Q : Exit → Act → World → Prop}
    (k : ∀ ρ' w' a', Moved P B w0 ρ0 ρ' S h0 s.h w w' → TrR ρ' (Ext S h0 s.h) s.t n a'.tmps → a'.defers = a.defers → Q .normal a' w') (t : Nat) :
    wpOpsIn (Wide r) nn P ops Q (Region.schedule true ops t) a w := drawn_wpT hcs hys hok (traceL_of hf) hr ht k t
end
end Go.Fs
