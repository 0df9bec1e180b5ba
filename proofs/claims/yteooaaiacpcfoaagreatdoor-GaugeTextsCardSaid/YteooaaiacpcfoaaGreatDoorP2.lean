/- Parts of the proof: an evaluator of the model, what it is sound for, and contracts of functions. No condition. -/
import Derived.Test.YteooaaiacpcfoaaGreatDoorP1
import Derived.RangeFuncRecord
import Derived.LoopNIn
import Derived.Test.YteooaaiacpcfoaaGreatDoorP0
import Derived.KernelRfl
set_option linter.all false
namespace Go.Fs
open Go.RowKit (Below)
variable {P : Program}
section
variable {call : FuncId → List Value → Heap → Option (Value × Heap)} {yield : Nat → List Value → Heap → Option (Value × Heap)} {ops : Array Oper} {n : Nat} {st : Nat → DSt} {t0 : Tr} {h0 : Heap}
variable {S : Nat → Prop} {ρ0 : Ren} {B : Nat} {w0 ws : World} {d0 : List Deferred}
theorem HR.empty {ρ : Ren} {S S1 : Nat → Prop} {H : Heap} {w : World} (hr : HR P ρ S B w0 H w) (h1 : ∀ b, S1 b → S b) {nx : Nat} (hnx : ∀ b, S1 b → b < nx) (hpos : 0 < nx) :
    HR P ρ S1 B w0 { next := nx, low := nx, objs := [] } w where
  objs := fun i o hi => by cases hi
  inj := fun i j oi oj hi => by cases hi
  base := fun i o hi => by cases hi
  ro := fun i o hi => by cases hi
  ids := fun b hb => ⟨hnx b hb, (hr.ids b (h1 b hb)).2⟩
  pos := hpos
  below := hr.below
  drawn := hr.drawn
  size := hr.size
theorem Moved.selfS {ρ : Ren} {H : Heap} {w : World} {L : Nat} (hr : HR P ρ S B w0 H w) : MovedS P B w0 ρ ρ S S H H L w w where
  agree := fun _ _ => rfl
  sub := fun _ hb => hb
  hr := hr
  frame := Frame.refl _ _ _
  keep := fun _ _ _ => rfl
  old := fun _ o ho _ => ⟨o, ho, rfl⟩
  fresh := fun i o ho hS => absurd (hr.objs i o ho).1 hS
theorem drawn_go (hst0 : HR P ρ0 S B w0 h0 ws) (hcs : CallSnd P B w0 call) (hys : YieldSound P B w0 yield) (T : Trace (fsOp P call yield) ops n st t0 h0) (hed : EdgesOk ops) (hdst : DstOk ops) (hn : n ≤ 4000) (hrd : ReadsOk st ops)
    (h0ids : ∀ b, S b → b < h0.next) (h0S : ∀ b o, h0.get b = some o → S b) (hpos0 : 0 < h0.next) {r : Option Nat} {nn : Nat} {Q : Exit → Act → World → Prop}
    (k : ∀ E ρ H w a, (∀ i, i < ops.size → E i = true) → Inv P B w0 st ops n t0 h0 S ρ0 ws d0 E ρ H w a → Q .normal a w) :
    ∀ (E : Nat → Bool) (l : List Nat), Sched ops E l → ∀ ρ H w a, Inv P B w0 st ops n t0 h0 S ρ0 ws d0 E ρ H w a → wpOpsIn (Wide r) nn P ops Q l a w := by
  intro E l hs
  induction hs with
  | nil E hall => intro ρ H w a I; exact k E ρ H w a hall I
  | cons E i o l ho hE he _ ih =>
    intro ρ H w a I; have hi : i < ops.size := (Array.getElem?_eq_some_iff.1 ho).1; have hbf := T.bf_done hed I.down ho he; have hlook := I.tmp.look T hed hdst hn hrd I.down ho hE he; have hev := eval_of_look hlook
    have hwant : ∀ b, fsWanted ops (st i).t o = some b → Region.wanted o (yielded ops a.tmps) = b := fun b hb => wanted_ok (fun j want d hg hd => by
      refine hlook d ?_; unfold Oper.looksAt; refine List.mem_append_right _ ?_; rw [hg]
      simp [hd]) hb
    have h0n : h0.next ≤ (st i).h.next := by have := T.next 0 i (by omega) (by omega); rwa [T.zero] at this
    have hidsB : ∀ b, SB st ops S i b → b < (st i).h.next := T.ids_lt h0ids (by omega) (T.bf_lt hed i); simp only [wpOpsIn, ho]; have hdid := (T.did i o ho).2
    cases hdid with
    | skip hw hp hh hs hm ht =>
      rw [if_neg (by rw [hwant _ hw]; simp)]; refine ⟨wide_about, ?_⟩; have hnm : ¬ isMem st ops i := fun h => h.2 (by rw [hs])
      exact ih ρ H w _ (I.quiet ho hnm hh hbf (fun _ _ => rfl) (Moved.selfS I.moved.hr) (I.tmp.put hdst hn I.down (fun _ _ => rfl) ho hE hp VR.undef) (put_defers _ _ _))
    | calm hw hc v h' hst hnx hp hh hs hm ht =>
      rw [if_pos (hwant _ hw)]; have hnm : ¬ isMem st ops i := fun h => h.2 (by rw [hs]); have hsub1 : ∀ b, SB st ops S i b → SE st ops S E b := fun b hb => idsOf_mono hbf b hb; have hrm := I.moved.hr.empty hsub1 hidsB (by omega : 0 < (st i).h.next); refine op_wp hcs hys hrm hev hst fun ρ1 w1 v1 m hv => ?_
      have hfr := framed (H2 := H) (S2 := SE st ops S E) (L := min (st ops.size).h.low h0.next) I.moved.hr hsub1 (fun b o' hg => by cases hg) hrm m (fun b h1 h2 => by
          have h3 : (st i).h.next ≤ b := h1
          omega) (fun b => ⟨.inl, fun h => by
            rcases h with h | ⟨h1, h2⟩
            · exact h
            have h3 : (st i).h.next ≤ b := h1
            omega⟩) (fun b hb => (I.moved.hr.ids b hb).1) I.moved.hr.pos
        (fun b o' hb hg => absurd (I.moved.hr.objs b o' hg).1 hb) (fun b o' hb hg => .inr ⟨rfl, hg⟩) (fun b o' hb hg => absurd (I.moved.hr.objs b o' hg).1 hb) (fun _ _ _ => rfl)
      have hag : ∀ b, SE st ops S E b → glue (SE st ops S E) ρ ρ1 b = ρ b := fun b hb => glue_in hb; refine ih _ H w1 _ (I.quiet ho hnm hh hbf hag hfr (I.tmp.put hdst hn I.down hag ho hE hp (hv.mono fun b hb => ?_)) (put_defers _ _ _)); rcases hb with hb | ⟨h1, h2⟩
      · exact ⟨idsOf_mono (fun m hm => .inr hm) b hb, by rw [glue_in (hsub1 b hb), m.agree b hb]⟩
      have h3 : (st i).h.next ≤ b := h1
      omega
    | still hw v objs hX hst hp hh hs hm ht =>
      rw [if_pos (hwant _ hw)]; have hnm : ¬ isMem st ops i := fun h => h.2 (by rw [hs]); have hsub1 : ∀ b, SB st ops S i b → SE st ops S E b := fun b hb => idsOf_mono hbf b hb; have hSb : ∀ b ob, look objs b = some ob → S b := fun b ob hl => h0S b ob (hX b ob hl).1
      have hHb : ∀ b ob, look objs b = some ob → H.get b = some ob := fun b ob hl => by
        obtain ⟨hX1, hX2, hX3⟩ := hX b ob hl; rcases hX3 with hX3 | hX3
        · rw [I.moved.keep b (hSb b ob hl) (by omega)]; exact hX1
        rcases I.mode with A | ⟨p, Bm⟩
        · rw [A.base b hX2]; exact hX1
        rw [Bm.get b]; exact hX3 p Bm.le
      have hrm : HR P ρ (SB st ops S i) B w0 { next := (st i).h.next, low := (st i).h.next, objs := objs } w := {
        objs := fun c oc hc => by
          have hS := hSb c oc hc; refine ⟨.inl hS, ?_⟩; have h1 := (hst0.objs c oc (hX c oc hc).1).2; have h2 := (I.moved.hr.objs c oc (hHb c oc hc)).2; have h3 := I.moved.agree c hS; rw [← h3] at h1; exact (h1.keepS h2 I.moved.agree).mono fun c hc => ⟨.inl hc, I.moved.agree c hc⟩
        inj := fun c d oc od hc hd => I.moved.hr.inj c d oc od (hHb c oc hc) (hHb d od hd)
        base := fun c oc hc => I.moved.hr.base c oc (hHb c oc hc)
        ro := fun c oc hc => I.moved.hr.ro c oc (hHb c oc hc)
        ids := fun c hc => ⟨hidsB c hc, (I.moved.hr.ids c (hsub1 c hc)).2⟩
        pos := (by omega : 0 < (st i).h.next)
        below := I.moved.hr.below
        drawn := I.moved.hr.drawn
        size := I.moved.hr.size }
      refine op_wp hcs hys hrm hev hst fun ρ1 w1 v1 m hv => ?_
      have hfr := framed (H2 := H) (S2 := SE st ops S E) (L := min (st ops.size).h.low h0.next) I.moved.hr hsub1 (hm := { next := (st i).h.next, low := (st i).h.next, objs := objs }) hHb hrm m (fun b h1 h2 => by
          have h3 : (st i).h.next ≤ b := h1; have h4 : b < (st i).h.next := h2
          omega) (fun b => ⟨.inl, fun h => by
            rcases h with h | ⟨h1, h2⟩
            · exact h
            have h3 : (st i).h.next ≤ b := h1; have h4 : b < (st i).h.next := h2
            omega⟩) (fun b hb => (I.moved.hr.ids b hb).1) I.moved.hr.pos
        (fun b o' hb hg => absurd (I.moved.hr.objs b o' hg).1 hb) (fun c oc hc hg => by
          cases hq : look objs c with
          | none => exact .inr ⟨hq, hg⟩
          | some o2 =>
            have h3 := hHb c o2 hq; rw [hg] at h3; injection h3 with h3; subst h3
            exact .inl ⟨by show look objs c ≠ none; rw [hq]; simp, hq⟩) (fun b o' hb hg => absurd (I.moved.hr.objs b o' hg).1 hb) (fun _ _ _ => rfl)
      have hag : ∀ b, SE st ops S E b → glue (SE st ops S E) ρ ρ1 b = ρ b := fun b hb => glue_in hb; refine ih _ H w1 _ (I.quiet ho hnm hh hbf hag hfr (I.tmp.put hdst hn I.down hag ho hE hp (hv.mono fun b hb => ?_)) (put_defers _ _ _)); rcases hb with hb | ⟨h1, h2⟩
      · exact ⟨idsOf_mono (fun m hm => .inr hm) b hb, by rw [glue_in (hsub1 b hb), m.agree b hb]⟩
      have h3 : (st i).h.next ≤ b := h1; have h4 : b < (st i).h.next := h2
      omega
    | mem hw hc v h' ord hord htail hst hnn hp hm hs hnx hk =>
      rw [if_pos (hwant _ hw)]; have hmi : isMem st ops i := ⟨hi, by rw [hs]; simp⟩; obtain ⟨hrm, hgo⟩ := I.memStep T hed h0ids h0S hpos0 ho hE hmi hbf hord htail (v := v) hnx hnn hk; refine op_wp hcs hys hrm hev hst fun ρ1 w1 v1 m hv => ?_; obtain ⟨ρ2, H2, I2⟩ := hgo ρ1 w1 v1 (a.put o.dst v1) m hv (put_defers _ _ _) fun ρ2 hag hv2 => I.tmp.put hdst hn I.down hag ho hE hp hv2; exact ih ρ2 H2 w1 _ I2
theorem Inv.end {E : Nat → Bool} {ρ : Ren} {H : Heap} {w : World} {a : Act} {step : Oper → (Operand → Value) → Heap → Option (Value × Heap)} (T : Trace step ops n st t0 h0) (hdst : DstOk ops) (hn : n ≤ 4000)
    (h0ids : ∀ b, S b → b < h0.next) (h0S : ∀ b o, h0.get b = some o → S b) (I : Inv P B w0 st ops n t0 h0 S ρ0 ws d0 E ρ H w a) (hall : ∀ i, i < ops.size → E i = true) :
    Moved P B w0 ρ0 ρ S h0 (st ops.size).h ws w ∧ TrR ρ (Ext S h0 (st ops.size).h) (st ops.size).t n a.tmps := by
  have hM := I.moved; have hHR := hM.hr
  have h0n : h0.next ≤ (st ops.size).h.next := by have := T.next 0 ops.size (by omega) (by omega); rwa [T.zero] at this
  have hSE : ∀ b, SE st ops S E b → Ext S h0 (st ops.size).h b := fun b hb => by
    rcases hb with hb | ⟨m, h1, h2, h3⟩
    · exact .inl hb
    refine .inr ⟨T.seg_ge h2 h3, ?_⟩; have := T.next (m + 1) ops.size (by omega) (by omega); exact Nat.lt_of_lt_of_le h3.2 this
  have hSlt : ∀ b, SE st ops S E b → b < h0.next → S b := fun b hb hlt => by
    rcases hb with hb | ⟨m, h1, h2, h3⟩
    · exact hb
    have := T.seg_ge h2 h3; omega
  -- the same objects
  have hget : ∀ b, (st ops.size).h.get b = H.get b := fun b => by
    rcases I.mode with A | ⟨p, Bm⟩
    · have ht : (st ops.size).tail = false := by
        cases h : (st ops.size).tail with
        | false => rfl
        | true =>
          obtain ⟨k, h1, h2, h3⟩ := T.tail_from ops.size (by omega) h; rw [A.calm k (hall k h1) h2] at h3; cases h3
      obtain ⟨sb1, sb2, sb3⟩ := T.stable (fun b o' hg => h0ids b (h0S b o' hg)) ops.size (by omega) ht; by_cases h1 : b < h0.next
      · rw [sb1 b h1, A.base b h1]
      by_cases h2 : b < (st ops.size).h.next
      · obtain ⟨m, h3, h4⟩ := T.cover ops.size (by omega) b (by omega) h2; rw [sb2 m h3 b h4, A.news m (hall m h3) h3 b h4]
      have e1 : (st ops.size).h.get b = none := by
        cases hq : (st ops.size).h.get b with
        | none => rfl
        | some o => have := sb3 b o hq; omega
      have e2 : H.get b = none := by
        cases hq : H.get b with
        | none => rfl
        | some o =>
          have h3 := hSE b (hHR.objs b o hq).1; rcases h3 with h3 | h3
          · have := h0ids b h3; omega
          omega
      rw [e1, e2]
    rw [Bm.get b]
    have hqh : ∀ q, p ≤ q → q ≤ ops.size → (st q).h = (st p).h := fun q => by
      induction q with
      | zero => intro h1 _; have : p = 0 := by omega
                subst this; rfl
      | succ q ih =>
        intro h1 h2; by_cases hq : p = q + 1
        · subst hq; rfl
        have hqo : ops[q]? = some ops[q] := Array.getElem?_eq_getElem (by omega); rcases T.mem_or q _ hqo with ⟨h3, _⟩ | ⟨_, _, _, h3, _⟩
        · exfalso; have := (Bm.all q h3).1 (hall q (by omega)); omega
        rw [h3]; exact ih (by omega) (by omega)
    rw [hqh ops.size Bm.le (Nat.le_refl _)]
  refine ⟨{
    agree := hM.agree
    next := h0n
    hr := {
      objs := fun i o hi => by
        rw [hget] at hi; obtain ⟨h1, h2⟩ := hHR.objs i o hi; exact ⟨hSE i h1, h2.mono fun b hb => ⟨hSE b hb, rfl⟩⟩
      inj := fun i j oi oj hi hj => by rw [hget] at hi hj; exact hHR.inj i j oi oj hi hj
      base := fun i o hi => by rw [hget] at hi; exact hHR.base i o hi
      ro := fun i o hi => by rw [hget] at hi; exact hHR.ro i o hi
      ids := fun b hb => by
        rcases hb with hb | hb
        · have := h0ids b hb; exact ⟨by omega, (hHR.ids b (hM.sub b hb)).2⟩
        obtain ⟨m, h3, h4⟩ := T.cover ops.size (by omega) b hb.1 hb.2; exact ⟨hb.2, (hHR.ids b (.inr ⟨m, hall m h3, h3, h4⟩)).2⟩
      pos := by have := hHR.pos; rwa [I.next] at this
      below := hHR.below
      drawn := hHR.drawn
      size := hHR.size }
    frame := hM.frame
    low := by have := T.low 0 ops.size (by omega) (by omega); rwa [T.zero] at this
    keep := fun i hi hl => by
      rw [hget]; by_cases hS : S i
      · exact hM.keep i hS (by omega)
      have e1 : h0.get i = none := by
        cases hq : h0.get i with
        | none => rfl
        | some o => exact absurd (h0S i o hq) hS
      have e2 : H.get i = none := by
        cases hq : H.get i with
        | none => rfl
        | some o => exact absurd (hSlt i (hHR.objs i o hq).1 hi) hS
      rw [e1, e2]
    old := fun i o hi hlt => by
      rw [hget] at hi; exact hM.old i o hi (hSlt i (hHR.objs i o hi).1 hlt)
    fresh := fun i o hi hge => by
      rw [hget] at hi
      obtain ⟨h1, h2⟩ := hM.fresh i o hi fun hS => by have := h0ids i hS; omega
      refine ⟨h1, ?_⟩; rcases h2 with h2 | ⟨j, oj, h3, h4, h5, h6⟩
      · exact .inl h2
      have h7 := h0ids j (h0S j oj h3)
      exact .inr ⟨j, oj, h3, h4, h5, by omega, h7⟩ }, ?_⟩
  obtain ⟨t1, t2, t3⟩ := I.tmp; refine ⟨t1, hn, fun x => ?_⟩; by_cases hw : ∃ (j : Nat) (oj : Oper), ops[j]? = some oj ∧ oj.dst = some x
  · obtain ⟨j, oj, hj, hjx⟩ := hw; have hjs : j < ops.size := (Array.getElem?_eq_some_iff.1 hj).1; rw [T.get_new hdst hn ops.size (Nat.le_refl _) j oj x hjs hj hjx]; exact (t2 j oj x (hall j hjs) hj hjx).mono fun b hb => ⟨hSE b (cl_SE I.down (hall j hjs) b hb), rfl⟩
  rw [T.get_old hn ops.size (Nat.le_refl _) x fun j oj _ hok hkx => hw ⟨j, oj, hok, hkx⟩]; exact (t3 x fun j oj _ hok hkx => hw ⟨j, oj, hok, hkx⟩).mono fun b hb => ⟨.inl hb, rfl⟩
theorem dstAt_mem {ops : Array Oper} {x : Tmp} {j : Nat} {oj : Oper} (hj : ops[j]? = some oj) (hx : oj.dst = some x) : j ∈ dstAt ops.toList x := by
  unfold dstAt; refine List.mem_filterMap.2 ⟨(oj, j), ?_, ?_⟩
  · rw [List.mem_zipIdx_iff_getElem?]; simpa using hj
  simp [hx]
theorem regionOk_spec {ops : Array Oper} (h : regionOk ops = true) : EdgesOk ops ∧ DstOk ops ∧
    ∀ (i : Nat) (oi : Oper), ops[i]? = some oi → ∀ x ∈ oi.looksAt ops, ∀ (j : Nat) (oj : Oper), ops[j]? = some oj → oj.dst = some x →
      j = i ∨ ((bsOf ops.toList []).getD i 0).testBit j = true ∨ ((bsOf ops.toList []).getD j 0).testBit i = true := by
  have key : ∀ (i : Nat) (o : Oper), ops[i]? = some o → opOk ops ops.toList (bsOf ops.toList []) o i = true := fun i o ho => by
    unfold regionOk at h; have := List.all_eq_true.1 h (o, i) (by rw [List.mem_zipIdx_iff_getElem?]; simpa using ho); exact this
  refine ⟨fun i o ho e he hb => ?_, fun i j oi oj d hi hj hdi hdj => ?_, fun i oi hi x hx j oj hj hjx => ?_⟩
  · have := key i o ho; unfold opOk at this; obtain ⟨h1, _⟩ := band this; obtain ⟨h2, _⟩ := band h1; have := List.all_eq_true.1 h2 e he; rw [hb] at this; exact nblt (by simpa using this)
  · have := key i oi hi; unfold opOk at this; obtain ⟨h1, _⟩ := band this; obtain ⟨_, h2⟩ := band h1; rw [hdi] at h2; exact nbeq (List.all_eq_true.1 h2 j (dstAt_mem hj hdj))
  have := key i oi hi; unfold opOk at this; obtain ⟨_, h1⟩ := band this; have h2 := List.all_eq_true.1 (List.all_eq_true.1 h1 x hx) j (dstAt_mem hj hjx); simp only [Bool.or_eq_true] at h2; rcases h2 with (h2 | h2) | h2
  · exact .inl (nbeq h2)
  · exact .inr (.inl h2)
  exact .inr (.inr h2)
theorem bsOf_trace {step : Oper → (Operand → Value) → Heap → Option (Value × Heap)} (T : Trace step ops n st t0 h0) : ∀ (l : List Oper) (i : Nat), l = ops.toList.drop i → i ≤ ops.size → bsOf l (st i).bs = (st ops.size).bs
  | [], i, hl, hi => by
    have : ops.size ≤ i := by
      have := congrArg List.length hl; simp at this; omega
    have : i = ops.size := by omega
    subst this; rfl
  | o :: r, i, hl, hi => by
    have hlt : i < ops.size := by
      have := congrArg List.length hl; simp at this; omega
    have ho : ops[i]? = some o := by
      have := congrArg (·[0]?) hl; simpa using this.symm
    have hr : r = ops.toList.drop (i + 1) := by
      have := congrArg List.tail hl; simpa using this
    simp only [bsOf]; rw [← (T.did i o ho).1]; exact bsOf_trace T r (i + 1) hr (by omega)
theorem drawn_wpT (hcs : CallSnd P B w0 call) (hys : YieldSound P B w0 yield) (hok : regionOk ops = true) {s : DSt} (hf : ∃ st, Trace (fsOp P call yield) ops n st t0 h0 ∧ st ops.size = s)
    {w : World} {a : Act} (hr : HR P ρ0 S B w0 h0 w) (ht : TrR ρ0 S t0 n a.tmps) {r : Option Nat} {nn : Nat} {Q : Exit → Act → World → Prop}
    (k : ∀ ρ' w' a', Moved P B w0 ρ0 ρ' S h0 s.h w w' → TrR ρ' (Ext S h0 s.h) s.t n a'.tmps → a'.defers = a.defers → Q .normal a' w') (t : Nat) :
    wpOpsIn (Wide r) nn P ops Q (Region.schedule true ops t) a w := by
  obtain ⟨hed, hdst, hrd0⟩ := regionOk_spec hok; obtain ⟨st, T, hs⟩ := hf; have h0ids : ∀ b, S b → b < h0.next := fun b hb => (hr.ids b hb).1; have h0S : ∀ b o, h0.get b = some o → S b := fun b o hg => (hr.objs b o hg).1
  have hbs : bsOf ops.toList [] = (st ops.size).bs := by
    have := bsOf_trace T ops.toList 0 (by simp) (by omega)
    rwa [T.zero] at this
  have hrd : ReadsOk st ops := fun i oi hi x hx j oj hj hjx => by
    have h1 := hrd0 i oi hi x hx j oj hj hjx; have hi' : i < ops.size := (Array.getElem?_eq_some_iff.1 hi).1; have hj' : j < ops.size := (Array.getElem?_eq_some_iff.1 hj).1; rw [hbs, (T.bs ops.size (Nat.le_refl _)).2 i hi', (T.bs ops.size (Nat.le_refl _)).2 j hj'] at h1; exact h1
  have h0SE : SE st ops S (fun _ => false) = S := funext fun b => propext ⟨fun hb => (by
    rcases hb with hb | ⟨m, h1, _⟩
    · exact hb
    cases h1), fun hb => .inl hb⟩
  refine drawn_go (ρ0 := ρ0) (ws := w) (d0 := a.defers) hr hcs hys T hed hdst ht.2.1 hrd h0ids h0S hr.pos (fun E ρ H w' a' hall I => ?_) _ _ (sched_any hed t) ρ0 { next := (st ops.size).h.next, low := 0, objs := h0.objs } w a
    ⟨?_, .inl ⟨fun k hk => (by cases hk), fun b _ => rfl, fun k hk => (by cases hk), fun b o hb hg => (hr.objs b o hg).2, fun k hk => (by cases hk)⟩, ⟨ht.1, fun k o d hk => (by cases hk), fun d _ => ht.2.2 d⟩, rfl, rfl, fun k hk => (by cases hk)⟩
  · obtain ⟨h1, h2⟩ := I.end T hdst ht.2.1 h0ids h0S hall; rw [hs] at h1 h2; exact k ρ w' a' h1 h2 I.defers
  have h0n : h0.next ≤ (st ops.size).h.next := by have := T.next 0 ops.size (by omega) (by omega); rwa [T.zero] at this
  rw [h0SE]
  exact {
    agree := fun _ _ => rfl
    sub := fun _ hb => hb
    hr := { objs := hr.objs, inj := hr.inj, base := hr.base, ro := hr.ro, ids := fun b hb => ⟨Nat.lt_of_lt_of_le (hr.ids b hb).1 h0n, (hr.ids b hb).2⟩, pos := Nat.lt_of_lt_of_le hr.pos h0n, below := hr.below, drawn := hr.drawn, size := hr.size }
    frame := Frame.refl _ _ _
    keep := fun _ _ _ => rfl
    old := fun i o ho _ => ⟨o, ho, rfl⟩
    fresh := fun i o ho hS => absurd (hr.objs i o ho).1 hS }
theorem drawn_wp (hcs : CallSnd P B w0 call) (hys : YieldSound P B w0 yield) (hok : regionOk ops = true) {s : DSt} (hf : fsDrawn (fsOp P call yield) ops n ops.toList 0 ⟨t0, h0, [], [], 0, false⟩ = some s)
    {w : World} {a : Act} (hr : HR P ρ0 S B w0 h0 w) (ht : TrR ρ0 S t0 n a.tmps) {r : Option Nat} {nn : Nat} {Q : Exit → Act → World → Prop}
    (k : ∀ ρ' w' a', Moved P B w0 ρ0 ρ' S h0 s.h w w' → TrR ρ' (Ext S h0 s.h) s.t n a'.tmps → a'.defers = a.defers → Q .normal a' w') (t : Nat) :
    wpOpsIn (Wide r) nn P ops Q (Region.schedule true ops t) a w := drawn_wpT hcs hys hok (trace_of hf) hr ht k t
theorem drawn_wpX (hcs : CallSnd P B w0 call) (hys : YieldSound P B w0 yield) (hok : regionOk ops = true) {s : DSt} (hf : drawnX P h0 (fsOp P call yield) ops n ⟨t0, h0, [], [], 0, false⟩ = some s)
    {w : World} {a : Act} (hr : HR P ρ0 S B w0 h0 w) (ht : TrR ρ0 S t0 n a.tmps) {r : Option Nat} {nn : Nat} {Q : Exit → Act → World → Prop}
    (k : ∀ ρ' w' a', Moved P B w0 ρ0 ρ' S h0 s.h w w' → TrR ρ' (Ext S h0 s.h) s.t n a'.tmps → a'.defers = a.defers → Q .normal a' w') (t : Nat) :
    wpOpsIn (Wide r) nn P ops Q (Region.schedule true ops t) a w := drawn_wpT hcs hys hok (traceX_of hf) hr ht k t
end
end Go.Fs
namespace Go.Fs
open Go.RowKit (Below)
variable {P : Program} {ρ ρ' : Ren} {S S' : Nat → Prop} {B : Nat} {w0 w w' w1 w2 : World} {h h' h1 h2 : Heap}
theorem HR.same (hr : HR P ρ S B w0 h w) (hg : ∀ i, h'.get i = h.get i) (hn : h'.next = h.next) : HR P ρ S B w0 h' w where
  objs := fun i o hi => hr.objs i o (by rw [← hg]; exact hi)
  inj := fun i j oi oj hi hj => hr.inj i j oi oj (by rw [← hg]; exact hi) (by rw [← hg]; exact hj)
  base := fun i o hi => hr.base i o (by rw [← hg]; exact hi)
  ro := fun i o hi => hr.ro i o (by rw [← hg]; exact hi)
  ids := fun b hb => by rw [hn]; exact hr.ids b hb
  pos := by rw [hn]; exact hr.pos
  below := hr.below
  drawn := hr.drawn
  size := hr.size
theorem Ext.next_eq {g g' : Heap} (h1 : g.next = h.next) (h2 : g'.next = h'.next) : Ext S g g' = Ext S h h' := by
  funext b; unfold Ext; rw [h1, h2]
theorem Moved.relow {g g' : Heap} (m : Moved P B w0 ρ ρ' S g g' w w') (hg : ∀ i, h.get i = g.get i) (hn : h.next = g.next) (hg' : ∀ i, h'.get i = g'.get i) (hn' : h'.next = g'.next)
    (hl : h'.low ≤ g'.low) (hl2 : h'.low ≤ h.low) : Moved P B w0 ρ ρ' S h h' w w' where
  agree := m.agree
  next := by rw [hn, hn']; exact m.next
  hr := by
    rw [Ext.next_eq hn hn']; exact m.hr.same hg' hn'
  frame := ⟨m.frame.os, m.frame.tape, m.frame.output, m.frame.size, fun k hk hno => m.frame.block k hk fun i o hi ho => hno i o (by rw [hg]; exact hi) ho⟩
  low := hl2
  keep := fun i hi hlow => by rw [hg, hg']; exact m.keep i (by omega) (by omega)
  old := fun i o hi hlt => by
    obtain ⟨o', h1, h2⟩ := m.old i o (by rw [← hg']; exact hi) (by omega); exact ⟨o', by rw [hg]; exact h1, h2⟩
  fresh := fun i o hi hge => by
    obtain ⟨h1, hf⟩ := m.fresh i o (by rw [← hg']; exact hi) (by omega); refine ⟨h1, ?_⟩; rcases hf with hf | ⟨j, oj, h3, h4, h5, h6, h7⟩
    · exact .inl hf
    exact .inr ⟨j, oj, by rw [hg]; exact h3, h4, h5, by omega, by omega⟩
theorem Moved.forget {g : Heap} (hr : HR P ρ S B w0 g w) (m : Moved P B w0 ρ ρ' S h h1 w w') (hlow : h.next ≤ h1.low) (hg : ∀ i, g.get i = h.get i) (hn : g.next = h.next) : Moved P B w0 ρ ρ S g g w w' where
  agree := fun _ _ => rfl
  next := Nat.le_refl _
  hr := HR.congr (S := S) {
    objs := fun i o hi => by
      obtain ⟨h3, h4⟩ := hr.objs i o hi; have hlt := (hr.ids i h3).1
      have hk : h1.get i = some o := by rw [m.keep i (by omega) (by omega), ← hg]; exact hi
      have h5 := (m.hr.objs i o hk).2; rw [m.agree i h3] at h5; exact ⟨h3, h4.keepS h5 m.agree⟩
    inj := hr.inj
    base := hr.base
    ro := hr.ro
    ids := hr.ids
    pos := hr.pos
    below := m.hr.below
    drawn := m.hr.drawn
    size := m.hr.size } fun b => (Ext.refl_iff rfl b).symm
  frame := ⟨m.frame.os, m.frame.tape, m.frame.output, m.frame.size, fun k hk hno => m.frame.block k hk fun i o hi ho => hno i o (by rw [hg]; exact hi) ho⟩
  low := Nat.le_refl _
  keep := fun _ _ _ => rfl
  old := fun i o ho _ => ⟨o, ho, rfl⟩
  fresh := fun i o ho hi => by
    have := (hr.ids i (hr.objs i o ho).1).1; omega
theorem Moved.dropped (hr : HR P ρ S B w0 h w) {i : Nat} {o : AObj} (hi : h.get i = some o) (ho : ownO o = true)
    (hos : w'.os = w.os) (ht : w'.tape = w.tape) (hout : w'.output = w.output) (hsz : w'.heap.size = w.heap.size) (hblk : ∀ k, k ≠ (ρ i).block → w'.heap[k]? = w.heap[k]?)
    (hd : w.drawn ≤ w'.drawn := by first | exact Nat.le_refl _ | exact Nat.le_succ _) : Moved P B w0 ρ ρ S h (h.drop i) w w' where
  agree := fun _ _ => rfl
  next := Nat.le_refl _
  hr := HR.congr (S := S) {
    objs := fun j oj hj => by
      rw [Heap.get_drop] at hj; split at hj
      · cases hj
      rename_i e; obtain ⟨h1, h2⟩ := hr.objs j oj hj; refine ⟨h1, h2.world (hblk _ fun he => ?_)⟩; by_cases hown : ownO oj = true
      · exact e (hr.inj j i oj o hj hi hown ho he)
      have := hr.ro j oj hj (by simpa using hown); have := hr.base i o hi ho; omega
    inj := fun a b oa ob ha hb => by
      rw [Heap.get_drop] at ha hb; split at ha
      · cases ha
      split at hb
      · cases hb
      exact hr.inj a b oa ob ha hb
    base := fun j oj hj => by
      rw [Heap.get_drop] at hj; split at hj
      · cases hj
      exact hr.base j oj hj
    ro := fun j oj hj => by
      rw [Heap.get_drop] at hj; split at hj
      · cases hj
      exact hr.ro j oj hj
    ids := hr.ids
    pos := hr.pos
    drawn := Nat.le_trans hr.drawn hd
    below := ⟨hos.trans hr.below.os, ht.trans hr.below.tape, hout.trans hr.below.output, by rw [hsz]; exact hr.below.size, fun k hk => by
      rw [hblk k (fun e => by have := hr.base i o hi ho; omega)]; exact hr.below.block k hk⟩
    size := by rw [hsz]; exact hr.size } fun b => (Ext.refl_iff rfl b).symm
  frame := ⟨hos, ht, hout, by rw [hsz]; exact Nat.le_refl _, fun k _ hno => hblk k (Ne.symm (hno i o hi ho))⟩
  low := Nat.min_le_left _ _
  keep := fun j _ hl => by
    have hmin : min h.low i ≤ i := Nat.min_le_right _ _; have hlt : j < min h.low i := hl; rw [Heap.get_drop, if_neg (by omega)]
  old := fun j oj hj _ => by
    rw [Heap.get_drop] at hj; split at hj
    · cases hj
    exact ⟨oj, hj, rfl⟩
  fresh := fun j oj hj hge => by
    rw [Heap.get_drop] at hj; split at hj
    · cases hj
    have := (hr.ids j (hr.objs j oj hj).1).1; have : h.next ≤ j := hge; omega
def MarksR (ρ : Ren) (S : Nat → Prop) (marks : List Nat) (ds : List Deferred) : Prop := ds = marks.map (fun d => ({ target := .collected (ρ d).block, args := #[] } : Deferred)) ∧ ∀ d ∈ marks, S d
theorem MarksR.mono {marks : List Nat} {ds : List Deferred} (hm : MarksR ρ S marks ds) (hs : ∀ b, S b → S' b ∧ ρ' b = ρ b) : MarksR ρ' S' marks ds := by
  refine ⟨?_, fun d hd => (hs d (hm.2 d hd)).1⟩; rw [hm.1]
  exact List.map_congr_left fun d hd => by rw [(hs d (hm.2 d hd)).2]
theorem Ext.self {b : Nat} (hb : S b) : Ext S h h' b := .inl hb
theorem dropMarks_ok {fn : Func} {tmps : Array Value} {R : Ending → World → Prop} {F : Fence} {n : Nat} : ∀ (marks : List Nat) (S : Nat → Prop) (h : Heap) (w : World) (ds : List Deferred), HR P ρ S B w0 h w → MarksR ρ S marks ds →
    dropMarks marks h = some h2 → (∀ w', Moved P B w0 ρ ρ S h h2 w w' → LeavesInM F n P fn tmps R [] .returning w') → LeavesInM F n P fn tmps R ds .returning w
  | [], S, h, w, ds, hr, hm, hd, k => by
    simp only [dropMarks, Option.some.injEq] at hd; subst hd; rw [hm.1]
    exact k w (Moved.same hr)
  | d :: r, S, h, w, ds, hr, hm, hd, k => by
    simp only [dropMarks] at hd; split at hd
    · rename_i hg; have hobj : w.heap[(ρ d).block]? = some (.deferred (some [])) := (hr.objs d _ hg).2; have hlt : (ρ d).block < w.heap.size := (Array.getElem?_eq_some_iff.1 hobj).1; have m := Moved.dropped (w' := w.putObj (ρ d).block (.deferred none)) hr hg rfl rfl rfl rfl World.putObj_size (fun k hk => World.putObj_heap_other hk); rw [hm.1]; simp only [List.map_cons, LeavesInM]; refine ⟨by simp, .inl ⟨(ρ d).block, _, rfl, run_takeDeferred hobj, ?_⟩⟩; refine dropMarks_ok r (Ext S h (h.drop d)) (h.drop d) _ _ m.hr ⟨rfl, fun x hx => .inl (hm.2 x (List.mem_cons_of_mem _ hx))⟩ hd fun w' m' => k w' (m.trans m')
    cases hd
def resOf (tmps : Array Value) : ResultVar → Sem Value
  | .tmp t => pure (tmps.getD t undef)
  | .cell a t => do loadVar t (← asAddr (tmps.getD a undef))
theorem results_eq (fn : Func) (tmps : Array Value) : results fn tmps = (do
    let vs ← fn.results.mapM (resOf tmps)
    pure (if h : vs.size = 1 then vs[0] else .tuple vs)) := rfl
theorem result_ok {t : Tr} {n : Nat} {tmps : Array Value} {rv : ResultVar} {v : Value} (hr : HR P ρ S B w0 h w) (ht : TrR ρ S t n tmps) (hf : fsResult P t h rv = some v) :
    ∃ v', (resOf tmps rv).run P w = .ok v' w ∧ VR ρ S v v' := by
  have hget : ∀ i, tmps.getD i undef = tmps.toList.getD i undef := fun i => by simp [Array.getD_eq_getD_getElem?, List.getD_eq_getElem?_getD]
  cases rv with
  | tmp i =>
    simp only [fsResult, Option.some.injEq] at hf; subst hf
    exact ⟨_, rfl, by rw [hget]; exact ht.2.2 i⟩
  | cell a ty =>
    simp only [fsResult] at hf; have hv := ht.2.2 a; rw [← hget] at hv; obtain ⟨v', h1, h2⟩ := fsLoad_ok hr hf hv; refine ⟨v', ?_, h2⟩; unfold fsLoad at hf; split at hf
    · rename_i b o hb; rw [hb] at hv; obtain ⟨_, he⟩ := hv.ptr_inv; simp only [resOf, he] at h1 ⊢; simpa [Instr.loadAt, Instr.sureAddr, asAddr] using h1
    cases hf
theorem results_ok {t : Tr} {n : Nat} {tmps : Array Value} (hr : HR P ρ S B w0 h w) (ht : TrR ρ S t n tmps) : ∀ (rs : List ResultVar) (vs : List Value), fsResults P t h rs = some vs →
    ∃ vs', (rs.mapM (resOf tmps)).run P w = .ok vs' w ∧ LR ρ S vs vs'
  | [], vs, hf => by
    simp only [fsResults, Option.some.injEq] at hf; subst hf
    exact ⟨[], rfl, LR.nil⟩
  | r :: rs, vs, hf => by
    simp only [fsResults] at hf; split at hf
    · rename_i v vs0 hv hvs; simp only [Option.some.injEq] at hf; subst hf; obtain ⟨v', h1, h2⟩ := result_ok hr ht hv; obtain ⟨vs', h3, h4⟩ := results_ok hr ht rs vs0 hvs; refine ⟨v' :: vs', ?_, LR.cons h2 h4⟩; rw [List.mapM_cons]; simp only [Sem.run_bind, h1, Result.andThen_ok, h3, Sem.run_pure]
    cases hf
theorem tupled_ok {vs vs' : List Value} (hv : LR ρ S vs vs') : VR ρ S (tupled vs) (if h : vs'.toArray.size = 1 then vs'.toArray[0] else .tuple vs'.toArray) := by
  have hl := hv.1
  match vs, vs', hl with
  | [], [], _ => exact VR.undef
  | [v], [v'], _ => exact hv.2 0 (by simp)
  | v1 :: v2 :: r, u1 :: u2 :: r', _ =>
    rw [dif_neg (by simp)]; exact VR.tuple' (by simpa [tupled] using hv)
theorem resultsRun_ok {fn : Func} {t : Tr} {n : Nat} {tmps : Array Value} {vs : List Value} (hr : HR P ρ S B w0 h w) (ht : TrR ρ S t n tmps) (hf : fsResults P t h fn.results.toList = some vs) :
    ∃ v', (results fn tmps).run P w = .ok v' w ∧ VR ρ S (tupled vs) v' := by
  obtain ⟨vs', h1, h2⟩ := results_ok hr ht _ _ hf; refine ⟨_, ?_, tupled_ok h2⟩; rw [results_eq, Array.mapM_eq_mapM_toList]; simp only [Sem.run_bind, Sem.run_map, h1, Result.andThen_ok, Sem.run_pure]
end Go.Fs
namespace Go.Fs
open Go.RowKit (Below)
variable {P : Program} {ρ ρ' : Ren} {S S' : Nat → Prop} {B : Nat} {w0 w w' w1 w2 : World} {h h' h1 h2 : Heap}
def exOf : Ex → Exit
  | .normal => .normal
  | .exit id => .exit id
  | .ret => .ret
def wpX (m : Nat) (F : Fence) (n : Nat) (P : Program) (c : Code) (Q : Exit → Act → World → Prop) (a : Act) (w : World) : Prop :=
  match c with
  | .loop b => Code.roundsIn F n P b Q m a w
  | c => c.wpIn F n P Q a w
theorem wpX.wpIn {m : Nat} {F : Fence} {n : Nat} {c : Code} {Q : Exit → Act → World → Prop} {a : Act} {w : World} (h : wpX m F n P c Q a w) : c.wpIn F n P Q a w := by
  cases c with
  | loop b => exact wpIn_loop_rounds m h
  | _ => exact h
def rndF (ρ : Ren) (rnd : Option Nat) : Fence := Wide (rnd.map fun l => (ρ l).block)
structure Post (P : Program) (B : Nat) (w0 : World) (ρ ρ' : Ren) (S : Nat → Prop) (h : Heap) (w : World) (fr' : Fr) (h' : Heap) (w' : World) (a' : Act) : Prop where
  moved : Moved P B w0 ρ ρ' S h h' w w'
  tmps : TrR ρ' (Ext S h h') fr'.t fr'.n a'.tmps
  marks : MarksR ρ' (Ext S h h') fr'.marks a'.defers
def SoundR (P : Program) (B : Nat) (w0 : World) (m : Nat) (rec : Rec) : Prop := ∀ rnd c fr h e fr' h', codeOk c = true → rec rnd c fr h = some (e, fr', h') →
  ∀ ρ S w a nn Q, HR P ρ S B w0 h w → TrR ρ S fr.t fr.n a.tmps → MarksR ρ S fr.marks a.defers → (∀ l, rnd = some l → S l) →
    (∀ ρ' w' a', Post P B w0 ρ ρ' S h w fr' h' w' a' → Q (exOf e) a' w') → wpX m (rndF ρ rnd) nn P c Q a w
theorem rndF_eq {rnd : Option Nat} (hs : ∀ l, rnd = some l → S l) (hag : ∀ b, S b → ρ' b = ρ b) : rndF ρ' rnd = rndF ρ rnd := by
  cases rnd with
  | none => rfl
  | some l => simp [rndF, hag l (hs l rfl)]
theorem Post.trans {ρ1 ρ2 : Ren} {fr1 fr2 : Fr} {a1 a2 : Act} (p : Moved P B w0 ρ ρ1 S h h1 w w1) (q : Post P B w0 ρ1 ρ2 (Ext S h h1) h1 w1 fr2 h2 w2 a2) : Post P B w0 ρ ρ2 S h w fr2 h2 w2 a2 where
  moved := p.trans q.moved
  tmps := q.tmps.mono fun b hb => ⟨Ext.trans' p.next q.moved.next hb, rfl⟩
  marks := q.marks.mono fun b hb => ⟨Ext.trans' p.next q.moved.next hb, rfl⟩
theorem fill_get : ∀ (vs : List Value) (t : Tr) (i : Nat), i + vs.length ≤ 4000 → ∀ j, (fillTr t i vs).get j = if j < i then t.get j else if j < i + vs.length then vs.getD (j - i) undef else t.get j
  | [], t, i, _, j => by simp only [fillTr, List.length_nil, Nat.add_zero]; split <;> simp_all
  | v :: r, t, i, hl, j => by
    simp only [List.length_cons] at hl; simp only [fillTr]; rw [fill_get r _ (i + 1) (by omega), Tr.get_set depth t i v j (by have : 2 ^ depth = 8192 := rfl; omega)]; simp only [List.length_cons]; by_cases h1 : j < i
    · rw [if_pos (by omega), if_neg (by omega), if_pos h1]
    by_cases h2 : j = i
    · subst h2; rw [if_pos (by omega), if_pos rfl, if_neg h1, if_pos (by omega), Nat.sub_self]; rfl
    rw [if_neg (by omega), if_neg h1]; by_cases h3 : j < i + 1 + r.length
    · rw [if_pos h3, if_pos (by omega), show j - i = (j - (i + 1)) + 1 by omega]; rfl
    rw [if_neg h3, if_neg h2, if_neg (by omega)]
theorem leaf_get (i : Nat) : Tr.leaf.get i = undef := rfl
theorem enter_tmps {n : Nat} {args args' : List Value} (hn : n ≤ 4000) (hl : args.length ≤ n) (ha : LR ρ S args args') :
    TrR ρ S (fillTr .leaf 0 args) n (args'.toArray ++ Array.replicate (n - args'.toArray.size) undef) := by
  have h0 := ha.1; refine ⟨by simp; omega, hn, fun i => ?_⟩; rw [fill_get args .leaf 0 (by omega), if_neg (by omega), leaf_get, Nat.sub_zero, Nat.zero_add]; simp only [Array.toList_append, Array.toList_replicate, List.getD_eq_getElem?_getD, List.getElem?_append]; by_cases hi : i < args.length
  · rw [if_pos hi, if_pos (by omega)]; have := ha.2 i hi
    rwa [List.getD_eq_getElem?_getD, List.getD_eq_getElem?_getD] at this
  rw [if_neg hi, if_neg (by omega), List.getElem?_replicate]; split
  · exact VR.undef
  exact VR.undef
structure ProgOk (P : Program) : Prop where
  mixed : P.follows .mixedOrders = true
  name : ∀ (f : FuncId) (fn : Func), P.funcs[f]? = some fn → fn.body.isNone = false → (fn.name == "runtime.NumGoroutine") = false
  code : ∀ (f : FuncId) (fn : Func) (c : Code), P.funcs[f]? = some fn → fn.body = some c → codeOk c = true
theorem enterK_sound (hP : ProgOk P) {m : Nat} {rec : Rec} {k : Bool} (hrec : SoundR P B w0 m rec) : CallSound P B w0 (fsEnterK P k rec) := by
  intro f args h v h' hf; unfold fsEnterK at hf; split at hf
  · rename_i fn hfn; split at hf
    · rename_i c hc; refine ⟨⟨fn, hfn, by rw [hc]; rfl, hP.name f fn hfn (by rw [hc]; rfl)⟩, fun ρ S w args' hr ha n => ?_⟩
      cases hb : (Nat.blt 4000 fn.ntmps || Nat.blt fn.ntmps args.length) with
      | true => rw [hb] at hf; cases hf
      | false =>
        rw [hb] at hf; simp only [cond_false] at hf
        have hb2 : Nat.blt 4000 fn.ntmps = false ∧ Nat.blt fn.ntmps args.length = false := by simpa using hb
        have hn : fn.ntmps ≤ 4000 := by have := nble_no hb2.1; omega
        have hl : args.length ≤ fn.ntmps := by have := nble_no hb2.2; omega
        split at hf
        · rename_i e fr h1 hrun; obtain ⟨hgo, hf2⟩ := bif_some hf; clear hf; split at hf2
          · rename_i h2 hdrop; split at hf2
            · rename_i vs hvs; have hrb : HR P ρ S B w0 { next := h.next, low := h.next, objs := h.objs } w := hr.same (fun _ => rfl) rfl; refine callsIn_of_wp_marks hfn hc trivial ?_
              have hw := (hrec none c _ _ _ _ _ (hP.code f fn c hfn hc) hrun ρ S w { tmps := args'.toArray ++ Array.replicate (fn.ntmps - args'.toArray.size) undef, defers := [] } n
                (bodyPostM Fence.wide n P fn (RetR P B w0 ρ S h w v h')) hrb (enter_tmps hn hl ha) ⟨rfl, fun d hd => by cases hd⟩ (fun l hl => by cases hl) fun ρ1 w1 a1 p1 => ?_).wpIn
              · exact hw
              have hleave : LeavesInM Fence.wide n P fn a1.tmps (RetR P B w0 ρ S h w v h') a1.defers .returning w1 := by
                refine dropMarks_ok fr.marks _ h1 w1 a1.defers p1.moved.hr p1.marks hdrop fun w2 m2 => ?_; have htm := p1.tmps.mono (fun b hb => (⟨Ext.self (h := h1) (h' := h2) hb, rfl⟩ : Ext _ h1 h2 b ∧ ρ1 b = ρ1 b)); obtain ⟨v', hv1, hv2⟩ := resultsRun_ok m2.hr htm hvs; refine ⟨v', hv1, ?_⟩; have m3 := p1.moved.trans m2; have hv3 := hv2.mono (fun b hb => (⟨Ext.trans' p1.moved.next m2.next hb, rfl⟩ : Ext S { next := h.next, low := h.next, objs := h.objs } h2 b ∧ ρ1 b = ρ1 b))
                cases hq : (!k && (af (tupled vs) && Nat.ble h.next h2.low)) with
                | true =>
                  rw [hq] at hf2; simp only [cond_true, Option.some.injEq, Prod.mk.injEq] at hf2; obtain ⟨rfl, rfl⟩ := hf2; obtain ⟨q1, q2⟩ := band (band hq).2; have q2 := nble q2; refine ⟨ρ, m3.forget hr q2 (fun _ => rfl) rfl, ?_⟩
                  rw [hv3.eq_of_af q1]; exact .of_af q1
                | false =>
                  rw [hq] at hf2; simp only [cond_false, Option.some.injEq, Prod.mk.injEq] at hf2; obtain ⟨rfl, rfl⟩ := hf2; exact ⟨ρ1, m3.relow (fun _ => rfl) rfl (fun _ => rfl) rfl (Nat.min_le_right _ _) (Nat.min_le_left _ _), hv3⟩
              cases e with
              | normal => exact hleave
              | ret => exact hleave
              | exit id => cases hgo
            cases hf2
          cases hf2
        cases hf
    cases hf
  cases hf
theorem enter_sound (hP : ProgOk P) {m : Nat} {rec : Rec} (hrec : SoundR P B w0 m rec) : CallSound P B w0 (fsEnter P rec) := enterK_sound hP hrec
theorem setAll_ok {n : Nat} : ∀ (ps : List Tmp) (args args' : List Value) (t t' : Tr) (tmps : Array Value), TrR ρ S t n tmps → LR ρ S args args' → setAll n t (ps.zip args) = some t' →
    TrR ρ S t' n ((ps.zip args').foldl (fun tmps p => tmps.setIfInBounds p.1 p.2) tmps)
  | [], args, args', t, t', tmps, ht, _, hs => by
    simp only [List.zip_nil_left, setAll, Option.some.injEq] at hs; subst hs
    simpa using ht
  | p :: ps, [], args', t, t', tmps, ht, ha, hs => by
    have : args' = [] := List.eq_nil_of_length_eq_zero ha.1.symm; subst this; simp only [List.zip_nil_right, setAll, Option.some.injEq] at hs; subst hs
    simpa using ht
  | p :: ps, v :: args, [], t, t', tmps, ht, ha, hs => by have := ha.1; simp at this
  | p :: ps, v :: args, v' :: args', t, t', tmps, ht, ha, hs => by
    simp only [List.zip_cons_cons, setAll] at hs; split at hs
    · rename_i t1 hp; have hv : VR ρ S v v' := ha.2 0 (by simp); have hrest : LR ρ S args args' := ⟨by have := ha.1; simpa using this, fun i hi => by have := ha.2 (i + 1) (by simp; omega); simpa using this⟩; have h1 := ht.put hp hv []; simp only [List.zip_cons_cons, List.foldl_cons]; exact setAll_ok ps args args' t1 t' _ h1 hrest hs
    cases hs
theorem loopo_ok {l : Nat} {st : LoopState} {jump : Option Code} {tmps : Tr} {n d : Nat} {params : Array Tmp} {assign body : Code} (hr : HR P ρ S B w0 h w) (hg : h.get l = some (.loopo st jump tmps n params assign body d)) :
    S l ∧ S d ∧ ∃ fn tmps', w.heap[(ρ l).block]? = some (.loop ⟨st, jump, fn, tmps', params, assign, body, (ρ d).block⟩) ∧ TrR ρ S tmps n tmps' ∧ codeOk assign = true ∧ codeOk body = true := by
  obtain ⟨h1, h2, fn, tmps', h3, h4, h5⟩ := hr.objs l _ hg; exact ⟨h1, h2, fn, tmps', h3, h4, (band h5).1, (band h5).2⟩
theorem loop_set {l : Nat} {st st' : LoopState} {jump jump' : Option Code} {tmps : Tr} {n d : Nat} {params : Array Tmp} {assign body : Code} {fn : FuncId} {tmps' : Array Value} (hr : HR P ρ S B w0 h w)
    (hg : h.get l = some (.loopo st jump tmps n params assign body d)) (hw : w.heap[(ρ l).block]? = some (.loop ⟨st, jump, fn, tmps', params, assign, body, (ρ d).block⟩)) :
    Moved P B w0 ρ ρ S h (h.set l (.loopo st' jump' tmps n params assign body d)) w (w.putObj (ρ l).block (.loop ⟨st', jump', fn, tmps', params, assign, body, (ρ d).block⟩)) := by
  obtain ⟨h1, h2, fn0, tm0, h3, h4, h5⟩ := hr.objs l _ hg; rw [hw] at h3; simp only [Option.some.injEq, Obj.loop.injEq, Loop.mk.injEq, true_and, and_true] at h3; obtain ⟨rfl, rfl⟩ := h3
  exact Moved.set hr hg rfl rfl rfl rfl rfl World.putObj_size (fun k hk => World.putObj_heap_other hk)
    ⟨h2, fn, tmps', World.putObj_heap_same (Array.getElem?_eq_some_iff.1 hw).1, h4, h5⟩
theorem yield_sound {m : Nat} {rec : Rec} (hrec : SoundR P B w0 m rec) : YieldSound P B w0 (fsYield rec) := by
  intro l args h v h' hf ρ S w args' hr ha hl; unfold fsYield at hf; split at hf
  · rename_i jump0 tmps n params assign body d0 hg; obtain ⟨hS, hSd, fn, tmps', hw, ht, hca, hcb⟩ := loopo_ok hr hg; obtain ⟨hlen, hf2⟩ := bif_some hf; clear hf; have hlen := nbeq hlen; split at hf2
    · rename_i t hset
      have hlen' : args'.toArray.size = params.size := by have := ha.1; simp; omega
      refine ⟨fn, _, assign, body, run_yield hw hlen', fun nn => roundIn_of_wpIn trivial ?_⟩; have hta := setAll_ok params.toList args args' tmps t tmps' ht ha hset
      have hfold : (params.zip args'.toArray).foldl (fun tmps (x : Tmp × Value) => tmps.setIfInBounds x.1 x.2) tmps' = (params.toList.zip args').foldl (fun tmps p => tmps.setIfInBounds p.1 p.2) tmps' := by
        rw [← Array.foldl_toList, Array.toList_zip]
      rw [← hfold] at hta; split at hf2
      · rename_i fr h1 hrun1; split at hf2
        · rename_i jump1 tmps1 n1 params1 assign1 body1 d1 hg1; split at hf2
          · rename_i e fr2 h2 hrun2; split at hf2
            · rename_i st2 jump2 tmps2 n2 params2 assign2 body2 d2 hg2; simp only [Option.some.injEq, Prod.mk.injEq] at hf2; obtain ⟨rfl, rfl⟩ := hf2; have hF : (Fence.wide.inRound (ρ l).block) = rndF ρ (some l) := rfl; rw [hF]; refine (hrec (some l) assign _ _ _ _ _ hca hrun1 ρ S w { tmps := (params.zip args'.toArray).foldl (fun tmps (x : Tmp × Value) => tmps.setIfInBounds x.1 x.2) tmps', defers := [] } nn _ hr hta ⟨rfl, fun d hd => by cases hd⟩ (fun l' hl' => by cases hl'; exact hS) fun ρ1 w1 a1 p1 => ?_).wpIn; obtain ⟨hS1, hSd1, fn1, tm1, hw1, ht1, hca1, hcb1⟩ := loopo_ok p1.moved.hr hg1
              have hb1 : (ρ1 l).block = (ρ l).block := by rw [p1.moved.agree l hS]
              refine ⟨_, by rw [← hb1]; exact run_beginRound hw1 rfl, ?_⟩; have m2 := loop_set (st' := .busy) (jump' := jump1) p1.moved.hr hg1 hw1; have hcb' : codeOk body = true := hcb
              have hF2 : rndF ρ (some l) = rndF ρ1 (some l) := by simp [rndF, hb1]
              rw [hF2]
              refine (hrec (some l) body fr _ _ _ _ hcb' hrun2 ρ1 (Ext (Ext S h h1) h1 (h1.set l (.loopo .busy jump1 tmps1 n1 params1 assign1 body1 d1))) _ a1 nn (roundPost P (ρ l).block (RetR P B w0 ρ S h w _ _)) m2.hr
                (p1.tmps.mono fun b hb => ⟨.inl hb, rfl⟩) (p1.marks.mono fun b hb => ⟨.inl hb, rfl⟩) (fun l' hl' => by cases hl'; exact .inl hS1) fun ρ3 w3 a3 p3 => ?_).wpIn
              obtain ⟨hS3, hSd3, fn3, tm3, hw3, ht3, hca3, hcb3⟩ := loopo_ok p3.moved.hr hg2
              have hb3 : (ρ3 l).block = (ρ l).block := by rw [p3.moved.agree l (.inl hS1), hb1]
              have fin : ∀ j : Option Code, j = jumpOf e → ∃ v w4, (Instr.endRound (ρ l).block j).run P w3 = .ok v w4 ∧ RetR P B w0 ρ S h w (.bool (jumpOf e).isNone) (h2.set l (.loopo (bif (jumpOf e).isNone then .ready else .done) (jumpOf e) tmps2 n2 params2 assign2 body2 d2)) (.returned v) w4 := fun j hj => by
                subst hj; refine ⟨_, _, by rw [← hb3]; exact run_endRound _ hw3, ρ3, ?_, .lit rfl⟩; have m4 := loop_set (st' := bif (jumpOf e).isNone then .ready else .done) (jump' := jumpOf e) p3.moved.hr hg2 hw3; have m5 := p1.moved.trans (m2.trans (p3.moved.trans m4))
                have he : (bif (jumpOf e).isNone then LoopState.ready else .done) = if (jumpOf e).isNone then .ready else .done := by cases (jumpOf e).isNone <;> rfl
                rw [← he]; exact m5
              cases e with
              | normal => exact fin none rfl
              | exit id => exact fin (some (.exit id)) rfl
              | ret => exact fin (some .ret) rfl
            cases hf2
          cases hf2
        cases hf2
      cases hf2
    cases hf2
  cases hf
theorem mark_ok {rnd : Option Nat} {d : Nat} {mark : List Nat} (hr : HR P ρ S B w0 h w) (hs : ∀ l, rnd = some l → S l) (hf : fsMark rnd h = some (d, mark, h1)) (fn : FuncId) (tmps : Array Value) (ps : Array Tmp) (assign body : Code)
    {t : Tr} {n : Nat} (ht : TrR ρ S t n tmps) (hca : codeOk assign = true) (hcb : codeOk body = true) :
    ∃ ρ1 lw ms w2, (Instr.enterLoop fn tmps ps assign body (rndF ρ rnd).round).run P w = .ok (lw, ms) w2 ∧ (ρ1 h1.next).block = lw ∧ MarksR ρ1 (Ext S h (h1.push (.loopo .ready none t n ps assign body d))) mark ms ∧
      Moved P B w0 ρ ρ1 S h (h1.push (.loopo .ready none t n ps assign body d)) w w2 ∧ Ext S h (h1.push (.loopo .ready none t n ps assign body d)) h1.next := by
  -- the record, behind what is there
  have push : ∀ (ρa : Ren) (wa : World), Moved P B w0 ρ ρa S h h1 w wa → Ext S h h1 d → Moved P B w0 ρ (ρa.put h1.next (.clean wa.heap.size 0 0 (0))) S h (h1.push (.loopo .ready none t n ps assign body d)) w
      (wa.alloc (.loop ⟨.ready, none, fn, tmps, ps, assign, body, (ρa d).block⟩)) := fun ρa wa ma hd => by
    have hta := ht.mono (fun b hb => (⟨.inl hb, ma.agree b hb⟩ : Ext S h h1 b ∧ ρa b = ρ b)); have hag := ma.hr.agree' (.clean wa.heap.size 0 0 (0)) (.loopo .ready none t n ps assign body d)
    exact ma.trans (Moved.push ma.hr (.loopo .ready none t n ps assign body d) (.loop ⟨.ready, none, fn, tmps, ps, assign, body, (ρa d).block⟩) (.clean wa.heap.size 0 0 (0)) rfl rfl
      ⟨(hag d hd).1, fn, tmps, by rw [(hag d hd).2]; exact heap_alloc_new wa _, hta.mono hag, by rw [hca, hcb]; rfl⟩)
  unfold fsMark at hf; split at hf
  · simp only [Option.some.injEq, Prod.mk.injEq] at hf; obtain ⟨rfl, rfl, rfl⟩ := hf; have m1 : Moved P B w0 ρ (ρ.put h.next (.clean w.heap.size 0 0 (0))) S h (h.push .defd) w (w.alloc (.deferred (some []))) := Moved.push hr .defd (.deferred (some [])) (.clean w.heap.size 0 0 (0)) rfl rfl (heap_alloc_new w _); have m2 := push _ _ m1 (Ext.pushNext _)
    have hb : ((ρ.put h.next (.clean w.heap.size 0 0 (0))) h.next).block = w.heap.size := by rw [Ren.put_same]
    have hne : h.next ≠ (h.push .defd).next := Nat.ne_of_lt (Nat.lt_succ_self _); refine ⟨_, w.heap.size + 1, _, _, run_enterLoop_outer fn tmps ps assign body, ?_, ⟨?_, ?_⟩, by rw [hb] at m2; exact m2, .inr ⟨Nat.le_succ _, Nat.lt_succ_self _⟩⟩
    · rw [Ren.put_same]; simp
    · simp only [List.map_cons, List.map_nil]; rw [Ren.put_other hne, hb]
    intro x hx; simp only [List.mem_cons, List.not_mem_nil, or_false] at hx; subst hx; exact .inr ⟨Nat.le_refl _, Nat.lt_succ_of_lt (Nat.lt_succ_self _)⟩
  rename_i l; split at hf
  · rename_i st jump tm n0 ps0 as0 bo0 d0 hg; simp only [Option.some.injEq, Prod.mk.injEq] at hf; obtain ⟨rfl, rfl, rfl⟩ := hf; obtain ⟨hS, hSd, fn0, tm0, hw, _⟩ := loopo_ok hr hg; have m2 := push ρ w (Moved.same hr) (.inl hSd); refine ⟨_, w.heap.size, [], _, ?_, by rw [Ren.put_same], ⟨rfl, fun x hx => by cases hx⟩, m2, .inr ⟨Nat.le_refl _, Nat.lt_succ_self _⟩⟩; show (Instr.enterLoop fn tmps ps assign body (some (ρ l).block)).run P w = _; unfold Instr.enterLoop; simp only [Sem.run_bind, run_getLoop hw, Result.andThen_ok, Sem.run_pure]; rfl
  cases hf
theorem rangeFunc_sound (hP : ProgOk P) {m : Nat} {rec : Rec} (hrec : SoundR P B w0 m rec) {rnd : Option Nat} {g : Operand} {ps : Array Tmp} {assign body : Code} {fr fr' : Fr} {e : Ex} (hca : codeOk assign = true) (hcb : codeOk body = true)
    (hf : fsRangeFunc P rec rnd g ps assign body fr h = some (e, fr', h')) {a : Act} {nn : Nat} {Q : Exit → Act → World → Prop} (hr : HR P ρ S B w0 h w) (ht : TrR ρ S fr.t fr.n a.tmps) (hm : MarksR ρ S fr.marks a.defers)
    (hs : ∀ l, rnd = some l → S l) (k : ∀ ρ' w' a', Post P B w0 ρ ρ' S h w fr' h' w' a' → Q (exOf e) a' w') : (Code.rangeFunc g ps assign body).wpIn (rndF ρ rnd) nn P Q a w := by
  unfold fsRangeFunc at hf; split at hf
  · rename_i d mark h1 hmark; split at hf
    · rename_i f first captured hg; split at hf
      · rename_i v3 h3 hrun; split at hf
        · rename_i st jump tm n0 ps0 as0 bo0 d0 hg3; have hev := ht.eval a.defers g; rw [hg] at hev; obtain ⟨f1, c1, hef, hl1, hl2⟩ := hev.func_inv; refine wpIn_rangeFunc fun fn _ => ?_; obtain ⟨ρ1, lw, ms, w2, he, hb1, hms, m1, hS1⟩ := mark_ok hr hs hmark fn a.tmps ps assign body ht hca hcb
          have hargs : LR ρ1 (Ext S h (h1.push (.loopo .ready none fr.t fr.n ps assign body d))) (first.toList ++ [.func (.yield h1.next) #[] #[]] ++ captured.toList) (f1.toList ++ [.func (.yield lw) #[] #[]] ++ c1.toList) := by
            have hag : ∀ b, S b → Ext S h (h1.push (.loopo .ready none fr.t fr.n ps assign body d)) b ∧ ρ1 b = ρ b := fun b hb => ⟨.inl hb, m1.agree b hb⟩; refine ((hl1.mono hag).append ?_).append (hl2.mono hag); refine LR.cons ?_ LR.nil; rw [← hb1]; exact .yield _ hS1
          obtain ⟨hent, hcall⟩ := enterK_sound hP hrec _ _ _ _ _ hrun; have hev' : a.eval g = .func (.func f) f1 c1 := hef; have hinv : (invoke (.fn (.func f) c1) (f1 ++ #[Value.func (.yield lw) #[] #[]])).run P w2 = .ok (.enter f ((f1 ++ #[Value.func (.yield lw) #[] #[]]) ++ c1)) w2 := callFunc_run hent _ w2; refine ⟨lw, ms, w2, { target := .fn (.func f) c1, args := f1 ++ #[Value.func (.yield lw) #[] #[]] }, w2, f, (f1 ++ #[Value.func (.yield lw) #[] #[]]) ++ c1, w2, he, ?_, fun _ _ => trivial, hinv, fun hd => (by cases hd), ?_⟩
          · unfold resolve; simp only [rangeCall, List.map_toArray, hev', Deferred.ofValue]; rfl
          have h4 := hcall ρ1 _ w2 _ m1.hr hargs (nn - 1)
          have h5 : (f1.toList ++ [Value.func (.yield lw) #[] #[]] ++ c1.toList).toArray = (f1 ++ #[Value.func (.yield lw) #[] #[]]) ++ c1 := by
            apply Array.toList_inj.1; simp
          rw [h5] at h4; refine CallsIn.mono (F := rndF ρ rnd) h4 fun e3 w3 hret => ?_
          cases e3 with
          | panicked c => exact hret.elim
          | outgrown => exact hret.elim
          | returned v3' =>
            obtain ⟨ρ3, m3, _⟩ := hret; obtain ⟨hS3, hSd3, fn3, tm3, hw3, _⟩ := loopo_ok m3.hr hg3
            have hb3 : (ρ3 h1.next).block = lw := by rw [m3.agree _ hS1, hb1]
            have m13 := m1.trans m3
            have post : st ≠ .busy → ∀ h4 : Heap, h4 = h3.set h1.next (.loopo .exhausted jump tm n0 ps0 as0 bo0 d0) → ∃ w4, (Instr.endLoop lw).run P w3 = .ok jump w4 ∧
                Post P B w0 ρ ρ3 S h w { t := fr.t, n := fr.n, marks := mark ++ fr.marks } h4 w4 { a with defers := ms ++ a.defers } := fun hst h4 hh4 => by
              subst hh4; have m4 := loop_set (st' := .exhausted) (jump' := jump) m3.hr hg3 hw3; have m14 := m1.trans (m3.trans m4); refine ⟨_, by rw [← hb3]; exact run_endLoop hw3 hst, ⟨m14, ht.mono fun b hb => ⟨.inl hb, m14.agree b hb⟩, ?_, ?_⟩⟩
              · show ms ++ a.defers = (mark ++ fr.marks).map _
                have e1 : ms = mark.map (fun d => ({ target := .collected (ρ3 d).block, args := #[] } : Deferred)) := by
                  rw [hms.1]; refine List.map_congr_left fun x hx => ?_; simp only [m3.agree x (hms.2 x hx)]
                have e2 : a.defers = fr.marks.map (fun d => ({ target := .collected (ρ3 d).block, args := #[] } : Deferred)) := by
                  rw [hm.1]; refine List.map_congr_left fun x hx => ?_; simp only [m14.agree x (hm.2 x hx)]
                rw [List.map_append, e1, e2]
              intro x hx; rcases List.mem_append.1 hx with hx | hx
              · exact Ext.trans' m1.next (Nat.le_trans m3.next m4.next) (.inl (hms.2 x hx))
              exact .inl (hm.2 x hx)
            split at hf
            · cases hf
            rename_i hst; have hst' : st ≠ .busy := fun h => hst h; simp only at hf; split at hf
            · simp only [Option.some.injEq, Prod.mk.injEq] at hf; obtain ⟨rfl, rfl, rfl⟩ := hf; obtain ⟨w4, h6, h7⟩ := post hst' _ rfl; exact ⟨none, w4, h6, k _ _ _ h7⟩
            · simp only [Option.some.injEq, Prod.mk.injEq] at hf; obtain ⟨rfl, rfl, rfl⟩ := hf; obtain ⟨w4, h6, h7⟩ := post hst' _ rfl; exact ⟨some .ret, w4, h6, wpIn_ret (k _ _ _ h7)⟩
            · rename_i id; simp only [Option.some.injEq, Prod.mk.injEq] at hf; obtain ⟨rfl, rfl, rfl⟩ := hf; obtain ⟨w4, h6, h7⟩ := post hst' _ rfl; exact ⟨some (.exit id), w4, h6, wpIn_exit (k _ _ _ h7)⟩
            cases hf
        cases hf
      cases hf
    cases hf
  cases hf
end Go.Fs
namespace Go.Fs
variable {P : Program} {orc : FuncId → List Value → Heap → Option (Value × Heap)} {rnd : Option Nat} {fr : Fr} {h : Heap} {Q : Ex → Fr → Heap → Prop}
theorem get_setD (t : Tr) (d : Nat) (v : Value) (j : Nat) (hd : d < 4000 := by decide) : (t.set depth d v).get j = if j = d then v else t.get j := Tr.get_set depth t d v j (by have : 2 ^ depth = 8192 := rfl; omega)
theorem put_set (n : Nat) (t : Tr) (d : Nat) (v : Value) : put n t (some d) v = bif Nat.blt d n then some (t.set depth d v) else none := rfl
theorem put_none (n : Nat) (t : Tr) (v : Value) : put n t none v = some t := rfl
theorem newer_same (lo : Nat) (l : List (Nat × AObj)) : newer lo lo l = [] := by unfold newer; rw [Nat.beq_refl]; rfl
theorem runPure_underlying {t : TypeId} {d : TypeDesc} (h : P.underlying t = some d) : runPure P (underlying t) = some d := by
  unfold underlying; rw [runPure_bind]; show (some P).bind _ = _; simp only [Option.bind_some, h]; rfl
theorem runPure_typeInfo {t : TypeId} {i : TypeInfo} (h : P.info? t = some i) : runPure P (typeInfo t) = some i := by
  unfold typeInfo; rw [runPure_bind]; show (some P).bind _ = _; simp only [Option.bind_some, h]; rfl
theorem runPure_sizeOf {t : TypeId} {i : TypeInfo} (h : P.info? t = some i) : runPure P (sizeOf t) = some i.size := by
  unfold sizeOf; rw [runPure_bind, runPure_typeInfo h]; rfl
structure IntsT (P : Program) (T e : TypeId) : Prop where
  sl : P.underlying T = some (.slice e)
  el : P.underlying e = some (.int .i64)
  info : (P.info? e).map (·.size) = some 1
end Go.Fs
namespace Go.Fs
variable {P : Program} {orc : FuncId → List Value → Heap → Option (Value × Heap)} {rnd : Option Nat} {h : Heap}
abbrev FL := List (Nat × Value)
section
variable (P orc)
end
variable {ops : Array Oper} {n : Nat} {ms : List Nat} {fl : FL} {Q : Ex → Fr → Heap → Prop} {K : FL → Heap → Prop} {l : List Oper}
variable {d : Tmp} {ty : TypeId} {pos : String} {after : Array Edge} {op : Op} {v : Value}
section
variable (P orc)
end
variable {i mem : Nat} {bs : List Nat} {segs : List (Nat × Nat × Nat)} {tail : Bool}
end Go.Fs
namespace Go.Fs
variable {P : Program} {orc : FuncId → List Value → Heap → Option (Value × Heap)} {rnd : Option Nat} {h : Heap}
end Go.Fs
namespace Go.Fs
variable {P : Program} {orc : FuncId → List Value → Heap → Option (Value × Heap)} {rnd : Option Nat} {h h' h0 h1 h2 : Heap}
def HOk (h : Heap) : Prop := ∀ b o, h.get b = some o → b < h.next
structure After (h h' : Heap) : Prop where
  next : h.next ≤ h'.next
  get : ∀ b, b < h.next → h'.get b = h.get b
  ok : HOk h → HOk h'
  low : ∀ e, e ≤ h.low → e ≤ h.next → e ≤ h'.low
theorem After.refl (h : Heap) : After h h := ⟨Nat.le_refl _, fun _ _ => rfl, fun x => x, fun _ x _ => x⟩
theorem After.trans (a : After h h1) (b : After h1 h2) : After h h2 where
  next := Nat.le_trans a.next b.next
  get := fun i hi => (b.get i (Nat.lt_of_lt_of_le hi a.next)).trans (a.get i hi)
  ok := fun x => b.ok (a.ok x)
  low := fun e h3 h4 => b.low e (a.low e h3 h4) (Nat.le_trans h4 a.next)
theorem After.push (h : Heap) (o : AObj) : After h (h.push o) where
  next := Nat.le_succ _
  get := fun b hb => by rw [Heap.get_push, if_neg (by omega)]
  ok := fun x b o' hg => by
    rw [Heap.get_push] at hg; split at hg
    · rename_i e; rw [e]; exact Nat.lt_succ_self _
    exact Nat.lt_succ_of_lt (x b o' hg)
  low := fun e h3 _ => h3
def entry (h : Heap) : Heap := { next := h.next, low := h.next, objs := h.objs }
end Go.Fs
namespace Go.Fs
variable {P : Program} {h h' h0 : Heap}
structure SlT (P : Program) (T e : TypeId) (s : Nat) : Prop where
  sl : P.underlying T = some (.slice e)
  info : ∃ i z, P.info? e = some i ∧ i.size = s ∧ 0 < i.bytes ∧ i.bytes ≤ 4096 ∧ i.zero = some z ∧ z.cells.size = s ∧ z.cells.toList.all af0 = true
  pos : 0 < s
def slB (P : Program) (T e : TypeId) (s : Nat) : Bool :=
  match P.underlying T, P.info? e with
  | some (.slice e'), some i => match i.zero with
    | some z => Nat.beq e' e && Nat.beq i.size s && Nat.blt 0 i.bytes && Nat.ble i.bytes 4096 && Nat.beq z.cells.size s && z.cells.toList.all af0 && Nat.blt 0 s
    | none => false
  | _, _ => false
theorem slT_of {T e : TypeId} {s : Nat} (h : slB P T e s = true) : SlT P T e s := by
  unfold slB at h; split at h
  · rename_i e' i hu hi; split at h
    · rename_i z hz; obtain ⟨h, h7⟩ := band h; obtain ⟨h, h6⟩ := band h; obtain ⟨h, h5⟩ := band h; obtain ⟨h, h4⟩ := band h; obtain ⟨h, h3⟩ := band h; obtain ⟨h1, h2⟩ := band h; have := nbeq h1; subst this; exact ⟨hu, ⟨i, z, hi, nbeq h2, nblt h3, nble h4, hz, nbeq h5, h6⟩, nblt h7⟩
    cases h
  cases h
def numbered : Nat → List Value → List (Nat × Value)
  | _, [] => []
  | k, v :: r => (k, v) :: numbered (k + 1) r
end Go.Fs
namespace Go.Fs
variable {P : Program} {orc : FuncId → List Value → Heap → Option (Value × Heap)} {h : Heap} {ops : Array Oper} {n i mem : Nat} {fl : FL} {K : FL → Heap → Prop} {l : List Oper} {bs : List Nat} {segs : List (Nat × Nat × Nat)} {tail : Bool}
  {d : Tmp} {ty : TypeId} {pos : String} {after : Array Edge}
theorem newer_in {lo hi : Nat} (l : List (Nat × AObj)) (b : Nat) (h1 : lo ≤ b) (h2 : b < hi) : look (newer lo hi l) b = look l b := by
  unfold newer; rw [beq_no (show lo ≠ hi by omega)]; simp only [cond_false]
  induction l with
  | nil => rfl
  | cons p r ih =>
    obtain ⟨k, o⟩ := p; rw [List.filter_cons]; by_cases hk : k = b
    · subst hk
      have : inside lo hi (k, o) = true := by
        unfold inside
        have e1 : Nat.ble lo k = true := by rw [Nat.ble_eq]; exact h1
        have e2 : Nat.blt k hi = true := by show Nat.ble (k + 1) hi = true; rw [Nat.ble_eq]; omega
        simp only [e1, e2, Bool.and_self]
      rw [if_pos this]; simp [look]
    split
    · simp only [look, beq_no hk, cond_false, ih]
    simp only [look, beq_no hk, cond_false, ih]
structure Left (h h' h2 : Heap) : Prop where
  next : h2.next = h'.next
  low : h2.low = h.low
  old : ∀ b, b < h.next → h2.get b = h.get b
  new : ∀ b, h.next ≤ b → h2.get b = h'.get b
end Go.Fs
namespace Go.Fs
variable {P : Program} {orc : FuncId → List Value → Heap → Option (Value × Heap)} {h h' : Heap} {ops : Array Oper} {n i mem : Nat} {fl : FL} {K : FL → Heap → Prop} {l : List Oper} {bs : List Nat} {segs : List (Nat × Nat × Nat)} {tail : Bool}
  {d : Tmp} {ty : TypeId} {pos : String} {after : Array Edge} {op : Op} {v : Value}
end Go.Fs
namespace Go.Fs
variable {P : Program} {h h' h0 h1 h2 : Heap} {S S' : List Nat}
inductive Ty where
  | int (k : IntKind)
  | bool
  | str
  | flt (k : FloatKind)
  | sl (e : Ty)
  | pair (a b : Ty)
  | unit
  | mp (a b : Ty)
  | fn
  | hnd
@[reducible] def Ty.den : Ty → Type
  | .int _ => Int
  | .bool => Bool
  | .str => ByteArray
  | .flt _ => Nat
  | .sl e => List e.den
  | .pair a b => a.den × b.den
  | .unit => Unit
  | .mp a b => List (a.den × b.den)
  | .fn => Option Nat
  | .hnd => Option (Nat × Nat)
def Ty.size : Ty → Nat
  | .pair a b => a.size + b.size
  | .unit => 0
  | _ => 1
def Ty.agg : Ty → Bool
  | .pair _ _ | .unit => true
  | _ => false
def SlC (h : Heap) (S : List Nat) {α : Type} (s : Nat) (R : List Value → α → Prop) (v : Value) (xs : List α) : Prop :=
  (v = .slice none 0 0 ∧ xs = []) ∨ ∃ b o mk, v = .slice (some ⟨b, o, none⟩) xs.length mk ∧
    (xs = [] ∨ (b ∉ S ∧ ∃ e' rs own more, h.get b = some (.row e' rs own more) ∧ o + xs.length * s ≤ rs.length ∧ ∀ i (hi : i < xs.length), R ((rs.drop (o + i * s)).take s) xs[i]))
def MpC (h : Heap) (S : List Nat) {α β : Type} (K : Value → α → Prop) (R : Value → β → Prop) (v : Value) (kvs : List (α × β)) : Prop :=
  (v = .map none ∧ kvs = []) ∨ ∃ b es clock, v = .map (some b) ∧ b ∉ S ∧ h.get b = some (.mapo es clock) ∧ es.length = kvs.length ∧ ∀ i (hi : i < kvs.length) (hj : i < es.length), K es[i].key kvs[i].1 ∧ R es[i].val kvs[i].2
def isAggV : Value → Bool
  | .agg _ => true
  | _ => false
def fnV : Option Nat → Value
  | none => .nilFunc
  | some f => .func (.func f) #[] #[]
def hndV : Option (Nat × Nat) → Value
  | none => .slice none 0 0
  | some (b, n) => .slice (some ⟨b, 0, none⟩) n 0
def RepC (h : Heap) (S : List Nat) : (τ : Ty) → List Value → τ.den → Prop
  | .int k, cs, x => cs = [.int k x]
  | .bool, cs, x => cs = [.bool x]
  | .str, cs, x => cs = [.string x]
  | .flt k, cs, x => cs = [.float k x]
  | .sl e, cs, xs => ∃ v, cs = [v] ∧ SlC h S e.size (RepC h S e) v xs
  | .pair a b, cs, x => RepC h S a (cs.take a.size) x.1 ∧ RepC h S b (cs.drop a.size) x.2
  | .unit, cs, _ => cs = []
  | .mp a b, cs, x => ∃ v, cs = [v] ∧ MpC h S (fun k y => isAggV k = a.agg ∧ RepC h S a k.cells.toList y) (fun u y => isAggV u = b.agg ∧ RepC h S b u.cells.toList y) v x
  | .fn, cs, f => cs = [fnV f]
  | .hnd, cs, f => cs = [hndV f]
def RepV (h : Heap) (S : List Nat) (τ : Ty) (v : Value) (x : τ.den) : Prop := isAggV v = τ.agg ∧ RepC h S τ v.cells.toList x
theorem cells_one {v : Value} (hv : isAggV v = false) : v.cells = #[v] := by
  cases v with
  | agg cs => cases hv
  | _ => rfl
theorem RepV.int {k : IntKind} {v : Value} {x : Int} (hv : RepV h S (.int k) v x) : v = .int k x := by
  obtain ⟨h1, h2⟩ := hv; rw [cells_one h1] at h2; simpa [RepC] using h2
theorem RepV.bool {v : Value} {x : Bool} (hv : RepV h S .bool v x) : v = .bool x := by
  obtain ⟨h1, h2⟩ := hv; rw [cells_one h1] at h2; simpa [RepC] using h2
theorem RepV.str {v : Value} {x : ByteArray} (hv : RepV h S .str v x) : v = .string x := by
  obtain ⟨h1, h2⟩ := hv; rw [cells_one h1] at h2; simpa [RepC] using h2
theorem RepV.flt {k : FloatKind} {v : Value} {x : Nat} (hv : RepV h S (.flt k) v x) : v = .float k x := by
  obtain ⟨h1, h2⟩ := hv; rw [cells_one h1] at h2; simpa [RepC] using h2
theorem RepV.ofInt (k : IntKind) (x : Int) : RepV h S (.int k) (.int k x) x := ⟨rfl, rfl⟩
theorem RepV.ofBool (x : Bool) : RepV h S .bool (.bool x) x := ⟨rfl, rfl⟩
theorem RepV.ofStr (x : ByteArray) : RepV h S .str (.string x) x := ⟨rfl, rfl⟩
theorem RepV.ofFlt (k : FloatKind) (x : Nat) : RepV h S (.flt k) (.float k x) x := ⟨rfl, rfl⟩
def SlV (h : Heap) (S : List Nat) (τ : Ty) (v : Value) (xs : List τ.den) : Prop := SlC h S τ.size (RepC h S τ) v xs
theorem RepV.sl {τ : Ty} {v : Value} {xs : List τ.den} (hv : RepV h S (.sl τ) v xs) : SlV h S τ v xs := by
  obtain ⟨h1, h2⟩ := hv; rw [cells_one h1] at h2; obtain ⟨u, h3, h4⟩ := h2; simp only [List.cons.injEq, and_true] at h3; subst h3; exact h4
theorem SlV.agg {τ : Ty} {v : Value} {xs : List τ.den} (hv : SlV h S τ v xs) : isAggV v = false := by
  rcases hv with ⟨rfl, _⟩ | ⟨b, o, mk, rfl, _⟩ <;> rfl
theorem SlV.rep {τ : Ty} {v : Value} {xs : List τ.den} (hv : SlV h S τ v xs) : RepV h S (.sl τ) v xs :=
  ⟨hv.agg, by rw [cells_one hv.agg]; exact ⟨v, rfl, hv⟩⟩
theorem SlV.nil {τ : Ty} : SlV h S τ (.slice none 0 0) [] := .inl ⟨rfl, rfl⟩
def Goes (h : Heap) (S : List Nat) (h' : Heap) (S' : List Nat) : Prop := ∀ b o, h.get b = some o → b ∉ S → h'.get b = some o ∧ b ∉ S'
theorem Goes.less (hs : ∀ b, b ∈ S' → b ∈ S) : Goes h S h S' := fun _ _ h1 h2 => ⟨h1, fun h3 => h2 (hs _ h3)⟩
theorem Goes.objs (hg : ∀ b, h'.get b = h.get b) : Goes h S h' S := fun b _ h1 h2 => ⟨by rw [hg]; exact h1, h2⟩
theorem After.nx (a : After h h') (hok : HOk h) : Goes h S h' S := fun b o h1 h2 => ⟨by rw [a.get b (hok b o h1)]; exact h1, h2⟩
theorem SlC.nx {α : Type} {s : Nat} {R R' : List Value → α → Prop} (hN : Goes h S h' S') (hR : ∀ cs x, R cs x → R' cs x) {v : Value} {xs : List α} (hv : SlC h S s R v xs) : SlC h' S' s R' v xs := by
  rcases hv with hv | ⟨b, o, mk, h1, h2⟩
  · exact .inl hv
  refine .inr ⟨b, o, mk, h1, ?_⟩; rcases h2 with h2 | ⟨h2, e', rs, own, more, h3, h4, h5⟩
  · exact .inl h2
  obtain ⟨h6, h7⟩ := hN b _ h3 h2; exact .inr ⟨h7, e', rs, own, more, h6, h4, fun i hi => hR _ _ (h5 i hi)⟩
theorem MpC.nx {α β : Type} {K K' : Value → α → Prop} {R R' : Value → β → Prop} (hN : Goes h S h' S') (hK : ∀ u x, K u x → K' u x) (hR : ∀ u x, R u x → R' u x) {v : Value} {kvs : List (α × β)} (hv : MpC h S K R v kvs) : MpC h' S' K' R' v kvs := by
  rcases hv with hv | ⟨b, es, c, h1, h2, h3, h4, h5⟩
  · exact .inl hv
  obtain ⟨h6, h7⟩ := hN b _ h3 h2; exact .inr ⟨b, es, c, h1, h7, h6, h4, fun i hi hj => ⟨hK _ _ (h5 i hi hj).1, hR _ _ (h5 i hi hj).2⟩⟩
theorem RepC.nx (hN : Goes h S h' S') : ∀ {τ : Ty} {cs : List Value} {x : τ.den}, RepC h S τ cs x → RepC h' S' τ cs x := by
  intro τ
  induction τ with
  | int k => exact fun hx => hx
  | bool => exact fun hx => hx
  | str => exact fun hx => hx
  | flt k => exact fun hx => hx
  | unit => exact fun hx => hx
  | pair a b iha ihb => exact fun hx => ⟨iha hx.1, ihb hx.2⟩
  | sl e ih =>
    rintro cs x ⟨v, h1, h2⟩
    exact ⟨v, h1, h2.nx hN fun cs x hx => ih hx⟩
  | fn => exact fun hx => hx
  | hnd => exact fun hx => hx
  | mp a b iha ihb =>
    rintro cs x ⟨v, h1, h2⟩; exact ⟨v, h1, h2.nx hN (fun u x hx => ⟨hx.1, iha hx.2⟩) fun u x hx => ⟨hx.1, ihb hx.2⟩⟩
theorem RepV.nx {τ : Ty} {v : Value} {x : τ.den} (hv : RepV h S τ v x) (hN : Goes h S h' S') : RepV h' S' τ v x := ⟨hv.1, hv.2.nx hN⟩
theorem RepC.len : ∀ {τ : Ty} {cs : List Value} {x : τ.den}, RepC h S τ cs x → cs.length = τ.size := by
  intro τ
  induction τ with
  | int k => rintro cs x rfl; rfl
  | bool => rintro cs x rfl; rfl
  | str => rintro cs x rfl; rfl
  | flt k => rintro cs x rfl; rfl
  | unit => rintro cs x rfl; rfl
  | sl e ih => rintro cs x ⟨v, rfl, _⟩; rfl
  | fn => rintro cs x rfl; rfl
  | hnd => rintro cs x rfl; rfl
  | mp a b _ _ => rintro cs x ⟨v, rfl, _⟩; rfl
  | pair a b iha ihb =>
    rintro cs x ⟨h1, h2⟩; have e1 := iha h1; have e2 := ihb h2; rw [List.length_take] at e1; rw [List.length_drop] at e2; show cs.length = a.size + b.size; omega
def MpV (h : Heap) (S : List Nat) (a b : Ty) (v : Value) (kvs : List (a.den × b.den)) : Prop := MpC h S (RepV h S a) (RepV h S b) v kvs
theorem MpC.agg {α β : Type} {K : Value → α → Prop} {R : Value → β → Prop} {v : Value} {kvs : List (α × β)} (hv : MpC h S K R v kvs) : isAggV v = false := by
  rcases hv with ⟨rfl, _⟩ | ⟨b, es, c, rfl, _⟩ <;> rfl
theorem MpV.rep {a b : Ty} {v : Value} {kvs : List (a.den × b.den)} (hv : MpV h S a b v kvs) : RepV h S (.mp a b) v kvs :=
  ⟨hv.agg, by rw [cells_one hv.agg]; exact ⟨v, rfl, hv⟩⟩
theorem fnV_agg (f : Option Nat) : isAggV (fnV f) = false := by cases f <;> rfl
theorem hndV_agg (f : Option (Nat × Nat)) : isAggV (hndV f) = false := by cases f <;> rfl
theorem RepV.ofHnd (f : Option (Nat × Nat)) : RepV h S .hnd (hndV f) f := ⟨hndV_agg f, by rw [cells_one (hndV_agg f)]; rfl⟩
theorem RepV.ofFn (f : Option Nat) : RepV h S .fn (fnV f) f := ⟨fnV_agg f, by rw [cells_one (fnV_agg f)]; rfl⟩
theorem RepC.one {τ : Ty} {cs : List Value} {x : τ.den} (ht : τ.agg = false) (hx : RepC h S τ cs x) : ∃ v, cs = [v] ∧ RepV h S τ v x := by
  cases τ with
  | int k => exact ⟨_, hx, rfl, rfl⟩
  | bool => exact ⟨_, hx, rfl, rfl⟩
  | str => exact ⟨_, hx, rfl, rfl⟩
  | flt k => exact ⟨_, hx, rfl, rfl⟩
  | sl e =>
    obtain ⟨v, h1, h2⟩ := hx
    exact ⟨v, h1, SlV.rep h2⟩
  | mp a b =>
    obtain ⟨v, h1, h2⟩ := hx
    exact ⟨v, h1, MpV.rep h2⟩
  | fn => exact ⟨_, hx, RepV.ofFn _⟩
  | hnd => exact ⟨_, hx, RepV.ofHnd _⟩
  | pair a b => cases ht
  | unit => cases ht
theorem Ty.size_one {τ : Ty} (ht : τ.agg = false) : τ.size = 1 := by
  cases τ <;> first | rfl | cases ht
theorem RepV.last {a : Ty} {u : Value} {x : a.den} (ht : a.agg = false) (h1 : RepV h S a u x) : RepC h S a [u] x := by
  have hu := h1.2; rw [cells_one (h1.1.trans ht)] at hu; exact hu
structure ElT (P : Program) (T e : TypeId) (τ : Ty) : Prop where
  sl : SlT P T e τ.size
  agg : ∃ d, P.underlying e = some d ∧ isAggD d = τ.agg
def elB (P : Program) (T e : TypeId) (τ : Ty) : Bool := slB P T e τ.size && (match P.underlying e with | some d => isAggD d == τ.agg | none => false)
theorem elT_of {T e : TypeId} {τ : Ty} (hb : elB P T e τ = true) : ElT P T e τ := by
  unfold elB at hb; obtain ⟨h1, h2⟩ := band hb; refine ⟨slT_of h1, ?_⟩; split at h2
  · rename_i d hd; exact ⟨d, hd, by simpa using h2⟩
  cases h2
theorem SlV.len {T e : TypeId} {τ : Ty} (hT : ElT P T e τ) {v : Value} {xs : List τ.den} (hv : SlV h S τ v xs) (h' : Heap) : fsLen P #[T] v h' = some (.int .i64 (xs.length : Nat)) := by
  rcases hv with ⟨rfl, rfl⟩ | ⟨b, o, mk, rfl, _⟩
  · simp [fsLen, hT.sl.sl]
  simp [fsLen, hT.sl.sl]
def ptrAt (v : Value) (s j : Nat) : Value :=
  match v with
  | .slice (some ⟨b, o, none⟩) _ _ => .pointer (some ⟨b, o + j * s, none⟩)
  | _ => undef
def RepP (h : Heap) (S : List Nat) (τ : Ty) (p : Value) (x : τ.den) : Prop :=
  ∃ b o e rs own more, p = .pointer (some ⟨b, o, none⟩) ∧ b ∉ S ∧ h.get b = some (.row e rs own more) ∧ o + τ.size ≤ rs.length ∧ RepC h S τ ((rs.drop o).take τ.size) x
theorem RepP.nx {τ : Ty} {p : Value} {x : τ.den} (hp : RepP h S τ p x) (hN : Goes h S h' S') : RepP h' S' τ p x := by
  obtain ⟨b, o, e, rs, own, more, h1, h2, h3, h4, h5⟩ := hp; obtain ⟨h6, h7⟩ := hN b _ h3 h2; exact ⟨b, o, e, rs, own, more, h1, h7, h6, h4, h5.nx hN⟩
theorem SlV.row {τ : Ty} {v : Value} {xs : List τ.den} (hv : SlV h S τ v xs) (hj : 0 < xs.length) : ∃ b o mk e' rs own more, v = .slice (some ⟨b, o, none⟩) xs.length mk ∧ b ∉ S ∧ h.get b = some (.row e' rs own more) ∧ o + xs.length * τ.size ≤ rs.length ∧
    ∀ i (hi : i < xs.length), RepC h S τ ((rs.drop (o + i * τ.size)).take τ.size) xs[i] := by
  rcases hv with ⟨rfl, rfl⟩ | ⟨b, o, mk, rfl, h2⟩
  · simp at hj
  rcases h2 with rfl | ⟨h2, e', rs, own, more, h3, h4, h5⟩
  · simp at hj
  exact ⟨b, o, mk, e', rs, own, more, rfl, h2, h3, h4, h5⟩
theorem SlV.at {τ : Ty} {v : Value} {xs : List τ.den} (hv : SlV h S τ v xs) {j : Nat} (hj : j < xs.length) : RepP h S τ (ptrAt v τ.size j) xs[j] := by
  obtain ⟨b, o, mk, e', rs, own, more, rfl, h2, h3, h4, h5⟩ := hv.row (by omega); refine ⟨b, o + j * τ.size, e', rs, own, more, rfl, h2, h3, ?_, h5 j hj⟩; have : (j + 1) * τ.size ≤ xs.length * τ.size := Nat.mul_le_mul_right _ hj; rw [Nat.add_mul] at this; omega
theorem SlV.ix {T e : TypeId} {τ : Ty} (hT : ElT P T e τ) {v : Value} {xs : List τ.den} (hv : SlV h S τ v xs) {j : Nat} (hj : j < xs.length) : runPure P (Instr.indexAt T v (.int .i64 (j : Nat))) = some (ptrAt v τ.size j) := by
  obtain ⟨b, o, mk, e', rs, own, more, rfl, h2, h3, h4, h5⟩ := hv.row (by omega); obtain ⟨i, z, hinf, hsz, _⟩ := hT.sl.info; unfold Instr.indexAt
  have h6 : (0 : Int) ≤ (j : Int) ∧ (j : Int) < (xs.length : Nat) := by omega
  simp only [runPure_bind, asIntOf, runPure_pure, Option.bind_some, runPure_underlying hT.sl.sl, if_pos h6, runPure_sizeOf hinf, hsz, add_none, Int.toNat_natCast, ptrAt]
structure ValT (P : Program) (e : TypeId) (τ : Ty) : Prop where
  info : ∃ i, P.info? e = some i ∧ i.size = τ.size
  agg : ∃ d, P.underlying e = some d ∧ isAggD d = τ.agg
def valB (P : Program) (e : TypeId) (τ : Ty) : Bool := (match P.info? e with | some i => Nat.beq i.size τ.size | none => false) && (match P.underlying e with | some d => isAggD d == τ.agg | none => false)
theorem valT_of {e : TypeId} {τ : Ty} (hb : valB P e τ = true) : ValT P e τ := by
  unfold valB at hb; obtain ⟨h1, h2⟩ := band hb; refine ⟨?_, ?_⟩
  · split at h1
    · rename_i i hi; exact ⟨i, hi, nbeq h1⟩
    cases h1
  split at h2
  · rename_i d hd; exact ⟨d, hd, by simpa using h2⟩
  cases h2
def valAt (h : Heap) (τ : Ty) (p : Value) : Value :=
  match p with
  | .pointer (some ⟨b, o, none⟩) =>
    match h.get b with
    | some (.row _ rs _ _) => if τ.agg then .agg ((rs.drop o).take τ.size).toArray else rs.getD o undef
    | _ => undef
  | _ => undef
theorem take_one {rs : List Value} {o : Nat} (ho : o < rs.length) : (rs.drop o).take 1 = [rs[o]] := by
  rw [List.drop_eq_getElem_cons ho]; rfl
theorem RepP.load' {e : TypeId} {τ : Ty} (hT : ValT P e τ) {p : Value} {x : τ.den} (hp : RepP h S τ p x) : fsLoad P e p h = some (valAt h τ p) ∧ RepV h S τ (valAt h τ p) x := by
  obtain ⟨b, o, e', rs, own, more, rfl, h2, h3, h4, h5⟩ := hp; obtain ⟨i, hi, hs⟩ := hT.info; obtain ⟨d, hd, ha⟩ := hT.agg; simp only [fsLoad, valAt, h3, hd, hi, ha, hs]
  cases hb : τ.agg with
  | true =>
    simp only [if_true, h4]
    refine ⟨trivial, by simpa [isAggV] using hb.symm, by simpa [Value.cells] using h5⟩
  | false =>
    have h1 := Ty.size_one hb; rw [h1] at h4 h5
    have ho : o < rs.length := by omega
    rw [take_one ho] at h5; obtain ⟨u, hu, hv⟩ := h5.one hb; simp only [List.cons.injEq, and_true] at hu; simp only [Bool.false_eq_true, if_false, List.getD_eq_getElem?_getD, List.getElem?_eq_getElem ho, Option.getD_some]; exact ⟨trivial, by rw [hu]; exact hv⟩
theorem RepP.val {τ : Ty} {p : Value} {x : τ.den} (hp : RepP h S τ p x) : RepV h S τ (valAt h τ p) x := by
  obtain ⟨b, o, e', rs, own, more, rfl, h2, h3, h4, h5⟩ := hp; simp only [valAt, h3]
  cases hb : τ.agg with
  | true =>
    simp only [if_true]
    refine ⟨by simpa [isAggV] using hb.symm, by simpa [Value.cells] using h5⟩
  | false =>
    have h1 := Ty.size_one hb; rw [h1] at h4 h5
    have ho : o < rs.length := by omega
    rw [take_one ho] at h5; obtain ⟨u, hu, hv⟩ := h5.one hb; simp only [List.cons.injEq, and_true] at hu; simp only [Bool.false_eq_true, if_false, List.getD_eq_getElem?_getD, List.getElem?_eq_getElem ho, Option.getD_some]; rw [hu]; exact hv
def padd (p : Value) (k : Nat) : Value :=
  match p with
  | .pointer (some ⟨b, o, none⟩) => .pointer (some ⟨b, o + k, none⟩)
  | _ => undef
def offB (P : Program) (s : TypeId) (f k : Nat) : Bool :=
  match P.underlying s with
  | some (.struct fs) => match fs[f]? with
    | some fd => Nat.beq fd.offset k && (match P.info? fd.type with | some i => Nat.blt 0 i.size | none => false)
    | none => false
  | _ => false
theorem RepP.fa {s : TypeId} {f k : Nat} {τ : Ty} {p : Value} {x : τ.den} (hp : RepP h S τ p x) (hb : offB P s f k = true) : runPure P (Instr.fieldAt s p f) = some (padd p k) := by
  obtain ⟨b', o, e', rs, own, more, rfl, h2, h3, h4, h5⟩ := hp; unfold offB at hb; split at hb
  · rename_i fs hfs; split at hb
    · rename_i fd hfd; obtain ⟨h6, h7⟩ := band hb; split at h7
      · rename_i i hi; have h8 := nblt h7; have h9 := nbeq h6; unfold Instr.fieldAt; simp only [runPure_bind, runPure_underlying hfs, Option.bind_some, hfd]; show (runPure P (Instr.sureAddr _)).bind _ = _; simp only [Instr.sureAddr, runPure_pure, Option.bind_some, runPure_bind, fieldPlace, runPure_sizeOf hi]; rw [if_neg (by omega)]; simp only [runPure_pure, Option.bind_some, add_none, h9, padd]
      cases h7
    cases hb
  cases hb
end Go.Fs
namespace Go.Fs
variable {P : Program} {h h' h0 h1 h2 : Heap} {S S' S0 : List Nat}
theorem fold_set (off : Nat) : ∀ (us : List Value) (j : Nat) (pre mid post : List Value), pre.length = off + j → mid.length = us.length →
    (us.zipIdx j).foldl (fun (cs : Array Value) (p : Value × Nat) => cs.setIfInBounds (off + p.2) p.1) (pre ++ mid ++ post).toArray = (pre ++ us ++ post).toArray
  | [], j, pre, mid, post, _, hm => by
    have : mid = [] := List.eq_nil_of_length_eq_zero hm; subst this
    rfl
  | u :: us, j, pre, [], post, _, hm => by simp at hm
  | u :: us, j, pre, m :: mid, post, hp, hm => by
    simp only [List.zipIdx_cons, List.foldl_cons]
    have h1 : (pre ++ (m :: mid) ++ post).toArray.setIfInBounds (off + j) u = ((pre ++ [u]) ++ mid ++ post).toArray := by
      rw [← hp]; simp
    rw [h1, fold_set off us (j + 1) (pre ++ [u]) mid post (by simp; omega) (by simpa using hm)]; simp
theorem fill_at (s off : Nat) (u : Value) (pre mid post : List Value) (hp : pre.length = off) (hm : mid.length = s) (hu : u.cells.size = s) :
    u.cells.zipIdx.foldl (fun (cs : Array Value) (p : Value × Nat) => cs.setIfInBounds (off + p.2) p.1) (pre ++ mid ++ post).toArray = (pre ++ u.cells.toList ++ post).toArray := by
  have := fold_set off u.cells.toList 0 pre mid post (by omega) (by simp; omega); rw [← this, ← Array.foldl_toList, Array.toList_zipIdx]
def flat (vs : List Value) : List Value := vs.flatMap fun v => v.cells.toList
theorem fill_all (s : Nat) : ∀ (vs : List Value) (k : Nat) (pre rest : List Value), (∀ v ∈ vs, v.cells.size = s) → pre.length = k * s → rest.length = vs.length * s →
    Instr.fill (fun i => some (i * s, s)) (pre ++ rest).toArray (numbered k vs) = some (pre ++ flat vs).toArray
  | [], k, pre, rest, _, _, hr => by
    have : rest = [] := List.eq_nil_of_length_eq_zero (by simpa using hr); subst this
    rfl
  | v :: vs, k, pre, rest, hc, hp, hr => by
    have hv := hc v List.mem_cons_self; simp only [numbered, Instr.fill, hv]
    have hr' : rest.length = vs.length * s + s := by rw [hr, List.length_cons, Nat.add_mul]; omega
    have h2 : (decide (s ≠ s) || decide (k * s + s > (pre ++ rest).toArray.size)) = false := by simp; omega
    rw [show (s ≠ s || k * s + s > (pre ++ rest).toArray.size) = false from h2]; simp only [Bool.false_eq_true, if_false]; have h3 := fill_at s (k * s) v pre (rest.take s) (rest.drop s) hp (by rw [List.length_take]; omega) hv; rw [List.append_assoc, List.take_append_drop] at h3; have h4 : v.cells.zipIdx.foldl (fun cs (c, j) => cs.setIfInBounds (k * s + j) c) (pre ++ rest).toArray = (pre ++ v.cells.toList ++ rest.drop s).toArray := h3; rw [h4, fill_all s vs (k + 1) (pre ++ v.cells.toList) (rest.drop s) (fun u hu => hc u (List.mem_cons_of_mem _ hu)) (by simp [hv, hp, Nat.add_mul]) (by rw [List.length_drop]; omega)]; simp [flat]
theorem RepV.cellsSize {τ : Ty} {u : Value} {x : τ.den} (hu : RepV h S τ u x) : u.cells.size = τ.size := by simpa using hu.2.len
theorem RepC.allOne : ∀ {τ : Ty} {cs : List Value} {x : τ.den}, RepC h S τ cs x → cs.all oneCell = true := by
  intro τ
  induction τ with
  | int k => rintro cs x rfl; rfl
  | bool => rintro cs x rfl; rfl
  | str => rintro cs x rfl; rfl
  | flt k => rintro cs x rfl; rfl
  | unit => rintro cs x rfl; rfl
  | sl e ih =>
    rintro cs x ⟨v, rfl, h2⟩
    rcases h2 with ⟨rfl, _⟩ | ⟨b, o, mk, rfl, _⟩ <;> rfl
  | fn => rintro cs x rfl; cases x <;> rfl
  | hnd => rintro cs x rfl; cases x <;> rfl
  | mp a b _ _ =>
    rintro cs x ⟨v, rfl, h2⟩
    rcases h2 with ⟨rfl, _⟩ | ⟨b, es, c, rfl, _⟩ <;> rfl
  | pair a b iha ihb =>
    rintro cs x ⟨h1, h2⟩; have e1 := iha h1; have e2 := ihb h2; rw [← List.take_append_drop a.size cs, List.all_append, e1, e2]; rfl
def Elems (h : Heap) (S : List Nat) (τ : Ty) (rs : List Value) (xs : List τ.den) : Prop := rs.length = xs.length * τ.size ∧ ∀ i (hi : i < xs.length), RepC h S τ ((rs.drop (i * τ.size)).take τ.size) xs[i]
theorem Elems.nx {τ : Ty} {rs : List Value} {xs : List τ.den} (he : Elems h S τ rs xs) (hN : Goes h S h' S') : Elems h' S' τ rs xs := ⟨he.1, fun i hi => (he.2 i hi).nx hN⟩
theorem Elems.nil {τ : Ty} : Elems h S τ [] [] := ⟨by simp, fun i hi => absurd hi (by simp)⟩
theorem Elems.append {τ : Ty} {rs rs' : List Value} {xs xs' : List τ.den} (he : Elems h S τ rs xs) (he' : Elems h S τ rs' xs') : Elems h S τ (rs ++ rs') (xs ++ xs') := by
  refine ⟨by rw [List.length_append, List.length_append, he.1, he'.1, Nat.add_mul], fun i hi => ?_⟩; by_cases h1 : i < xs.length
  · have h2 : (i + 1) * τ.size ≤ xs.length * τ.size := Nat.mul_le_mul_right _ h1; rw [Nat.add_mul] at h2
    have h3 : i * τ.size ≤ rs.length := by rw [he.1]; omega
    rw [List.getElem_append_left h1, List.drop_append_of_le_length h3, List.take_append_of_le_length (by rw [List.length_drop, he.1]; omega)]; exact he.2 i h1
  have h1' : xs.length ≤ i := by omega
  have h2 : i - xs.length < xs'.length := by rw [List.length_append] at hi; omega
  rw [List.getElem_append_right h1']
  have h3 : (rs ++ rs').drop (i * τ.size) = rs'.drop ((i - xs.length) * τ.size) := by
    have h4 : i * τ.size = rs.length + (i - xs.length) * τ.size := by rw [he.1, ← Nat.add_mul]; congr 1; omega
    rw [h4, List.drop_append, List.drop_eq_nil_of_le (by omega), Nat.add_sub_cancel_left, List.nil_append]
  rw [h3]; exact he'.2 _ h2
theorem Elems.one {τ : Ty} {u : Value} {x : τ.den} (hu : RepV h S τ u x) : Elems h S τ u.cells.toList [x] := by
  refine ⟨by simpa using hu.cellsSize, fun i hi => ?_⟩
  have : i = 0 := by simpa using hi
  subst this; simp only [Nat.zero_mul, List.drop_zero, List.getElem_cons_zero]; rw [List.take_of_length_le (by rw [Array.length_toList, hu.cellsSize]; exact Nat.le_refl _)]; exact hu.2
theorem Elems.allOne {τ : Ty} : ∀ (xs : List τ.den) (rs : List Value), Elems h S τ rs xs → rs.all oneCell = true := by
  intro xs
  induction xs with
  | nil => intro rs he; have := he.1; simp at this; subst this; rfl
  | cons x xs ih =>
    intro rs he; have h1 := he.2 0 (by simp); simp only [Nat.zero_mul, List.drop_zero, List.getElem_cons_zero] at h1
    have h2 : Elems h S τ (rs.drop τ.size) xs := by
      refine ⟨by rw [List.length_drop, he.1, List.length_cons, Nat.add_mul]; omega, fun i hi => ?_⟩; have := he.2 (i + 1) (by simpa using hi); rw [List.drop_drop]; rw [Nat.add_mul, Nat.one_mul, List.getElem_cons_succ] at this
      rwa [Nat.add_comm]
    rw [← List.take_append_drop τ.size rs, List.all_append, h1.allOne, ih _ h2]; rfl
theorem Elems.slv {τ : Ty} {e' : TypeId} {rs : List Value} {xs : List τ.den} {own more : Bool} {b mk : Nat} (he : Elems h S τ rs xs) (hg : h.get b = some (.row e' rs own more)) (hb : b ∉ S) : SlV h S τ (.slice (some ⟨b, 0, none⟩) xs.length mk) xs :=
  .inr ⟨b, 0, mk, rfl, .inr ⟨hb, e', rs, own, more, hg, by rw [he.1]; omega, fun i hi => by rw [Nat.zero_add]; exact he.2 i hi⟩⟩
theorem vs1 {τ : Ty} {u : Value} {x : τ.den} (h1 : RepV h S τ u x) : ∀ i (hi : i < [u].length) (hx : i < [x].length), RepV h S τ [u][i] [x][i] := by
  intro i hi hx
  match i, hi with
  | 0, _ => exact h1
theorem buildEl {T e : TypeId} {τ : Ty} (hT : ElT P T e τ) {vs : List Value} {xs : List τ.den} (hl : vs.length = xs.length) (hv : ∀ i (hi : i < vs.length) (hx : i < xs.length), RepV h S τ vs[i] xs[i]) (h0 : vs ≠ []) (hsz : vs.length ≤ 1000) (hτ : τ.size ≤ 100) (h2 : Heap) :
    fsBuildSlice P T vs.length (numbered 0 vs).toArray h2 = some (.slice (some ⟨h2.next, 0, none⟩) vs.length 0, h2.push (.row e (flat vs) true false)) := by
  obtain ⟨i, z, h1, h2', _, _, h3, h4, h5⟩ := hT.sl.info; have hpos : 0 < vs.length := List.length_pos_iff.2 h0
  have hc : ∀ v ∈ vs, v.cells.size = τ.size ∧ v.cells.toList.all oneCell = true := by
    intro v hm; obtain ⟨k, hk, rfl⟩ := List.getElem_of_mem hm; have := hv k hk (by omega); exact ⟨this.cellsSize, this.2.allOne⟩
  unfold fsBuildSlice; have hb : Nat.beq vs.length 0 = false := beq_no (by omega); simp only [hT.sl.sl, h1, hb, cond_false, h3, h2']
  have hall : ∀ (k : Nat) (l : List Value), (∀ v ∈ l, v.cells.size = τ.size ∧ v.cells.toList.all oneCell = true) → ((numbered k l).all fun p => p.2.cells.toList.all oneCell) = true := by
    intro k l
    induction l generalizing k with
    | nil => intro _; rfl
    | cons u l ih =>
      intro hl; have hu := hl u List.mem_cons_self; have hr := ih (k + 1) fun w hw => hl w (List.mem_cons_of_mem _ hw); simp only [numbered, List.all_cons, hu.2, Bool.true_and]; exact hr
  have hcc : (Nat.ble (vs.length * τ.size) 16777216 && Nat.blt 0 τ.size && z.cells.toList.all af0 && (numbered 0 vs).all fun p => p.2.cells.toList.all oneCell) = true := by
    have e1 : Nat.ble (vs.length * τ.size) 16777216 = true := by
      rw [Nat.ble_eq]; have := Nat.mul_le_mul hsz hτ; omega
    have e2 : Nat.blt 0 τ.size = true := by show Nat.ble 1 τ.size = true; rw [Nat.ble_eq]; exact hT.sl.pos
    rw [e1, e2, h5, hall 0 vs hc]; rfl
  rw [hcc]; simp only [cond_true]; have hf := fill_all τ.size vs 0 [] ((Array.range (vs.length * τ.size)).map (z.cells[· % z.cells.size]!)).toList (fun v hv' => (hc v hv').1) (by simp) (by simp); simp only [List.nil_append, Array.toArray_toList] at hf; rw [hf]
theorem Elems.flat {τ : Ty} : ∀ (vs : List Value) (xs : List τ.den), vs.length = xs.length → (∀ i (hi : i < vs.length) (hx : i < xs.length), RepV h S τ vs[i] xs[i]) → Elems h S τ (Fs.flat vs) xs
  | [], [], _, _ => Elems.nil
  | v :: vs, x :: xs, hl, hv => by
    have h1 : Elems h S τ v.cells.toList [x] := Elems.one (hv 0 (by simp) (by simp)); have h2 := Elems.flat vs xs (by simpa using hl) fun i hi hx => hv (i + 1) (by simpa using hi) (by simpa using hx)
    exact h1.append h2
  | [], x :: xs, hl, _ => by simp at hl
  | v :: vs, [], hl, _ => by simp at hl
def GrowR (h : Heap) (S : List Nat) (lo : Nat) (e : TypeId) (m : Bool) (τ : Ty) (v : Value) (xs : List τ.den) : Prop :=
  (v = .slice none 0 0 ∧ xs = []) ∨ ∃ b rs, b ∈ S ∧ lo ≤ b ∧ v = .slice (some ⟨b, 0, none⟩) xs.length 0 ∧ h.get b = some (.row e rs true m) ∧ Elems h S τ rs xs
theorem appended_row {i : TypeInfo} {z : Value} {k b o n m s : Nat} {e e2 : TypeId} {rs news : List Value} {own more : Bool} (his : i.size = s) (hk : k * s ≠ 0) (hb : h.get b = some (.row e rs own more)) (hn : k ≤ n) (ho : o + k * s ≤ rs.length) (hnews : (rs.drop o).take (k * s) = news) (hnk : n = k) :
    appended i z (isInt (.slice e2)) (.slice (some ⟨b, o, none⟩) n m) h = some (k, news) := by
  subst hnk; simp only [appended, isInt, cond_false, lenV, cellsOf, his, hb]
  have e1 : Nat.ble n n = true := by rw [Nat.ble_eq]; exact Nat.le_refl _
  have e2 : Nat.beq (n * s) 0 = false := beq_no hk
  have e3 : Nat.ble (o + n * s) rs.length = true := by rw [Nat.ble_eq]; omega
  simp only [e1, cond_true, e2, cond_false, e3, Option.map_some, hnews]
theorem GrowR.len {lo : Nat} {T e : TypeId} {m : Bool} {τ : Ty} {v : Value} {xs : List τ.den} (hg : GrowR h S lo e m τ v xs) (hT : ElT P T e τ) (h' : Heap) : fsLen P #[T] v h' = some (.int .i64 (xs.length : Nat)) := by
  rcases hg with ⟨rfl, rfl⟩ | ⟨b, rs, h1, h2, rfl, h4, h5⟩
  · simp [fsLen, hT.sl.sl]
  simp [fsLen, hT.sl.sl]
end Go.Fs
namespace Go.Fs
variable {P : Program} {orc : FuncId → List Value → Heap → Option (Value × Heap)} {rnd : Option Nat} {h h' h0 h1 h2 : Heap} {ops : Array Oper} {n i mem : Nat} {fl : FL} {K : FL → Heap → Prop} {l : List Oper} {bs : List Nat} {segs : List (Nat × Nat × Nat)} {tail : Bool}
  {d : Tmp} {ty : TypeId} {pos : String} {after : Array Edge} {op : Op} {v : Value} {S S' S0 : List Nat} {ms : List Nat} {Q : Ex → Fr → Heap → Prop}
theorem RepV.box {τ : Ty} {e : TypeId} {u : Value} {x : τ.den} (hok : HOk h) (hS : ∀ b ∈ S, b < h.next) (hx : RepV h S τ u x) : RepP (h.push (.row e u.cells.toList true false)) S τ (.pointer (some ⟨h.next, 0, none⟩)) x := by
  have hN : Goes h S (h.push (.row e u.cells.toList true false)) S := (After.push h _).nx hok; refine ⟨h.next, 0, e, u.cells.toList, true, false, rfl, fun hm => ?_, by rw [Heap.get_push, if_pos rfl], by rw [Array.length_toList, hx.cellsSize]; omega, ?_⟩
  · have := hS _ hm; omega
  rw [List.drop_zero, List.take_of_length_le (by rw [Array.length_toList, hx.cellsSize]; exact Nat.le_refl _)]; exact hx.2.nx hN
section
variable {fr : Fr} {id id' : Nat} {b : Code} {I : Nat → FL → Heap → Prop} {k : Nat}
end
theorem RepC.anyHeap : ∀ {τ : Ty} {cs : List Value} {x : τ.den}, cs.all af0 = true → RepC h S τ cs x → RepC h' S' τ cs x := by
  intro τ
  induction τ with
  | int k => exact fun _ hx => hx
  | bool => exact fun _ hx => hx
  | str => exact fun _ hx => hx
  | flt k => exact fun _ hx => hx
  | unit => exact fun _ hx => hx
  | pair a b iha ihb =>
    intro cs x ha hx; rw [← List.take_append_drop a.size cs, List.all_append] at ha; obtain ⟨h1, h2⟩ := band ha
    exact ⟨iha h1 hx.1, ihb h2 hx.2⟩
  | sl e ih =>
    rintro cs x ha ⟨v, rfl, h2⟩; rcases h2 with h2 | ⟨b, o, mk, rfl, _⟩
    · exact ⟨v, rfl, .inl h2⟩
    cases ha
  | fn => exact fun _ hx => hx
  | hnd => exact fun _ hx => hx
  | mp a b _ _ =>
    rintro cs x ha ⟨v, rfl, h2⟩; rcases h2 with h2 | ⟨b, es, c, rfl, _⟩
    · exact ⟨v, rfl, .inl h2⟩
    cases ha
theorem RepV.anyHeap {τ : Ty} {v : Value} {x : τ.den} (hv : RepV h S τ v x) (ha : af1 v = true) : RepV h' S' τ v x := by
  refine ⟨hv.1, hv.2.anyHeap ?_⟩
  cases v with
  | agg cs => exact ha
  | _ => simpa [Value.cells, af1] using ha
end Go.Fs
namespace Go.Fs
variable {P : Program} {orc : FuncId → List Value → Heap → Option (Value × Heap)} {rnd : Option Nat} {h h' h0 h1 h2 hs : Heap} {ops : Array Oper} {n i mem b : Nat} {fl : FL} {K : FL → Heap → Prop} {l : List Oper} {bs : List Nat} {segs : List (Nat × Nat × Nat)} {tail : Bool}
  {d : Tmp} {ty : TypeId} {pos : String} {after : Array Edge} {op : Op} {v : Value} {S S' S0 : List Nat}
def SegsOk (hs : Heap) (segs : List (Nat × Nat × Nat)) : Prop := ∀ s ∈ segs, hs.next ≤ s.2.1
theorem SegsOk.nil : SegsOk hs [] := fun _ h => by cases h
theorem SegsOk.cons {lo hi : Nat} (h1 : hs.next ≤ lo) (h2 : SegsOk hs segs) : SegsOk hs ((i, lo, hi) :: segs) := fun s hm => by
  rcases List.mem_cons.1 hm with rfl | hm
  · exact h1
  exact h2 s hm
theorem look_filter_all {p : Nat × AObj → Bool} {b : Nat} (hp : ∀ o, p (b, o) = true) : ∀ l : List (Nat × AObj), look (l.filter p) b = look l b
  | [] => rfl
  | (k, o) :: r => by
    rw [List.filter_cons]; by_cases hk : k = b
    · subst hk; rw [if_pos (hp o)]; simp [look]
    split
    · simp only [look, beq_no hk, cond_false, look_filter_all hp r]
    simp only [look, beq_no hk, cond_false, look_filter_all hp r]
theorem mask_old {m lo b : Nat} (hb : b < lo) : ∀ (segs : List (Nat × Nat × Nat)) (objs : List (Nat × AObj)), (∀ s ∈ segs, lo ≤ s.2.1) → look (mask m segs objs) b = look objs b
  | [], _, _ => rfl
  | (k, l, hi) :: segs, objs, hs => by
    simp only [mask]; rw [mask_old hb segs _ fun s hm => hs s (List.mem_cons_of_mem _ hm)]; split
    · rfl
    refine look_filter_all (fun o => ?_) objs; have := hs _ List.mem_cons_self; unfold outside; simp only [Bool.not_eq_true', Bool.and_eq_false_iff, decide_eq_false_iff_not]
    left; simp only at this; omega
theorem mask_sees {m b : Nat} {o : AObj} : ∀ (segs : List (Nat × Nat × Nat)) (objs : List (Nat × AObj)), look (mask m segs objs) b = some o → look objs b = some o
  | [], _, h => h
  | (k, l, hi) :: segs, objs, h => by
    simp only [mask] at h; have := mask_sees segs _ h; split at this
    · exact this
    exact (look_filter (outside l hi) (fun b => !(decide (l ≤ b) && decide (b < hi))) (fun _ _ => rfl) objs b o this).1
def msk (m : Nat) (segs : List (Nat × Nat × Nat)) (h : Heap) : Heap := { next := h.next, low := h.next, objs := mask m segs h.objs }
theorem msk_after {m : Nat} (hA : After hs h) (hsg : SegsOk hs segs) : After hs (msk m segs h) where
  next := hA.next
  get := fun b hb => (mask_old hb segs h.objs hsg).trans (hA.get b hb)
  ok := fun hok b o hg => hA.ok hok b o (mask_sees segs h.objs hg)
  low := fun e h1 h2 => Nat.le_trans h2 hA.next
theorem ble_refl' (a : Nat) : Nat.ble a a = true := by rw [Nat.ble_eq]; exact Nat.le_refl _
theorem blt_refl' (a : Nat) : Nat.blt a a = false := by
  cases hx : Nat.blt a a with
  | false => rfl
  | true => have := nblt hx; omega
theorem blt_of_le {a b : Nat} (hl : b ≤ a) : Nat.blt a b = false := by
  cases hx : Nat.blt a b with
  | false => rfl
  | true => have := nblt hx; omega
theorem newer_left {M : Heap} (hok : HOk h) (hM : ∀ b o, M.get b = some o → h.get b = some o) (hMn : M.next = h.next) (hA : After M h') (hMok : HOk M) :
    After h { next := h'.next, low := h.low, objs := newer h.next h'.next h'.objs ++ h.objs } ∧ ∀ S, Goes h' S { next := h'.next, low := h.low, objs := newer h.next h'.next h'.objs ++ h.objs } S := by
  have hold : ∀ b, b < h.next → look (newer h.next h'.next h'.objs ++ h.objs) b = look h.objs b := fun b hb => by
    rw [look_append]
    cases hl : look (newer h.next h'.next h'.objs) b with
    | none => rfl
    | some o => have := (newer_some _ _ _ hl).1; omega
  have hnew : ∀ b o, h.next ≤ b → look h'.objs b = some o → look (newer h.next h'.next h'.objs ++ h.objs) b = some o := fun b o hb hl => by
    rw [look_append]; have hlt : b < h'.next := hA.ok hMok b o hl; rw [newer_in _ _ hb hlt, hl]; rfl
  have hnx : h.next ≤ h'.next := by have := hA.next; omega
  refine ⟨⟨hnx, hold, fun _ b o hg => ?_, fun e h1 _ => h1⟩, fun S b o hg hS => ⟨?_, hS⟩⟩
  · by_cases hb : b < h.next
    · exact Nat.lt_of_lt_of_le hb hnx
    have hg' : look (newer h.next h'.next h'.objs ++ h.objs) b = some o := hg; rw [look_append] at hg'
    cases hl : look (newer h.next h'.next h'.objs) b with
    | some o' => exact (newer_some _ _ _ hl).1.2
    | none => rw [hl] at hg'; exact absurd (hok b o hg') hb
  by_cases hb : b < h.next
  · have h3 : M.get b = some o := by rw [← hA.get b (by omega)]; exact hg
    exact (hold b hb).trans (hM b o h3)
  exact hnew b o (by omega) hg
end Go.Fs
namespace Go.Fs
variable {P : Program} {orc : FuncId → List Value → Heap → Option (Value × Heap)} {rnd : Option Nat} {h h' h0 h1 h2 hs : Heap} {ops : Array Oper} {n i mem b : Nat} {fl : FL} {K : FL → Heap → Prop} {l : List Oper} {bs : List Nat} {segs : List (Nat × Nat × Nat)} {tail : Bool}
  {d : Tmp} {ty : TypeId} {pos : String} {after : Array Edge} {op : Op} {v : Value} {S S' S0 : List Nat} {ms : List Nat} {Q : Ex → Fr → Heap → Prop} {c : Code}
theorem wrap64 {n : Int} (h0 : -9223372036854775808 ≤ n) (h1 : n ≤ 9223372036854775807) : IntKind.i64.wrap n = n := by
  unfold IntKind.wrap; simp only [IntKind.bits, IntKind.signed, Bool.true_and]
  have e : (2 ^ 64 : Int) = 18446744073709551616 := by decide
  have e' : (2 ^ (64 - 1) : Int) = 9223372036854775808 := by decide
  simp only [e, e', decide_eq_true_eq, ge_iff_le]; split <;> omega
variable {T T' : TypeId} {x y : Operand} {p q : Int}
end Go.Fs
namespace Go.Fs
variable {P : Program} {orc : FuncId → List Value → Heap → Option (Value × Heap)} {rnd : Option Nat} {h h' h0 h1 h2 hs : Heap} {ops : Array Oper} {n i mem b : Nat} {fl : FL} {K : FL → Heap → Prop} {l : List Oper} {bs : List Nat} {segs : List (Nat × Nat × Nat)} {tail : Bool}
  {d : Tmp} {ty : TypeId} {pos : String} {after : Array Edge} {op : Op} {v : Value} {S S' S0 : List Nat} {ms : List Nat} {Q : Ex → Fr → Heap → Prop} {c : Code}
def BoxR (h : Heap) (lo : Nat) (p : Value) (cs : List Value) : Prop := ∃ b e, p = .pointer (some ⟨b, 0, none⟩) ∧ lo ≤ b ∧ h.get b = some (.row e cs true false)
theorem BoxR.ld1 {lo : Nat} {p u : Value} {e : TypeId} {cs : List Value} {k : Nat} {τ : Ty} (hb : BoxR h lo p cs) (hT : ValT P e τ) (ha : τ.agg = false) (hk : cs[k]? = some u) : fsLoad P e (padd p k) h = some u := by
  obtain ⟨b, e', rfl, h2, h3⟩ := hb; obtain ⟨i, hi, hs⟩ := hT.info; obtain ⟨d, hd, hag⟩ := hT.agg; have h4 : h.get b = some (.row e' cs true false) := h3; simp only [fsLoad, padd, h4, hd, hi, hag, ha, Nat.zero_add, hk]; rfl
theorem BoxR.ldA {lo : Nat} {p : Value} {e : TypeId} {cs : List Value} {τ : Ty} (hb : BoxR h lo p cs) (hT : ValT P e τ) (ha : τ.agg = true) (hk : cs.length = τ.size) : fsLoad P e p h = some (.agg cs.toArray) := by
  obtain ⟨b, e', rfl, h2, h3⟩ := hb; obtain ⟨i, hi, hs⟩ := hT.info; obtain ⟨d, hd, hag⟩ := hT.agg; have h4 : h.get b = some (.row e' cs true false) := h3; simp only [fsLoad, h4, hd, hi, hag, ha, hs, if_true]; rw [if_pos (by omega), List.drop_zero, ← hk, List.take_length]
theorem BoxR.fa {lo : Nat} {p : Value} {cs : List Value} {s : TypeId} {f k : Nat} (hp : BoxR h lo p cs) (hb : offB P s f k = true) : runPure P (Instr.fieldAt s p f) = some (padd p k) := by
  obtain ⟨b', e', rfl, h2, h3⟩ := hp; unfold offB at hb; split at hb
  · rename_i fs hfs; split at hb
    · rename_i fd hfd; obtain ⟨h6, h7⟩ := band hb; split at h7
      · rename_i i hi; have h8 := nblt h7; have h9 := nbeq h6; unfold Instr.fieldAt; simp only [runPure_bind, runPure_underlying hfs, Option.bind_some, hfd]; show (runPure P (Instr.sureAddr _)).bind _ = _; simp only [Instr.sureAddr, runPure_pure, Option.bind_some, runPure_bind, fieldPlace, runPure_sizeOf hi]; rw [if_neg (by omega)]; simp only [runPure_pure, Option.bind_some, add_none, h9, padd]
      cases h7
    cases hb
  cases hb
end Go.Fs
namespace Go.Fs
variable {P : Program} {h h' : Heap} {fl : FL} {S : List Nat}
theorem runPure_build {T : TypeId} {parts : Array (Nat × Value)} {fields : Array Field} {places : Array (Nat × Nat)} {z : Value} (hu : P.underlying T = some (.struct fields)) (hz : runPure P (zeroValue T) = some z)
    (hp : runPure P (fields.mapM fun f => do pure (f.offset, ← sizeOf f.type)) = some places) {cs : Array Value} (hf : Instr.fill (places[·]?) z.cells parts.toList = some cs) : runPure P (Instr.build T parts) = some (.agg cs) := by
  unfold Instr.build; rw [runPure_bind, hz]; simp only [Option.bind_some]; rw [runPure_bind, runPure_underlying hu]; simp only [Option.bind_some]; rw [runPure_bind, hp]; simp only [Option.bind_some, hf]; rfl
def stB (P : Program) (T : TypeId) (n : Nat) : Bool :=
  match P.underlying T, runPure P (zeroValue T) with
  | some (.struct fields), some z =>
    match runPure P (fields.mapM fun f => do pure (f.offset, ← sizeOf f.type)) with
    | some places => (places.toList == (List.range n).map fun i => (i, 1)) && Nat.beq z.cells.size n && ((((P.info? T).bind (·.zero)).map fun z => z.cells.toList.all af0) == some true)
    | none => false
  | _, _ => false
end Go.Fs
namespace Go.Fs
variable {P : Program} {orc : FuncId → List Value → Heap → Option (Value × Heap)} {rnd : Option Nat} {h h' h0 h1 h2 hs : Heap} {ops : Array Oper} {n i mem b : Nat} {fl : FL} {K : FL → Heap → Prop} {l : List Oper} {bs : List Nat} {segs : List (Nat × Nat × Nat)} {tail : Bool}
  {d : Tmp} {ty : TypeId} {pos : String} {after : Array Edge} {op : Op} {v : Value} {S S' S0 : List Nat} {ms : List Nat} {Q : Ex → Fr → Heap → Prop} {c : Code}
theorem splice_all {cs us : List Value} (hl : us.length = cs.length) : splice cs 0 us = us := by
  unfold splice; rw [List.take_zero, List.nil_append, Nat.zero_add, hl, List.drop_length, List.append_nil]
theorem elems_set {τ : Ty} {rs us : List Value} {xs : List τ.den} {x : τ.den} {j : Nat} (he : Elems h S τ rs xs) (hj : j < xs.length) (hx : RepC h S τ us x) : Elems h S τ (splice rs (j * τ.size) us) (xs.set j x) := by
  have hul := hx.len; have hrl := he.1; have hjs : (j + 1) * τ.size ≤ xs.length * τ.size := Nat.mul_le_mul_right _ hj; rw [Nat.add_mul, Nat.one_mul] at hjs
  have hl1 : (rs.take (j * τ.size)).length = j * τ.size := by rw [List.length_take]; omega
  refine ⟨?_, fun i hi => ?_⟩
  · unfold splice; rw [List.length_append, List.length_append, hl1, List.length_drop, List.length_set]; omega
  rw [List.length_set] at hi; have hold := he.2 i hi; unfold splice; rw [List.append_assoc]; by_cases h1 : i < j
  · have h2 : (i + 1) * τ.size ≤ j * τ.size := Nat.mul_le_mul_right _ h1; rw [Nat.add_mul, Nat.one_mul] at h2; rw [List.getElem_set_ne (by omega), List.drop_append_of_le_length (by omega), List.take_append_of_le_length (by rw [List.length_drop]; omega), List.drop_take, List.take_take, Nat.min_eq_left (by omega)]; exact hold
  by_cases h2 : i = j
  · subst h2
    have e1 : (rs.take (i * τ.size) ++ (us ++ rs.drop (i * τ.size + us.length))).drop (i * τ.size) = us ++ rs.drop (i * τ.size + us.length) := by
      have := List.drop_left' (l₂ := us ++ rs.drop (i * τ.size + us.length)) hl1; exact this
    rw [e1, List.getElem_set_self, List.take_left' hul]; exact hx
  have h3 : (j + 1) * τ.size ≤ i * τ.size := Nat.mul_le_mul_right _ (by omega); rw [Nat.add_mul, Nat.one_mul] at h3
  have e1 : (rs.take (j * τ.size) ++ (us ++ rs.drop (j * τ.size + us.length))).drop (i * τ.size) = rs.drop (i * τ.size) := by
    rw [List.drop_append, List.drop_eq_nil_of_le (by omega), List.nil_append, hl1, List.drop_append, List.drop_eq_nil_of_le (by omega), List.nil_append, List.drop_drop]; congr 1; omega
  rw [e1, List.getElem_set_ne (by omega)]; exact hold
theorem GrowR.own {lo : Nat} {e : TypeId} {m : Bool} {τ : Ty} {v : Value} {xs : List τ.den} (hg : GrowR h S lo e m τ v xs) (h0 : 0 < xs.length) : ∃ b rs, b ∈ S ∧ lo ≤ b ∧ v = .slice (some ⟨b, 0, none⟩) xs.length 0 ∧ h.get b = some (.row e rs true m) ∧ Elems h S τ rs xs := by
  rcases hg with ⟨rfl, rfl⟩ | hg
  · simp at h0
  exact hg
theorem GrowR.ix {lo : Nat} {T e : TypeId} {m : Bool} {τ : Ty} {v : Value} {xs : List τ.den} (hg : GrowR h S lo e m τ v xs) (hT : ElT P T e τ) {j : Nat} (hj : j < xs.length) : runPure P (Instr.indexAt T v (.int .i64 (j : Nat))) = some (ptrAt v τ.size j) := by
  obtain ⟨b, rs, _, _, rfl, _, _⟩ := hg.own (by omega); obtain ⟨i, z, hinf, hsz, _⟩ := hT.sl.info; unfold Instr.indexAt
  have h6 : (0 : Int) ≤ (j : Int) ∧ (j : Int) < (xs.length : Nat) := by omega
  simp only [runPure_bind, asIntOf, runPure_pure, Option.bind_some, runPure_underlying hT.sl.sl, if_pos h6, runPure_sizeOf hinf, hsz, add_none, Int.toNat_natCast, ptrAt]
theorem GrowR.ld {lo : Nat} {e : TypeId} {m : Bool} {τ : Ty} {v : Value} {xs : List τ.den} (hg : GrowR h S lo e m τ v xs) (hT : ValT P e τ) {j : Nat} (hj : j < xs.length) : fsLoad P e (ptrAt v τ.size j) h = some (valAt h τ (ptrAt v τ.size j)) ∧ RepV h S τ (valAt h τ (ptrAt v τ.size j)) xs[j] := by
  obtain ⟨b, rs, _, _, rfl, h4, h5⟩ := hg.own (by omega); have hjs : (j + 1) * τ.size ≤ xs.length * τ.size := Nat.mul_le_mul_right _ hj; rw [Nat.add_mul, Nat.one_mul] at hjs; have hrl := h5.1; obtain ⟨i, hi, hs⟩ := hT.info; obtain ⟨d, hd, ha⟩ := hT.agg; have hx := h5.2 j hj; simp only [fsLoad, valAt, ptrAt, h4, hd, hi, ha, hs, Nat.zero_add]
  cases hb : τ.agg with
  | true =>
    simp only [if_true, show j * τ.size + τ.size ≤ rs.length by omega]
    exact ⟨trivial, by simpa [isAggV] using hb.symm, by simpa [Value.cells] using hx⟩
  | false =>
    have h1 := Ty.size_one hb; rw [h1] at hx hjs hrl ⊢
    have ho : j * 1 < rs.length := by omega
    rw [take_one ho] at hx; obtain ⟨u, hu, hv⟩ := hx.one hb; simp only [List.cons.injEq, and_true] at hu; simp only [Bool.false_eq_true, if_false, List.getD_eq_getElem?_getD, List.getElem?_eq_getElem ho, Option.getD_some]; exact ⟨trivial, by rw [hu]; exact hv⟩
theorem SlV.cut {T e : TypeId} {τ : Ty} (hT : ElT P T e τ) {v : Value} {xs : List τ.den} (hv : SlV h S τ v xs) {a b : Int} (h0 : 0 ≤ a ∧ a ≤ b ∧ b ≤ (xs.length : Nat)) :
    ∃ w, (∀ nn ll, fsSlice P T v (some (.int .i64 a)) (some (.int .i64 b)) none { next := nn, low := ll, objs := h.objs } = some w) ∧ SlV h S τ w ((xs.take b.toNat).drop a.toNat) := by
  obtain ⟨i, z, hinf, hsz, _⟩ := hT.sl.info; obtain ⟨a', rfl⟩ := Int.eq_ofNat_of_zero_le h0.1; obtain ⟨b', rfl⟩ := Int.eq_ofNat_of_zero_le (show 0 ≤ b by omega)
  have hb : b' ≤ xs.length := by omega
  have hab : a' ≤ b' := by omega
  simp only [Int.toNat_natCast]; rcases hv with ⟨rfl, rfl⟩ | ⟨bl, o, mk, rfl, h2⟩
  · have : a' = 0 ∧ b' = 0 := by simp at hb; omega
    obtain ⟨rfl, rfl⟩ := this; refine ⟨.slice none 0 0, fun nn ll => ?_, .inl ⟨rfl, rfl⟩⟩; simp [fsSlice, hT.sl.sl, boundOf, hinf]
  have e1 : Nat.ble a' b' = true := by rw [Nat.ble_eq]; exact hab
  have e2 : Nat.ble b' xs.length = true := by rw [Nat.ble_eq]; exact hb
  have hl : ((xs.take b').drop a').length = b' - a' := by simp; omega
  by_cases hab' : a' < b' ∨ a' = 0
  · refine ⟨.slice (some ⟨bl, o + a' * τ.size, none⟩) (b' - a') (bif Nat.beq mk 1 then (bif Nat.beq b' xs.length then 1 else 2) else markOf e bl a' mk h), fun nn ll => ?_, ?_⟩
    · have hmk : markOf e bl a' mk { next := nn, low := ll, objs := h.objs } = markOf e bl a' mk h := rfl
      have hcut : (Nat.blt a' b' || Nat.beq a' 0) = true := by
        rcases hab' with h3 | rfl
        · have : Nat.blt a' b' = true := by show Nat.ble (a' + 1) b' = true; rw [Nat.ble_eq]; exact h3
          rw [this]; rfl
        simp
      simp only [fsSlice, hT.sl.sl, hinf, boundOf, Int.natCast_nonneg, if_true, Int.toNat_natCast, e1, e2, Bool.and_self, cond_true, cutAt, hcut, hsz, hmk]
    refine .inr ⟨bl, o + a' * τ.size, _, by rw [hl], ?_⟩; by_cases hz : a' = b'
    · left; exact List.eq_nil_of_length_eq_zero (by omega)
    right; rcases h2 with rfl | ⟨h2, e', rs, own, more, h3, h4, h5⟩
    · simp at hb; omega
    have hbs : b' * τ.size ≤ xs.length * τ.size := Nat.mul_le_mul_right _ hb
    have habs : a' * τ.size + (b' - a') * τ.size = b' * τ.size := by rw [← Nat.add_mul]; congr 1; omega
    refine ⟨h2, e', rs, own, more, h3, by rw [hl]; omega, fun i hi => ?_⟩; rw [hl] at hi; have := h5 (a' + i) (by omega); rw [List.getElem_drop, List.getElem_take]
    rwa [Nat.add_mul, ← Nat.add_assoc] at this
  have hab2 : a' = b' := by omega
  subst hab2; refine ⟨.slice (some ⟨0, 0, none⟩) 0 2, fun nn ll => ?_, .inr ⟨0, 0, 2, by rw [hl]; simp, .inl (List.eq_nil_of_length_eq_zero (by omega))⟩⟩
  have hcut : (Nat.blt a' a' || Nat.beq a' 0) = false := by
    rw [blt_refl', beq_no (by omega)]; rfl
  simp only [fsSlice, hT.sl.sl, hinf, boundOf, Int.natCast_nonneg, if_true, Int.toNat_natCast, e1, e2, Bool.and_self, cond_true, cutAt, hcut, cond_false]
end Go.Fs
namespace Go.Fs
variable {P : Program} {fl : FL}
theorem runPure_program : runPure P program = some P := rfl
end Go.Fs
namespace Go.Fs
variable {P : Program} {orc : FuncId → List Value → Heap → Option (Value × Heap)} {h h' h0 : Heap} {fl : FL} {op : Op} {v : Value} {S S' S0 : List Nat} {ops : Array Oper} {n : Nat} {K : FL → Heap → Prop} {l : List Oper} {d : Tmp} {ty : TypeId} {pos : String} {after : Array Edge}
theorem apart {p q : List Nat} {m : Nat} (hp : ∀ b ∈ p, m ≤ b) (hq : ∀ b ∈ q, b < m) : ∀ b ∈ p, b ∉ q := fun b h1 h2 => by
  have := hp b h1; have := hq b h2; omega
theorem af0_one {cs : List Value} (hc : cs.all af0 = true) : cs.all oneCell = true := by
  rw [List.all_eq_true] at hc ⊢; intro x hx; have := hc x hx; cases x <;> first | rfl | simp_all [af0, oneCell]
end Go.Fs
namespace Go.Fs
variable {P : Program} {orc : FuncId → List Value → Heap → Option (Value × Heap)} {h h' h0 : Heap} {fl : FL} {op : Op} {v : Value} {S S' S0 : List Nat} {ops : Array Oper} {n i mem : Nat} {K : FL → Heap → Prop} {l : List Oper} {d : Tmp} {ty : TypeId} {pos : String} {after : Array Edge} {bs : List Nat} {segs : List (Nat × Nat × Nat)} {tail : Bool}
theorem wrapU64 {n : Int} (h : 0 ≤ n ∧ n < 18446744073709551616) : IntKind.u64.wrap n = n := by
  unfold IntKind.wrap; simp only [IntKind.bits, IntKind.signed, Bool.false_and]
  have e : (2 ^ 64 : Int) = 18446744073709551616 := by decide
  simp only [e]; have := Int.emod_eq_of_lt h.1 h.2; simp [this]
end Go.Fs
namespace Go.Fs
def Ty.isFlat : Ty → Bool
  | .sl _ => false
  | .mp _ _ => false
  | .fn => false
  | .hnd => false
  | .pair a b => a.isFlat && b.isFlat
  | _ => true
def Ty.flatC : (τ : Ty) → τ.den → List Value
  | .int k, n => [.int k n]
  | .bool, b => [.bool b]
  | .str, s => [.string s]
  | .flt k, b => [.float k b]
  | .unit, _ => []
  | .sl _, _ => []
  | .mp _ _, _ => []
  | .fn, _ => []
  | .hnd, _ => []
  | .pair a b, x => a.flatC x.1 ++ b.flatC x.2
theorem flat_cells {h : Heap} {S : List Nat} : ∀ {τ : Ty} {cs : List Value} {x : τ.den}, RepC h S τ cs x → τ.isFlat = true → cs = τ.flatC x := by
  intro τ
  induction τ with
  | int k => intro cs x hx _; exact hx
  | bool => intro cs x hx _; exact hx
  | str => intro cs x hx _; exact hx
  | flt k => intro cs x hx _; exact hx
  | unit => intro cs x hx _; exact hx
  | sl e ih => intro cs x _ hf; cases hf
  | fn => intro cs x _ hf; cases hf
  | hnd => intro cs x _ hf; cases hf
  | mp a b _ _ => intro cs x _ hf; cases hf
  | pair a b iha ihb =>
    intro cs x hx hf
    have h1 : a.isFlat = true ∧ b.isFlat = true := by simpa [Ty.isFlat] using hf
    have e1 := iha hx.1 h1.1; have e2 := ihb hx.2 h1.2; show cs = a.flatC x.1 ++ b.flatC x.2; rw [← e1, ← e2, List.take_append_drop]
end Go.Fs
namespace Go.Fs
structure GVar where
  n : Nat
  e : TypeId
  τ : Ty
  x : τ.den
def gTab : List GVar := []
end Go.Fs
namespace Go.Fs
variable {h h' : Heap} {S S' : List Nat}
def GT (h : Heap) (S : List Nat) : Prop := ∀ v ∈ gTab, ∃ vs, h.get (v.n + 1) = some (.row v.e vs false true) ∧ v.n + 1 ∉ S ∧ vs.length = v.τ.size ∧ ∀ h' S', RepC h' S' v.τ vs v.x
theorem GT.nx (hs : GT h S) (hN : Goes h S h' S') : GT h' S' := fun v hv => by
  obtain ⟨vs, h1, h2, h3, h4⟩ := hs v hv; obtain ⟨h5, h6⟩ := hN _ _ h1 h2; exact ⟨vs, h5, h6, h3, h4⟩
def HOkG (h : Heap) : Prop := HOk h ∧ GT h []
end Go.Fs
namespace Go.Fs
variable {P : Program} {h h' h0 h1 h2 : Heap} {S S' S0 B G : List Nat}
inductive PV where
  | v (τ : Ty) (x : τ.den)
  | p (τ : Ty) (x : τ.den)
  | raw (u : Value)
  | clo (f : FuncId) (a c : List PV)
  | tup (l : List PV)
  | gd (b : Bool) (v : PV)
  | agg (l : List PV)
mutual
def RepPV (h : Heap) (S : List Nat) : PV → Value → Prop
  | .v τ x, u => RepV h S τ u x
  | .p τ x, u => RepP h S τ u x
  | .raw w, u => u = w
  | .clo f a c, u => ∃ va vc : List Value, u = .func (.func f) va.toArray vc.toArray ∧ RepL h S a va ∧ RepL h S c vc
  | .tup l, u => ∃ vs : List Value, u = .tuple vs.toArray ∧ RepL h S l vs
  | .gd b v, u => (b = true → RepPV h S v u) ∧ (b = false → u = undef)
  | .agg l, u => ∃ vs : List Value, u = .agg vs.toArray ∧ RepL h S l vs
def RepL (h : Heap) (S : List Nat) : List PV → List Value → Prop
  | [], us => us = []
  | p :: ps, us => ∃ u r, us = u :: r ∧ RepPV h S p u ∧ RepL h S ps r
end
def GoesR (h : Heap) (S : List Nat) (h' : Heap) (S' : List Nat) : Prop := ∀ b o, h.get b = some o → o ≠ .defd → b ∉ S → h'.get b = some o ∧ b ∉ S'
theorem Goes.r (hN : Goes h S h' S') : GoesR h S h' S' := fun b _ hg _ hb => hN b _ hg hb
theorem RepC.nxR (hN : GoesR h S h' S') : ∀ {τ : Ty} {cs : List Value} {x : τ.den}, RepC h S τ cs x → RepC h' S' τ cs x := by
  intro τ
  induction τ with
  | int k => exact fun hx => hx
  | bool => exact fun hx => hx
  | str => exact fun hx => hx
  | flt k => exact fun hx => hx
  | unit => exact fun hx => hx
  | pair a b iha ihb => exact fun hx => ⟨iha hx.1, ihb hx.2⟩
  | sl e ih =>
    rintro cs x ⟨v, h1, h2⟩; refine ⟨v, h1, ?_⟩; rcases h2 with h2 | ⟨b, o, mk, h2, h3⟩
    · exact .inl h2
    refine .inr ⟨b, o, mk, h2, ?_⟩; rcases h3 with h3 | ⟨h3, e', rs, own, more, h4, h5, h6⟩
    · exact .inl h3
    obtain ⟨h7, h8⟩ := hN b _ h4 (by simp) h3
    exact .inr ⟨h8, e', rs, own, more, h7, h5, fun i hi => ih (h6 i hi)⟩
  | fn => exact fun hx => hx
  | hnd => exact fun hx => hx
  | mp a b iha ihb =>
    rintro cs x ⟨v, h1, h2⟩; refine ⟨v, h1, ?_⟩; rcases h2 with h2 | ⟨b, es, c, h2, h3, h4, h5, h6⟩
    · exact .inl h2
    obtain ⟨h7, h8⟩ := hN b _ h4 (by simp) h3; exact .inr ⟨b, es, c, h2, h8, h7, h5, fun i hi hj => ⟨⟨(h6 i hi hj).1.1, iha (h6 i hi hj).1.2⟩, ⟨(h6 i hi hj).2.1, ihb (h6 i hi hj).2.2⟩⟩⟩
theorem RepP.nxR (hN : GoesR h S h' S') {τ : Ty} {p : Value} {x : τ.den} (hp : RepP h S τ p x) : RepP h' S' τ p x := by
  obtain ⟨b, o, e, rs, own, more, h1, h2, h3, h4, h5⟩ := hp; obtain ⟨h6, h7⟩ := hN b _ h3 (by simp) h2; exact ⟨b, o, e, rs, own, more, h1, h7, h6, h4, h5.nxR hN⟩
mutual
theorem RepPV.nxR (hN : GoesR h S h' S') : ∀ {pv : PV} {u : Value}, RepPV h S pv u → RepPV h' S' pv u
  | .v τ x, u, hx => ⟨hx.1, RepC.nxR hN hx.2⟩
  | .p τ x, u, hx => RepP.nxR hN hx
  | .raw w, u, hx => hx
  | .clo f a c, u, ⟨va, vc, h1, h2, h3⟩ => ⟨va, vc, h1, RepL.nxR hN h2, RepL.nxR hN h3⟩
  | .tup l, u, ⟨vs, h1, h2⟩ => ⟨vs, h1, RepL.nxR hN h2⟩
  | .gd b v, u, ⟨h1, h2⟩ => ⟨fun e => RepPV.nxR hN (h1 e), h2⟩
  | .agg l, u, ⟨vs, h1, h2⟩ => ⟨vs, h1, RepL.nxR hN h2⟩
theorem RepL.nxR (hN : GoesR h S h' S') : ∀ {l : List PV} {us : List Value}, RepL h S l us → RepL h' S' l us
  | [], us, hx => hx
  | p :: ps, us, ⟨u, r, h1, h2, h3⟩ => ⟨u, r, h1, RepPV.nxR hN h2, RepL.nxR hN h3⟩
end
theorem RepPV.nx (hN : Goes h S h' S') {pv : PV} {u : Value} (hx : RepPV h S pv u) : RepPV h' S' pv u := hx.nxR hN.r
theorem RepL.nx (hN : Goes h S h' S') {l : List PV} {us : List Value} (hx : RepL h S l us) : RepL h' S' l us := hx.nxR hN.r
theorem RepL.len : ∀ {l : List PV} {us : List Value}, RepL h S l us → us.length = l.length
  | [], us, hx => by rw [show us = [] from hx]; rfl
  | p :: ps, us, ⟨u, r, h1, _, h3⟩ => by rw [h1, List.length_cons, List.length_cons, RepL.len h3]
theorem RepL.append : ∀ {l l' : List PV} {us us' : List Value}, RepL h S l us → RepL h S l' us' → RepL h S (l ++ l') (us ++ us')
  | [], l', us, us', hx, hy => by rw [show us = [] from hx]; exact hy
  | p :: ps, l', us, us', ⟨u, r, h1, h2, h3⟩, hy => ⟨u, r ++ us', by rw [h1]; rfl, h2, RepL.append h3 hy⟩
def PV.flat0 : PV → Bool
  | .v τ _ => τ.isFlat
  | .raw u => af1 u
  | _ => false
def PV.flat : PV → Bool
  | .tup l => l.all PV.flat0
  | q => q.flat0
theorem flatC_af : ∀ (τ : Ty) (x : τ.den), (τ.flatC x).all af0 = true
  | .int _, _ => rfl
  | .bool, _ => rfl
  | .str, _ => rfl
  | .flt _, _ => rfl
  | .unit, _ => rfl
  | .sl _, _ => rfl
  | .mp _ _, _ => rfl
  | .fn, _ => rfl
  | .hnd, _ => rfl
  | .pair a b, x => by
    show (a.flatC x.1 ++ b.flatC x.2).all af0 = true; rw [List.all_append, flatC_af a, flatC_af b]; rfl
theorem repV_af1 {τ : Ty} {u : Value} {x : τ.den} (hf : τ.isFlat = true) (hx : RepV h S τ u x) : af1 u = true := by
  have hc := flat_cells hx.2 hf
  cases ha : isAggV u with
  | true =>
    cases u with
    | agg cs =>
      show cs.toList.all af0 = true; have : cs.toList = τ.flatC x := hc
      rw [this]; exact flatC_af τ x
    | _ => cases ha
  | false =>
    rw [cells_one ha] at hc; have h1 := flatC_af τ x; rw [← hc] at h1
    have h2 : af0 u = true := by simpa using h1
    cases u with
    | agg cs => cases ha
    | _ => exact h2
theorem RepPV.flat0 : ∀ {pv : PV} {u : Value}, pv.flat0 = true → RepPV h S pv u → af1 u = true ∧ ∀ h' S', RepPV h' S' pv u
  | .v τ x, u, hf, hx => ⟨repV_af1 hf hx, fun h' S' => RepV.anyHeap (τ := τ) hx (repV_af1 hf hx)⟩
  | .raw w, u, hf, hx => ⟨by rw [show u = w from hx]; exact hf, fun _ _ => hx⟩
  | .p _ _, _, hf, _ => by cases hf
  | .clo _ _ _, _, hf, _ => by cases hf
  | .tup _, _, hf, _ => by cases hf
  | .gd _ _, _, hf, _ => by cases hf
theorem RepL.flat0 : ∀ {l : List PV} {us : List Value}, l.all PV.flat0 = true → RepL h S l us → us.all af1 = true ∧ ∀ h' S', RepL h' S' l us
  | [], us, _, hx => ⟨by rw [show us = [] from hx]; rfl, fun _ _ => hx⟩
  | p :: ps, us, hf, ⟨u, r, h1, h2, h3⟩ => by
    rw [List.all_cons] at hf; obtain ⟨f1, f2⟩ := band hf; obtain ⟨a1, a2⟩ := h2.flat0 f1; obtain ⟨b1, b2⟩ := RepL.flat0 f2 h3; exact ⟨by rw [h1, List.all_cons, a1, b1]; rfl, fun h' S' => ⟨u, r, h1, a2 h' S', b2 h' S'⟩⟩
theorem af_of_af1 {u : Value} (hu : af1 u = true) : af u = true := by
  cases u with
  | tuple vs => cases hu
  | _ => exact hu
theorem RepPV.flat {pv : PV} {u : Value} (hf : pv.flat = true) (hx : RepPV h S pv u) : af u = true ∧ ∀ h' S', RepPV h' S' pv u := by
  cases pv with
  | tup l =>
    obtain ⟨vs, h1, h2⟩ := hx; obtain ⟨a1, a2⟩ := RepL.flat0 (l := l) hf h2; refine ⟨?_, fun h' S' => ⟨vs, h1, a2 h' S'⟩⟩; rw [h1]; show vs.toArray.toList.all af1 = true
    exact a1
  | v τ x => obtain ⟨a1, a2⟩ := RepPV.flat0 (pv := .v τ x) hf hx; exact ⟨af_of_af1 a1, a2⟩
  | p τ x => cases hf
  | raw w => obtain ⟨a1, a2⟩ := RepPV.flat0 (pv := .raw w) hf hx; exact ⟨af_of_af1 a1, a2⟩
  | clo f a c => cases hf
  | gd b v => cases hf
  | agg l => cases hf
structure Aft (h h' : Heap) (B : List Nat) : Prop where
  next : h.next ≤ h'.next
  get : ∀ b, b < h.next → b ∉ B → h'.get b = h.get b
  ok : HOk h → HOk h'
  low : ∀ e, e ≤ h.low → e ≤ h.next → (∀ b ∈ B, e ≤ b) → e ≤ h'.low
  chg : ∀ b, b < h.next → h'.get b = h.get b ∨ h'.low ≤ b
  lowle : h'.low ≤ h.low
theorem Aft.refl (h : Heap) (B : List Nat) : Aft h h B := ⟨Nat.le_refl _, fun _ _ _ => rfl, fun x => x, fun _ x _ _ => x, fun _ _ => .inl rfl, Nat.le_refl _⟩
theorem Aft.trans {B' : List Nat} (a : Aft h h1 B) (b : Aft h1 h2 B') (hB : ∀ i ∈ B', i ∈ B ∨ h.next ≤ i) : Aft h h2 B where
  next := Nat.le_trans a.next b.next
  get := fun i hi hn => by
    have := a.next; rw [b.get i (by omega) (fun hm => by rcases hB i hm with h3 | h3; exact hn h3; omega), a.get i hi hn]
  ok := fun x => b.ok (a.ok x)
  low := fun e h3 h4 h5 => b.low e (a.low e h3 h4 h5) (Nat.le_trans h4 a.next) fun i hi => by
    rcases hB i hi with h6 | h6
    · exact h5 i h6
    omega
  chg := fun i hi => by
    have := a.next; have := b.lowle; rcases b.chg i (by omega) with h3 | h3
    · rcases a.chg i hi with h4 | h4
      · exact .inl (h3.trans h4)
      exact .inr (by omega)
    exact .inr h3
  lowle := Nat.le_trans b.lowle a.lowle
theorem Aft.weak {B' : List Nat} (a : Aft h h1 B) (hB : ∀ i ∈ B, i ∈ B') : Aft h h1 B' where
  next := a.next
  get := fun i hi hn => a.get i hi fun hm => hn (hB i hm)
  ok := a.ok
  low := fun e h3 h4 h5 => a.low e h3 h4 fun i hi => h5 i (hB i hi)
  chg := a.chg
  lowle := a.lowle
theorem Aft.after (a : Aft h h1 []) : After h h1 := ⟨a.next, fun b hb => a.get b hb (by simp), a.ok, fun e h3 h4 => a.low e h3 h4 (by simp)⟩
theorem Aft.push (h : Heap) (o : AObj) (B : List Nat) : Aft h (h.push o) B where
  next := Nat.le_succ _
  get := fun b hb _ => by rw [Heap.get_push, if_neg (by omega)]
  ok := (After.push h o).ok
  low := fun e h3 _ _ => h3
  chg := fun b hb => .inl (by rw [Heap.get_push, if_neg (by omega)])
  lowle := Nat.le_refl _
theorem Aft.set {b : Nat} {o o' : AObj} (hg : h.get b = some o) (hb : b ∈ B) : Aft h (h.set b o') B where
  next := Nat.le_refl _
  get := fun i _ hi => by rw [Heap.get_set hg, if_neg (fun e => hi (by subst e; exact hb))]
  ok := fun x i oi hi => by
    rw [Heap.get_set hg] at hi; split at hi
    · rename_i e; rw [e]; exact x b o hg
    exact x i oi hi
  low := fun e h3 _ h5 => Nat.le_min.2 ⟨h3, h5 b hb⟩
  chg := fun i hi => by
    by_cases e : i = b
    · exact .inr (by subst e; exact Nat.min_le_right _ _)
    exact .inl (by rw [Heap.get_set hg, if_neg e])
  lowle := Nat.min_le_left _ _
theorem Aft.drop {b : Nat} (hb : b ∈ B) : Aft h (h.drop b) B where
  next := Nat.le_refl _
  get := fun i _ hi => by rw [Heap.get_drop, if_neg (fun e => hi (by subst e; exact hb))]
  ok := fun x i oi hi => by
    rw [Heap.get_drop] at hi; split at hi
    · cases hi
    exact x i oi hi
  low := fun e h3 _ h5 => Nat.le_min.2 ⟨h3, h5 b hb⟩
  chg := fun i hi => by
    by_cases e : i = b
    · exact .inr (by subst e; exact Nat.min_le_right _ _)
    exact .inl (by rw [Heap.get_drop, if_neg e])
  lowle := Nat.min_le_left _ _
theorem Aft.goes (a : Aft h h' B) (hok : HOk h) (hB : ∀ b ∈ B, b ∈ S) (hS : ∀ b ∈ S', b ∈ S ∨ h.next ≤ b) : Goes h S h' S' := fun b o hg hb => by
  have hlt := hok b o hg; refine ⟨by rw [a.get b hlt (fun hm => hb (hB b hm))]; exact hg, fun hm => ?_⟩; rcases hS b hm with h3 | h3
  · exact hb h3
  omega
inductive Cell where
  | row (e : TypeId) (τ : Ty) (xs : List τ.den)
  | var (cs : List PV)
  | cap (e : TypeId) (n : Nat) (τ : Ty) (xs : List τ.den)
  | mp (κ ν : Ty) (kvs : List (κ.den × ν.den))
  | it (s : ByteArray) (pos : Nat)
  | loop (st : LoopState) (jump : Option Code) (n : Nat) (fl : List (Nat × PV)) (ps : Array Tmp) (assign body : Code)
  | cel (e : TypeId) (n : Nat) (cs : List PV)
abbrev Sto := List (Value × Cell)
def blk : Value → List Nat
  | .slice (some a) _ _ => [a.block]
  | .pointer (some a) => [a.block]
  | .map (some b) => [b]
  | .func (.yield l) _ _ => [l]
  | _ => []
abbrev VL := List (Nat × PV)
def lkV : VL → Nat → Option PV
  | [], _ => none
  | (k, v) :: r, i => bif Nat.beq k i then some v else lkV r i
theorem GT.nxR (hs : GT h S) (hN : GoesR h S h' S') : GT h' S' := fun v hv => by
  obtain ⟨vs, h1, h2, h3, h4⟩ := hs v hv; obtain ⟨h5, h6⟩ := hN _ _ h1 (by simp) h2; exact ⟨vs, h5, h6, h3, h4⟩
def SLt (h : Heap) (S : List Nat) : Prop := (∀ b ∈ S, b < h.next) ∧ ∀ v ∈ gTab, v.n + 1 < h.next
instance : CoeFun (SLt h S) fun _ => ∀ b, b ∈ S → b < h.next := ⟨fun hs => hs.1⟩
theorem GT.slt (hs : GT h S) (hok : HOk h) (h0 : ∀ b ∈ S0, b < h.next) : SLt h S0 := ⟨h0, fun v hv => by
  obtain ⟨vs, h1, _⟩ := hs v hv
  exact hok _ _ h1⟩
theorem GT.seen {hs M : Heap} (hG : GT h S) (a1 : After hs h) (a2 : After hs M) (hl : SLt hs S0) : GT M S := fun v hv => by
  obtain ⟨vs, h1, h2, h3, h4⟩ := hG v hv; have hb := hl.2 v hv; exact ⟨vs, by rw [a2.get _ hb, ← a1.get _ hb]; exact h1, h2, h3, h4⟩
def SOk (h : Heap) (S : List Nat) : Prop := (∀ b ∈ S, b < h.next) ∧ GT h S
def Slots (h : Heap) (S : List Nat) (t : Tr) (fl : VL) : Prop := GT h S ∧ ∀ k v, lkV fl k = some v → RepPV h S v (t.get k)
theorem Slots.nx {t : Tr} {fl : VL} (hs : Slots h S t fl) (hN : Goes h S h' S') : Slots h' S' t fl := ⟨hs.1.nx hN, fun k v hk => (hs.2 k v hk).nx hN⟩
theorem Slots.nxR {t : Tr} {fl : VL} (hs : Slots h S t fl) (hN : GoesR h S h' S') : Slots h' S' t fl := ⟨hs.1.nxR hN, fun k v hk => (hs.2 k v hk).nxR hN⟩
instance {t : Tr} {fl : VL} : CoeFun (Slots h S t fl) fun _ => ∀ k v, lkV fl k = some v → RepPV h S v (t.get k) := ⟨fun hs => hs.2⟩
instance : CoeFun (SOk h S) fun _ => ∀ b, b ∈ S → b < h.next := ⟨fun hs => hs.1⟩
def own (σ : Sto) : List Nat := σ.flatMap fun c => blk c.1
def CellR (h : Heap) (S : List Nat) (w : Value) : Cell → Prop
  | .row e τ xs => (w = .slice none 0 0 ∧ xs = []) ∨ ∃ b rs m, w = .slice (some ⟨b, 0, none⟩) xs.length 0 ∧ b ∈ S ∧ h.get b = some (.row e rs true m) ∧ Elems h S τ rs xs
  | .var cs => ∃ b e vs, w = .pointer (some ⟨b, 0, none⟩) ∧ b ∈ S ∧ h.get b = some (.row e vs true false) ∧ RepL h S cs vs ∧ vs.all oneCell = true
  | .cap e n τ xs => ∃ b rs m, w = .slice (some ⟨b, 0, none⟩) xs.length 0 ∧ b ∈ S ∧ h.get b = some (.row e rs true m) ∧ rs.length = n * τ.size ∧ xs.length ≤ n ∧ Elems h S τ (rs.take (xs.length * τ.size)) xs
  | .mp κ ν kvs => ∃ b es clock, w = .map (some b) ∧ b ∈ S ∧ h.get b = some (.mapo es clock) ∧ es.length = kvs.length ∧ ∀ i (hi : i < kvs.length) (hj : i < es.length), RepV h S κ es[i].key kvs[i].1 ∧ RepV h S ν es[i].val kvs[i].2
  | .it s pos => ∃ b, w = .pointer (some ⟨b, 0, none⟩) ∧ b ∈ S ∧ h.get b = some (.iter s pos)
  | .loop st jump n fl ps assign body => ∃ l tmps d, w = .func (.yield l) #[] #[] ∧ l ∈ S ∧ h.get l = some (.loopo st jump tmps n ps assign body d) ∧ Slots h S tmps fl
  | .cel e n cs => (w = .slice none 0 0 ∧ n = 0 ∧ cs = []) ∨ ∃ b rs m, w = .slice (some ⟨b, 0, none⟩) n 0 ∧ b ∈ S ∧ h.get b = some (.row e rs true m) ∧ RepL h S cs rs ∧ rs.all oneCell = true ∧ (n = 0 → m = false)
theorem CellR.keep {w : Value} : ∀ {c : Cell}, CellR h S w c → (∀ b ∈ blk w, h'.get b = h.get b) → Goes h S h' S' → (∀ b ∈ blk w, b ∈ S') → CellR h' S' w c
  | .row e τ xs, hc, hg, hN, hs => by
    rcases hc with hc | ⟨b, rs, m, rfl, h2, h3, h4⟩
    · exact .inl hc
    exact .inr ⟨b, rs, m, rfl, hs b (by simp [blk]), by rw [hg b (by simp [blk])]; exact h3, h4.nx hN⟩
  | .var cs, ⟨b, e, vs, h1, h2, h3, h4, h5⟩, hg, hN, hs => by
    subst h1
    exact ⟨b, e, vs, rfl, hs b (by simp [blk]), by rw [hg b (by simp [blk])]; exact h3, h4.nx hN, h5⟩
  | .cap e n τ xs, ⟨b, rs, m, h1, h2, h3, h4, h5, h6⟩, hg, hN, hs => by
    subst h1
    exact ⟨b, rs, m, rfl, hs b (by simp [blk]), by rw [hg b (by simp [blk])]; exact h3, h4, h5, h6.nx hN⟩
  | .mp κ ν kvs, ⟨b, es, c, h1, h2, h3, h4, h5⟩, hg, hN, hs => by
    subst h1
    exact ⟨b, es, c, rfl, hs b (by simp [blk]), by rw [hg b (by simp [blk])]; exact h3, h4, fun i hi hj => ⟨(h5 i hi hj).1.nx hN, (h5 i hi hj).2.nx hN⟩⟩
  | .it s pos, ⟨b, h1, h2, h3⟩, hg, hN, hs => by
    subst h1
    exact ⟨b, rfl, hs b (by simp [blk]), by rw [hg b (by simp [blk])]; exact h3⟩
  | .loop st jump n fl ps assign body, ⟨l, tmps, d, h1, h2, h3, h4⟩, hg, hN, hs => by
    subst h1
    exact ⟨l, tmps, d, rfl, hs l (by simp [blk]), by rw [hg l (by simp [blk])]; exact h3, h4.nx hN⟩
  | .cel e n cs, hc, hg, hN, hs => by
    rcases hc with hc | ⟨b, rs, m, rfl, h2, h3, h4, h5⟩
    · exact .inl hc
    exact .inr ⟨b, rs, m, rfl, hs b (by simp [blk]), by rw [hg b (by simp [blk])]; exact h3, h4.nx hN, h5⟩
theorem CellR.isObj {w : Value} : ∀ {c : Cell}, CellR h S w c → ∀ b ∈ blk w, ∃ o, h.get b = some o ∧ o ≠ .defd
  | .row e τ xs, hc, b, hb => by
    rcases hc with ⟨rfl, _⟩ | ⟨b', rs, m, rfl, h2, h3, h4⟩
    · cases hb
    obtain rfl : b = b' := by simpa [blk] using hb
    exact ⟨_, h3, by simp⟩
  | .var cs, ⟨b', e, vs, h1, h2, h3, h4, h5⟩, b, hb => by
    subst h1
    obtain rfl : b = b' := by simpa [blk] using hb
    exact ⟨_, h3, by simp⟩
  | .cap e n τ xs, ⟨b', rs, m, h1, h2, h3, h4, h5, h6⟩, b, hb => by
    subst h1
    obtain rfl : b = b' := by simpa [blk] using hb
    exact ⟨_, h3, by simp⟩
  | .mp κ ν kvs, ⟨b', es, c, h1, h2, h3, h4, h5⟩, b, hb => by
    subst h1
    obtain rfl : b = b' := by simpa [blk] using hb
    exact ⟨_, h3, by simp⟩
  | .it s pos, ⟨b', h1, h2, h3⟩, b, hb => by
    subst h1
    obtain rfl : b = b' := by simpa [blk] using hb
    exact ⟨_, h3, by simp⟩
  | .loop st jump n fl ps assign body, ⟨l, tmps, d, h1, h2, h3, h4⟩, b, hb => by
    subst h1
    obtain rfl : b = l := by simpa [blk] using hb
    exact ⟨_, h3, by simp⟩
  | .cel e n cs, hc, b, hb => by
    rcases hc with ⟨rfl, _⟩ | ⟨b', rs, m, rfl, h2, h3, h4⟩
    · cases hb
    obtain rfl : b = b' := by simpa [blk] using hb
    exact ⟨_, h3, by simp⟩
theorem CellR.notG {w : Value} : ∀ {c : Cell}, CellR h S w c → ∀ b ∈ blk w, ∀ e vs, h.get b ≠ some (.row e vs false true)
  | .row e τ xs, hc, b, hb, e', vs', hg => by
    rcases hc with ⟨rfl, _⟩ | ⟨b', rs, m, rfl, h2, h3, h4⟩
    · cases hb
    obtain rfl : b = b' := by simpa [blk] using hb
    rw [h3] at hg; cases hg
  | .var cs, ⟨b', e, vs, h1, h2, h3, h4, h5⟩, b, hb, e', vs', hg => by
    subst h1
    obtain rfl : b = b' := by simpa [blk] using hb
    rw [h3] at hg; cases hg
  | .cap e n τ xs, ⟨b', rs, m, h1, h2, h3, h4, h5, h6⟩, b, hb, e', vs', hg => by
    subst h1
    obtain rfl : b = b' := by simpa [blk] using hb
    rw [h3] at hg; cases hg
  | .mp κ ν kvs, ⟨b', es, c, h1, h2, h3, h4, h5⟩, b, hb, e', vs', hg => by
    subst h1
    obtain rfl : b = b' := by simpa [blk] using hb
    rw [h3] at hg; cases hg
  | .it s pos, ⟨b', h1, h2, h3⟩, b, hb, e', vs', hg => by
    subst h1
    obtain rfl : b = b' := by simpa [blk] using hb
    rw [h3] at hg; cases hg
  | .loop st jump n fl ps assign body, ⟨l, tmps, d, h1, h2, h3, h4⟩, b, hb, e', vs', hg => by
    subst h1
    obtain rfl : b = l := by simpa [blk] using hb
    rw [h3] at hg; cases hg
  | .cel e n cs, hc, b, hb, e', vs', hg => by
    rcases hc with ⟨rfl, _⟩ | ⟨b', rs, m, rfl, h2, h3, h4⟩
    · cases hb
    obtain rfl : b = b' := by simpa [blk] using hb
    rw [h3] at hg; cases hg
theorem GT.own {γ : Sto} (hs : GT h S) (hc : ∀ c ∈ γ, CellR h S' c.1 c.2) : GT h (Go.Fs.own γ ++ S) := fun v hv => by
  obtain ⟨vs, h1, h2, h3, h4⟩ := hs v hv; refine ⟨vs, h1, fun hb => ?_, h3, h4⟩; rcases List.mem_append.1 hb with hb | hb
  · obtain ⟨c, hcm, hb⟩ := List.mem_flatMap.1 hb; exact (hc c hcm).notG _ hb _ _ h1
  exact h2 hb
theorem GT.ent {γ : Sto} (hs : GT h S) (hc : ∀ c ∈ γ, CellR h S' c.1 c.2) : GT (entry h) (Go.Fs.own γ ++ S) := (hs.own hc).nx (Goes.objs fun _ => rfl)
theorem Slots.set {t : Tr} {fl : VL} (hs : Slots h S t fl) {d : Nat} {v : PV} {u : Value} (hu : RepPV h S v u) (hd : d < 4000) : Slots h S (t.set depth d u) ((d, v) :: fl) := by
  refine ⟨hs.1, ?_⟩; intro k w hk; rw [get_setD t d u k hd]; simp only [lkV] at hk
  cases hb : Nat.beq d k with
  | true => rw [hb] at hk; simp only [cond_true, Option.some.injEq] at hk; subst hk; rw [if_pos (nbeq hb).symm]; exact hu
  | false => rw [hb] at hk; simp only [cond_false] at hk; rw [if_neg (Ne.symm (ne_of_no hb))]; exact hs.2 k w hk
theorem Slots.cons {t : Tr} {fl : VL} (hs : Slots h S t fl) {d : Nat} {v : PV} (hu : RepPV h S v (t.get d)) : Slots h S t ((d, v) :: fl) := by
  refine ⟨hs.1, ?_⟩; intro k w hk; simp only [lkV] at hk
  cases hb : Nat.beq d k with
  | true => rw [hb] at hk; simp only [cond_true, Option.some.injEq] at hk; subst hk; rw [← nbeq hb]; exact hu
  | false => rw [hb] at hk; exact hs.2 k w hk
theorem Slots.sub {t : Tr} {fl : VL} (hs : Slots h S t fl) (fl' : VL) (hf : ∀ p ∈ fl', lkV fl p.1 = some p.2) : Slots h S t fl' := by
  refine ⟨hs.1, ?_⟩; intro k v hk
  have : (k, v) ∈ fl' := by
    clear hf
    induction fl' with
    | nil => cases hk
    | cons p r ih =>
      obtain ⟨i, u⟩ := p; simp only [lkV] at hk
      cases hb : Nat.beq i k with
      | true => rw [hb] at hk; simp only [cond_true, Option.some.injEq] at hk; rw [nbeq hb, hk]; exact List.mem_cons_self
      | false => rw [hb] at hk; exact List.mem_cons_of_mem _ (ih hk)
  exact hs.2 k v (hf _ this)
def constV : Value → Option PV
  | .int k n => some (.v (.int k) n)
  | .bool b => some (.v .bool b)
  | .string s => some (.v .str s)
  | .float k b => some (.v (.flt k) b)
  | c => if af c then some (.raw c) else none
def evV (fl : VL) : Operand → Option PV
  | .tmp i => lkV fl i
  | .const c => constV c
  | .global _ => none
  | .func f => some (.clo f [] [])
theorem constV_ok {c : Value} {v : PV} (hc : constV c = some v) : af c = true ∧ ∀ h S, RepPV h S v c := by
  cases c with
  | int k n => obtain rfl := Option.some.inj hc; exact ⟨rfl, fun _ _ => RepV.ofInt _ _⟩
  | bool b => obtain rfl := Option.some.inj hc; exact ⟨rfl, fun _ _ => RepV.ofBool _⟩
  | string s => obtain rfl := Option.some.inj hc; exact ⟨rfl, fun _ _ => RepV.ofStr _⟩
  | float k b => obtain rfl := Option.some.inj hc; exact ⟨rfl, fun _ _ => RepV.ofFlt _ _⟩
  | _ =>
    simp only [constV] at hc; split at hc
    · rename_i ha; obtain rfl := Option.some.inj hc; exact ⟨ha, fun _ _ => rfl⟩
    cases hc
theorem evV_ok {fl : VL} {t : Tr} (hs : Slots h S t fl) {x : Operand} {v : PV} (hx : evV fl x = some v) : RepPV h S v (evalO t x) := by
  cases x with
  | tmp i => exact hs.2 i v hx
  | const c =>
    obtain ⟨h1, h2⟩ := constV_ok hx; show RepPV h S v (if af c then c else junk)
    rw [if_pos h1]; exact h2 h S
  | global g => cases hx
  | func f => obtain rfl := Option.some.inj hx; exact ⟨[], [], rfl, rfl, rfl⟩
def evVs (fl : VL) : List Operand → Option (List PV)
  | [] => some []
  | x :: r => match evV fl x, evVs fl r with
    | some v, some vs => some (v :: vs)
    | _, _ => none
theorem evVs_ok {fl : VL} {t : Tr} (hs : Slots h S t fl) : ∀ {l : List Operand} {vs : List PV}, evVs fl l = some vs → RepL h S vs (l.map (evalO t))
  | [], vs, hx => by obtain rfl := Option.some.inj hx; rfl
  | x :: r, vs, hx => by
    simp only [evVs] at hx; split at hx
    · rename_i v vs0 hv hvs; obtain rfl := Option.some.inj hx; exact ⟨_, _, rfl, evV_ok hs hv, evVs_ok hs hvs⟩
    cases hx
structure Iv (h0 : Heap) (G S0 : List Nat) (h : Heap) (σ : Sto) (t : Tr) (ms : List Nat) (fl : VL) : Prop where
  ok : HOk h
  s0 : ∀ b ∈ S0, b < h0.next
  aft : Aft h0 h G
  cells : ∀ c ∈ σ, CellR h (own σ ++ S0) c.1 c.2
  new : ∀ b ∈ own σ, (b ∈ G ∨ h0.next ≤ b) ∧ b ∉ S0
  apart : (own σ).Nodup
  mark : ∀ d ∈ ms, h0.next ≤ d ∧ h.get d = some .defd
  marks : ms.Nodup
  slots : Slots h (own σ ++ S0) t fl
variable {σ σ' : Sto} {t t' : Tr} {ms : List Nat} {fl : VL}
theorem own_lt (hc : ∀ c ∈ σ, CellR h S c.1 c.2) (hok : HOk h) : ∀ b ∈ own σ, b < h.next := fun b hb => by
  obtain ⟨c, hcm, hb⟩ := List.mem_flatMap.1 hb; obtain ⟨o, hg, _⟩ := (hc c hcm).isObj b hb; exact hok b _ hg
theorem Iv.goes (I : Iv h0 G S0 h σ t ms fl) (hB : ∀ b ∈ B, b ∈ own σ) (ha : Aft h h' B) (hn : ∀ b ∈ own σ', b ∈ own σ ∨ h.next ≤ b) : Goes h (own σ ++ S0) h' (own σ' ++ S0) :=
  ha.goes I.ok (fun b hb => List.mem_append_left _ (hB b hb)) fun b hb => by
    rcases List.mem_append.1 hb with hb | hb
    · rcases hn b hb with h3 | h3
      · exact .inl (List.mem_append_left _ h3)
      exact .inr h3
    exact .inl (List.mem_append_right _ hb)
theorem Iv.step (I : Iv h0 G S0 h σ t ms fl) (hB : ∀ b ∈ B, b ∈ own σ) (ha : Aft h h' B) (hn : ∀ b ∈ own σ', b ∈ own σ ∨ h.next ≤ b) (hd : (own σ').Nodup) (hc : ∀ c ∈ σ', CellR h' (own σ' ++ S0) c.1 c.2) : Iv h0 G S0 h' σ' t ms fl where
  ok := ha.ok I.ok
  s0 := I.s0
  aft := I.aft.trans ha fun b hb => (I.new b (hB b hb)).1
  cells := hc
  new := fun b hb => by
    have h1 := I.aft.next; rcases hn b hb with h3 | h3
    · exact I.new b h3
    exact ⟨.inr (by omega), fun hm => by have := I.s0 b hm; omega⟩
  apart := hd
  mark := fun d hdm => by
    obtain ⟨h1, h2⟩ := I.mark d hdm; refine ⟨h1, ?_⟩; rw [ha.get d (I.ok d _ h2) (fun hm => ?_)]
    · exact h2
    obtain ⟨c, hcm, hb⟩ := List.mem_flatMap.1 (hB d hm); obtain ⟨o, hg, hne⟩ := (I.cells c hcm).isObj d hb; rw [hg] at h2; exact absurd (Option.some.inj h2) hne
  marks := I.marks
  slots := I.slots.nx (I.goes hB ha hn)
theorem Iv.calm (I : Iv h0 G S0 h σ t ms fl) (ha : Aft h h' []) : Iv h0 G S0 h' σ t ms fl :=
  I.step (B := []) (fun b hb => by cases hb) ha (fun b hb => .inl hb) I.apart fun c hc => (I.cells c hc).keep
    (fun b hb => ha.get b (by obtain ⟨o, hg, _⟩ := (I.cells c hc).isObj b hb; exact I.ok b _ hg) (by simp)) (I.goes (fun b hb => by cases hb) ha fun b hb => .inl hb) fun b hb => List.mem_append_left _ (List.mem_flatMap.2 ⟨c, hc, hb⟩)
theorem Iv.set (I : Iv h0 G S0 h σ t ms fl) {d : Nat} {v : PV} {u : Value} (hu : RepPV h (own σ ++ S0) v u) (hd : d < 4000) : Iv h0 G S0 h σ (t.set depth d u) ms ((d, v) :: fl) := { I with slots := I.slots.set hu hd }
theorem Iv.sub (I : Iv h0 G S0 h σ t ms fl) (fl' : VL) (hf : ∀ p ∈ fl', lkV fl p.1 = some p.2) : Iv h0 G S0 h σ t ms fl' := { I with slots := I.slots.sub fl' hf }
end Go.Fs
namespace Go.Fs
variable {P : Program} {orc : FuncId → List Value → Heap → Option (Value × Heap)} {rnd : Option Nat} {h h' h0 h1 h2 : Heap} {S S' S0 B G : List Nat} {σ σ' : Sto} {t t' : Tr} {ms : List Nat} {fl : VL} {ops : Array Oper} {n : Nat} {l : List Oper}
section
variable (P orc)
def VC (rnd : Option Nat) (c : Code) (n : Nat) (fl : VL) (σ : Sto) (Q : Ex → VL → Sto → Prop) : Prop :=
  ∀ (h0 : Heap) (G S0 : List Nat) (t : Tr) (h : Heap) (ms : List Nat), Iv h0 G S0 h σ t ms fl → EvC P orc rnd c ⟨t, n, ms⟩ h fun e fr h' => fr.n = n ∧ ∃ fl' σ', Iv h0 G S0 h' σ' fr.t fr.marks fl' ∧ Q e fl' σ'
def VO (ops : Array Oper) (n : Nat) (l : List Oper) (fl : VL) (σ : Sto) (K : VL → Sto → Prop) : Prop :=
  ∀ (h0 : Heap) (G S0 : List Nat) (t : Tr) (h : Heap) (ms : List Nat), Iv h0 G S0 h σ t ms fl → EvO P orc ops n l t h fun t' h' => ∃ fl' σ', Iv h0 G S0 h' σ' t' ms fl' ∧ K fl' σ'
def thenV (rnd : Option Nat) (n : Nat) (b : Code) (Q : Ex → VL → Sto → Prop) : Ex → VL → Sto → Prop
  | .normal, fl, σ => VC P orc rnd b n fl σ Q
  | .exit i, fl, σ => Q (.exit i) fl σ
  | .ret, fl, σ => Q .ret fl σ
end
def inBlockV (id : Nat) (Q : Ex → VL → Sto → Prop) : Ex → VL → Sto → Prop
  | .exit i, fl, σ => bif Nat.beq i id then Q .normal fl σ else Q (.exit i) fl σ
  | .normal, fl, σ => Q .normal fl σ
  | .ret, fl, σ => Q .ret fl σ
def subV (fl : VL) : VL → Prop
  | [] => True
  | (k, v) :: r => lkV fl k = some v ∧ subV fl r
theorem subV_all {fl : VL} : ∀ {fl' : VL}, subV fl fl' → ∀ p ∈ fl', lkV fl p.1 = some p.2
  | [], _, _, hp => by cases hp
  | (k, v) :: r, h, p, hp => by
    rcases List.mem_cons.1 hp with rfl | hp
    · exact h.1
    exact subV_all h.2 p hp
def loopV (I : Nat → VL → Sto → Prop) (k : Nat) (Q : Ex → VL → Sto → Prop) : Ex → VL → Sto → Prop
  | .normal, fl, σ => ∃ k' fl', k' < k ∧ subV fl fl' ∧ I k' fl' σ
  | .exit i, fl, σ => Q (.exit i) fl σ
  | .ret, fl, σ => Q .ret fl σ
variable {Q : Ex → VL → Sto → Prop} {K : VL → Sto → Prop}
theorem VC.seq {a b : Code} (hx : VC P orc rnd a n fl σ (thenV P orc rnd n b Q)) : VC P orc rnd (.seq a b) n fl σ Q := fun h0 G S0 t h ms I => by
  refine EvC.seq ((hx h0 G S0 t h ms I).mono fun e fr h' hq => ?_); obtain ⟨hn, fl', σ', I', q⟩ := hq
  cases e with
  | normal =>
    obtain ⟨t', n', ms'⟩ := fr; obtain rfl : n' = n := hn
    exact q h0 G S0 t' h' ms' I'
  | exit i => exact ⟨hn, fl', σ', I', q⟩
  | ret => exact ⟨hn, fl', σ', I', q⟩
theorem VC.block {id : Nat} {b : Code} (hx : VC P orc rnd b n fl σ (inBlockV id Q)) : VC P orc rnd (.block id b) n fl σ Q := fun h0 G S0 t h ms I => by
  refine EvC.block ((hx h0 G S0 t h ms I).mono fun e fr h' hq => ?_); obtain ⟨hn, fl', σ', I', q⟩ := hq
  cases e with
  | normal => exact ⟨hn, fl', σ', I', q⟩
  | ret => exact ⟨hn, fl', σ', I', q⟩
  | exit i =>
    simp only [inBlockV] at q; simp only [inBlock]; by_cases hi : i = id
    · rw [if_pos hi]; subst hi; rw [Nat.beq_refl] at q; exact ⟨hn, fl', σ', I', q⟩
    rw [if_neg hi]; rw [beq_no hi] at q; exact ⟨hn, fl', σ', I', q⟩
theorem VC.scope {b : Code} (hx : VC P orc rnd b n fl σ Q) : VC P orc rnd (.scope b) n fl σ Q := fun h0 G S0 t h ms I => EvC.scope (hx h0 G S0 t h ms I)
theorem VC.skip (hq : Q .normal fl σ) : VC P orc rnd .skip n fl σ Q := fun _ _ _ _ _ _ I => EvC.skip ⟨rfl, fl, σ, I, hq⟩
theorem VC.label {i : Nat} (hq : Q .normal fl σ) : VC P orc rnd (.label i) n fl σ Q := fun _ _ _ _ _ _ I => EvC.label ⟨rfl, fl, σ, I, hq⟩
theorem VC.exit {i : Nat} (hq : Q (.exit i) fl σ) : VC P orc rnd (.exit i) n fl σ Q := fun _ _ _ _ _ _ I => EvC.exit ⟨rfl, fl, σ, I, hq⟩
theorem VC.ret (hq : Q .ret fl σ) : VC P orc rnd .ret n fl σ Q := fun _ _ _ _ _ _ I => EvC.ret ⟨rfl, fl, σ, I, hq⟩
theorem VC.cond {x : Operand} {a b : Code} {c : Bool} (hc : evV fl x = some (.v .bool c)) (hx : VC P orc rnd (if c then a else b) n fl σ Q) : VC P orc rnd (.cond x a b) n fl σ Q := fun h0 G S0 t h ms I =>
  EvC.cond (evV_ok I.slots hc : RepPV _ _ (.v .bool c) _).bool (hx h0 G S0 t h ms I)
theorem VC.condB {x : Operand} {a b : Code} {c : Bool} (hc : evV fl x = some (.v .bool c)) (ht : c = true → VC P orc rnd a n fl σ Q) (hf : c = false → VC P orc rnd b n fl σ Q) : VC P orc rnd (.cond x a b) n fl σ Q := by
  refine VC.cond hc ?_
  cases c with
  | true => exact ht rfl
  | false => exact hf rfl
theorem VC.condD {x : Operand} {a b : Code} {p : Prop} {inst : Decidable p} (hc : evV fl x = some (.v .bool (@decide p inst))) (ht : p → VC P orc rnd a n fl σ Q) (hf : ¬ p → VC P orc rnd b n fl σ Q) : VC P orc rnd (.cond x a b) n fl σ Q :=
  VC.condB hc (fun h => ht (of_decide_eq_true h)) fun h => hf (of_decide_eq_false h)
theorem VC.condT {x : Operand} {a b : Code} (hc : evV fl x = some (.v .bool true)) (hx : VC P orc rnd a n fl σ Q) : VC P orc rnd (.cond x a b) n fl σ Q := VC.cond hc hx
theorem VC.condF {x : Operand} {a b : Code} (hc : evV fl x = some (.v .bool false)) (hx : VC P orc rnd b n fl σ Q) : VC P orc rnd (.cond x a b) n fl σ Q := VC.cond hc hx
theorem VC.keep {c : Code} (fl' : VL) (hs : subV fl fl') (hx : VC P orc rnd c n fl' σ Q) : VC P orc rnd c n fl σ Q := fun h0 G S0 t h ms I => hx h0 G S0 t h ms (I.sub fl' (subV_all hs))
theorem VC.loop {c : Code} {I : Nat → VL → Sto → Prop} (hs : ∀ k fl σ, I k fl σ → VC P orc rnd c n fl σ (loopV I k Q)) : ∀ k fl σ, I k fl σ → VC P orc rnd (.loop c) n fl σ Q := by
  intro k
  induction k using Nat.strongRecOn with
  | ind k ih =>
    intro fl σ hI h0 G S0 t h ms Iv; refine EvC.loop ((hs k fl σ hI h0 G S0 t h ms Iv).mono fun e fr h' hq => ?_); obtain ⟨hn, fl', σ', I', q⟩ := hq
    cases e with
    | normal =>
      obtain ⟨t', n', ms'⟩ := fr; obtain rfl : n' = n := hn; obtain ⟨k', fl2, hk, hsub, hI2⟩ := q
      exact ih k' hk fl2 σ' hI2 h0 G S0 t' h' ms' (I'.sub fl2 (subV_all hsub))
    | exit i => exact ⟨hn, fl', σ', I', q⟩
    | ret => exact ⟨hn, fl', σ', I', q⟩
theorem VC.text {id : Nat} {ops : Array Oper} (hx : VO P orc ops n ops.toList fl σ fun fl' σ' => Q .normal fl' σ') : VC P orc rnd (.region id ops false) n fl σ Q := fun h0 G S0 t h ms I =>
  EvC.text (by
    obtain ⟨m, t', h', h1, fl', σ', h2, h3⟩ := hx h0 G S0 t h ms I
    exact ⟨m, t', h', h1, rfl, fl', σ', h2, h3⟩)
theorem VO.nil (hk : K fl σ) : VO P orc ops n [] fl σ K := fun _ _ _ _ _ _ I => EvO.nil ⟨fl, σ, I, hk⟩
theorem VO.keep (fl' : VL) (hs : subV fl fl') (hx : VO P orc ops n l fl' σ K) : VO P orc ops n l fl σ K := fun h0 G S0 t h ms I => hx h0 G S0 t h ms (I.sub fl' (subV_all hs))
theorem own_perm (hp : σ.Perm σ') : (own σ).Perm (own σ') := hp.flatMap_right _
theorem Iv.perm (I : Iv h0 G S0 h σ t ms fl) (hp : σ.Perm σ') : Iv h0 G S0 h σ' t ms fl := by
  refine I.step (B := []) (fun b hb => by cases hb) (Aft.refl h []) (fun b hb => .inl ((own_perm hp).mem_iff.2 hb)) ((own_perm hp).nodup_iff.1 I.apart) fun c hc => ?_
  have hN : Goes h (own σ ++ S0) h (own σ' ++ S0) := Goes.less fun b hb => by
    rcases List.mem_append.1 hb with hb | hb
    · exact List.mem_append_left _ ((own_perm hp).mem_iff.2 hb)
    exact List.mem_append_right _ hb
  exact (I.cells c (hp.mem_iff.2 hc)).keep (fun _ _ => rfl) hN fun b hb => List.mem_append_left _ (List.mem_flatMap.2 ⟨c, hc, hb⟩)
theorem VO.perm (hp : σ.Perm σ') (hx : VO P orc ops n l fl σ' K) : VO P orc ops n l fl σ K := fun h0 G S0 t h ms I => hx h0 G S0 t h ms (I.perm hp)
theorem VC.perm {c : Code} (hp : σ.Perm σ') (hx : VC P orc rnd c n fl σ' Q) : VC P orc rnd c n fl σ Q := fun h0 G S0 t h ms I => hx h0 G S0 t h ms (I.perm hp)
end Go.Fs
namespace Go.Fs
variable {P : Program} {orc : FuncId → List Value → Heap → Option (Value × Heap)} {rnd : Option Nat} {h h' h0 h1 h2 : Heap} {S S' S0 B G : List Nat} {σ σ' : Sto} {t t' : Tr} {ms : List Nat} {fl : VL} {ops : Array Oper} {n : Nat} {l : List Oper} {K : VL → Sto → Prop} {Q : Ex → VL → Sto → Prop}
  {d : Tmp} {ty : TypeId} {pos : String} {after : Array Edge} {op : Op} {v : PV} {g : Option (Nat × Bool)}
structure Lc (S0 : List Nat) (h : Heap) (σ : Sto) (t : Tr) (fl : VL) : Prop where
  ok : HOk h
  s0 : ∀ b ∈ S0, b < h.next
  cells : ∀ c ∈ σ, CellR h (own σ ++ S0) c.1 c.2
  sep : ∀ b ∈ own σ, b ∉ S0
  apart : (own σ).Nodup
  slots : Slots h (own σ ++ S0) t fl
theorem Iv.lc (I : Iv h0 G S0 h σ t ms fl) : Lc S0 h σ t fl := ⟨I.ok, fun b hb => Nat.lt_of_lt_of_le (I.s0 b hb) I.aft.next, I.cells, fun b hb => (I.new b hb).2, I.apart, I.slots⟩
theorem Lc.objs (L : Lc S0 h σ t fl) (hg : ∀ b, h'.get b = h.get b) (hn : h'.next = h.next) : Lc S0 h' σ t fl :=
  ⟨fun b o hb => by rw [hn]; exact L.ok b o (by rw [← hg]; exact hb), fun b hb => by rw [hn]; exact L.s0 b hb, fun c hc => (L.cells c hc).keep (fun b _ => hg b) (Goes.objs hg) fun b hb => List.mem_append_left _ (List.mem_flatMap.2 ⟨c, hc, hb⟩), L.sep, L.apart, L.slots.nx (Goes.objs hg)⟩
theorem Lc.lt (L : Lc S0 h σ t fl) : ∀ b ∈ own σ ++ S0, b < h.next := fun b hb => by
  rcases List.mem_append.1 hb with hb | hb
  · exact own_lt L.cells L.ok b hb
  exact L.s0 b hb
theorem GT.less (hs : GT h S) (hb : ∀ b, b ∈ S' → b ∈ S) : GT h S' := hs.nx (Goes.less hb)
theorem Lc.sok (L : Lc S0 h σ t fl) : SOk h S0 := ⟨L.s0, L.slots.1.less fun b hb => List.mem_append_right _ hb⟩
theorem Lc.slt (L : Lc S0 h σ t fl) : SLt h S0 := L.slots.1.slt L.ok L.s0
theorem Lc.sokA (L : Lc S0 h σ t fl) : SOk h (own σ ++ S0) := ⟨L.lt, L.slots.1⟩
def Sees (h : Heap) (S : List Nat) (t : Tr) (fl : VL) (op : Op) : Prop := ∀ x ∈ op.operands.toList, ∀ pv, evV fl x = some pv → RepPV h S pv (evalO t x)
theorem Slots.sees (hs : Slots h S t fl) : Sees h S t fl op := fun _ _ _ hx => evV_ok hs hx
def CalmV (P : Program) (fl : VL) (σ : Sto) (op : Op) (v : PV) : Prop := calm op = true ∧ ∀ (h : Heap) (S : List Nat) (t : Tr), Sees h S t fl op → (∀ c ∈ σ, CellR h S c.1 c.2) →
  ∃ u, RepPV h S v u ∧ ∀ (d : Option Tmp) (ty : TypeId) (pos : String) (after : Array Edge) (g : Option (Nat × Bool)) (H : Heap), stepO P ⟨d, op, ty, pos, after, g⟩ (evalO t) H = some (u, H)
def ReadV (P : Program) (fl : VL) (σ : Sto) (op : Op) (v : PV) : Prop := calm op = false ∧ ∀ (h : Heap) (S : List Nat) (t : Tr), Sees h S t fl op → (∀ c ∈ σ, CellR h S c.1 c.2) →
  ∃ u, RepPV h S v u ∧ ∀ H : Heap, (∀ b o, h.get b = some o → H.get b = some o) → ∀ (d : Option Tmp) (ty : TypeId) (pos : String) (after : Array Edge) (g : Option (Nat × Bool)), stepO P ⟨d, op, ty, pos, after, g⟩ (evalO t) H = some (u, H)
structure Made (S0 : List Nat) (h h' : Heap) (σ σ' : Sto) : Prop where
  aft : Aft h h' (own σ)
  new : ∀ b ∈ own σ', b ∈ own σ ∨ h.next ≤ b
  apart : (own σ').Nodup
  cells : ∀ c ∈ σ', CellR h' (own σ' ++ S0) c.1 c.2
theorem Iv.made (I : Iv h0 G S0 h σ t ms fl) (m : Made S0 h h' σ σ') : Iv h0 G S0 h' σ' t ms fl := I.step (fun _ hb => hb) m.aft m.new m.apart m.cells
def MakeV (P : Program) (fl : VL) (σ : Sto) (op : Op) (T : PV → Sto → Prop) : Prop := calm op = false ∧ ∀ (S0 : List Nat) (h : Heap) (t : Tr), Lc S0 h σ t fl →
  ∃ u h' v σ', T v σ' ∧ Made S0 h h' σ σ' ∧ RepPV h' (own σ' ++ S0) v u ∧ ∀ (d : Option Tmp) (ty : TypeId) (pos : String) (after : Array Edge) (g : Option (Nat × Bool)), stepO P ⟨d, op, ty, pos, after, g⟩ (evalO t) h = some (u, h')
def isUndef : Value → Bool
  | .tuple ⟨[]⟩ => true
  | _ => false
def wantV (ops : Array Oper) (fl : VL) : Option (Nat × Bool) → Option Bool
  | none => some true
  | some (j, w) => match (ops[j]?).bind (·.dst) with
    | none => some false
    | some d => match lkV fl d with
      | some (.v .bool b) => some (b == w)
      | some (.raw u) => bif isUndef u then some false else none
      | _ => none
theorem want_ok (hs : Slots h S t fl) {o : Oper} {r : Bool} (hw : wantV ops fl o.guard = some r) : fsWanted ops t o = some r := by
  unfold wantV at hw; unfold fsWanted; split at hw
  · rename_i hg; rw [hg]; exact hw
  rename_i j w hg; rw [hg]; split at hw
  · rename_i hd; simp only [hd]; exact hw
  rename_i d hd; simp only [hd]; split at hw
  · rename_i b hb; have := (hs d _ hb : RepPV h S (.v .bool b) _).bool; rw [this]; exact hw
  · rename_i u hb; have h1 : t.get d = u := hs d _ hb; rw [h1]
    cases hu : isUndef u with
    | false => rw [hu] at hw; cases hw
    | true =>
      rw [hu] at hw; obtain rfl := Option.some.inj hw; unfold isUndef at hu; split at hu
      · rfl
      cases hu
  cases hw
theorem fits (hn : (Nat.blt d n && Nat.ble n 4000) = true) : Nat.blt d n = true ∧ d < 4000 := by
  obtain ⟨h1, h2⟩ := band hn; exact ⟨h1, Nat.lt_of_lt_of_le (nblt h1) (nble h2)⟩
theorem put_fits (hn : Nat.blt d n = true) (t : Tr) (u : Value) : put n t (some d) u = some (t.set depth d u) := by rw [put_set, hn]; rfl
theorem VO.c (hs : CalmV P fl σ op v) (hk : VO P orc ops n l ((d, v) :: fl) σ K) (hw : wantV ops fl g = some true := by rfl) (hn : (Nat.blt d n && Nat.ble n 4000) = true := by rfl) : VO P orc ops n (⟨some d, op, ty, pos, after, g⟩ :: l) fl σ K := fun h0 G S0 t h ms I => by
  obtain ⟨u, h1, h2⟩ := hs.2 h _ t I.slots.sees I.cells; obtain ⟨n1, n2⟩ := fits hn; exact EvO.op (want_ok I.slots hw) (h2 _ _ _ _ _ h) (put_fits n1 t u) (hk h0 G S0 _ h ms (I.set h1 n2))
theorem VO.r (hs : ReadV P fl σ op v) (hk : VO P orc ops n l ((d, v) :: fl) σ K) (hw : wantV ops fl g = some true := by rfl) (hn : (Nat.blt d n && Nat.ble n 4000) = true := by rfl) : VO P orc ops n (⟨some d, op, ty, pos, after, g⟩ :: l) fl σ K := fun h0 G S0 t h ms I => by
  obtain ⟨u, h1, h2⟩ := hs.2 h _ t I.slots.sees I.cells; obtain ⟨n1, n2⟩ := fits hn; exact EvO.op (want_ok I.slots hw) (h2 h (fun _ _ x => x) _ _ _ _ _) (put_fits n1 t u) (hk h0 G S0 _ h ms (I.set h1 n2))
theorem VO.mk {T : PV → Sto → Prop} (hs : MakeV P fl σ op T) (hk : ∀ v σ', T v σ' → VO P orc ops n l ((d, v) :: fl) σ' K) (hw : wantV ops fl g = some true := by rfl) (hn : (Nat.blt d n && Nat.ble n 4000) = true := by rfl) : VO P orc ops n (⟨some d, op, ty, pos, after, g⟩ :: l) fl σ K := fun h0 G S0 t h ms I => by
  obtain ⟨u, h', v, σ', h1, h2, h3, h4⟩ := hs.2 S0 h t I.lc; obtain ⟨n1, n2⟩ := fits hn; exact EvO.op (want_ok I.slots hw) (h4 _ _ _ _ _) (put_fits n1 t u) (hk v σ' h1 h0 G S0 _ h' ms ((I.made h2).set h3 n2))
theorem VO.mk0 {T : PV → Sto → Prop} (hs : MakeV P fl σ op T) (hk : ∀ v σ', T v σ' → VO P orc ops n l fl σ' K) (hw : wantV ops fl g = some true := by rfl) : VO P orc ops n (⟨none, op, ty, pos, after, g⟩ :: l) fl σ K := fun h0 G S0 t h ms I => by
  obtain ⟨u, h', v, σ', h1, h2, h3, h4⟩ := hs.2 S0 h t I.lc; exact EvO.op (want_ok I.slots hw) (h4 _ _ _ _ _) rfl (hk v σ' h1 h0 G S0 _ h' ms (I.made h2))
theorem VO.skip (hk : VO P orc ops n l ((d, .raw undef) :: fl) σ K) (hw : wantV ops fl g = some false := by rfl) (hn : (Nat.blt d n && Nat.ble n 4000) = true := by rfl) : VO P orc ops n (⟨some d, op, ty, pos, after, g⟩ :: l) fl σ K := fun h0 G S0 t h ms I => by
  obtain ⟨n1, n2⟩ := fits hn; exact EvO.skip (want_ok I.slots hw) (put_fits n1 t undef) (hk h0 G S0 _ h ms (I.set (show RepPV _ _ (.raw undef) undef from rfl) n2))
theorem VO.splitB {x : Tmp} {r : Bool} (hc : lkV fl x = some (.v .bool r)) (ht : r = true → VO P orc ops n l ((x, .v .bool true) :: fl) σ K) (hf : r = false → VO P orc ops n l ((x, .v .bool false) :: fl) σ K) : VO P orc ops n l fl σ K := fun h0 G S0 t h ms I => by
  have hx : Iv h0 G S0 h σ t ms ((x, .v .bool r) :: fl) := { I with slots := I.slots.cons (I.slots x _ hc) }
  cases r with
  | true => exact ht rfl h0 G S0 t h ms hx
  | false => exact hf rfl h0 G S0 t h ms hx
theorem VO.splitD {x : Tmp} {p : Prop} {inst : Decidable p} (hc : lkV fl x = some (.v .bool (@decide p inst))) (ht : p → VO P orc ops n l ((x, .v .bool true) :: fl) σ K) (hf : ¬ p → VO P orc ops n l ((x, .v .bool false) :: fl) σ K) : VO P orc ops n l fl σ K :=
  VO.splitB hc (fun h => ht (of_decide_eq_true h)) fun h => hf (of_decide_eq_false h)
theorem Iv.cell0 (I : Iv h0 G S0 h σ t ms fl) (e : TypeId) (τ : Ty) : Iv h0 G S0 h ((.slice none 0 0, .row e τ []) :: σ) t ms fl := by
  have ho : own ((.slice none 0 0, .row e τ []) :: σ) = own σ := rfl; refine I.step (B := []) (fun b hb => by cases hb) (Aft.refl h []) (fun b hb => .inl hb) I.apart fun c hc => ?_; rcases List.mem_cons.1 hc with rfl | hc
  · exact .inl ⟨rfl, rfl⟩
  exact I.cells c hc
theorem VC.cell0 {c : Code} (e : TypeId) (τ : Ty) (hx : VC P orc rnd c n fl ((.slice none 0 0, .row e τ []) :: σ) Q) : VC P orc rnd c n fl σ Q := fun h0 G S0 t h ms I => hx h0 G S0 t h ms (I.cell0 e τ)
theorem Iv.forget {c : Value × Cell} (I : Iv h0 G S0 h (c :: σ) t ms fl) : Iv h0 G S0 h σ t ms fl := by
  have ho : own (c :: σ) = blk c.1 ++ own σ := rfl
  have hsub : ∀ b ∈ own σ, b ∈ own (c :: σ) := fun b hb => by rw [ho]; exact List.mem_append_right _ hb
  refine I.step (B := []) (fun b hb => by cases hb) (Aft.refl h []) (fun b hb => .inl (hsub b hb)) ?_ fun d hd => ?_
  · have := I.apart; rw [ho] at this; exact (List.nodup_append.1 this).2.1
  refine (I.cells d (List.mem_cons_of_mem _ hd)).keep (fun _ _ => rfl) (Goes.less fun b hb => ?_) fun b hb => List.mem_append_left _ (List.mem_flatMap.2 ⟨d, hd, hb⟩); rcases List.mem_append.1 hb with hb | hb
  · exact List.mem_append_left _ (hsub b hb)
  exact List.mem_append_right _ hb
def cellsPV : (τ : Ty) → τ.den → List PV
  | .pair a b, x => cellsPV a x.1 ++ cellsPV b x.2
  | .unit, _ => []
  | .int k, n => [.v (.int k) n]
  | .bool, b => [.v .bool b]
  | .str, s => [.v .str s]
  | .flt k, b => [.v (.flt k) b]
  | .sl e, xs => [.v (.sl e) xs]
  | .mp a b, xs => [.v (.mp a b) xs]
  | .fn, f => [.v .fn f]
  | .hnd, f => [.v .hnd f]
theorem RepL.split : ∀ {l l' : List PV} {us : List Value}, RepL h S (l ++ l') us → ∃ a b, us = a ++ b ∧ RepL h S l a ∧ RepL h S l' b
  | [], l', us, hx => ⟨[], us, rfl, rfl, hx⟩
  | p :: ps, l', us, ⟨u, r, h1, h2, h3⟩ => by
    obtain ⟨a, b, rfl, h5, h6⟩ := RepL.split h3; exact ⟨u :: a, b, by rw [h1]; rfl, ⟨u, a, rfl, h2, h5⟩, h6⟩
theorem repC_one {τ : Ty} {x : τ.den} {us : List Value} (ha : τ.agg = false) (hx : RepL h S [.v τ x] us) : RepC h S τ us x := by
  obtain ⟨u, r, rfl, h2, rfl⟩ := hx; exact RepV.last ha h2
theorem repC_cells : ∀ {τ : Ty} {x : τ.den} {us : List Value}, RepL h S (cellsPV τ x) us → RepC h S τ us x
  | .pair a b, x, us, hx => by
    obtain ⟨u1, u2, rfl, h1, h2⟩ := RepL.split hx; have e1 := repC_cells h1; have e2 := repC_cells h2; have hl := e1.len
    exact ⟨by rw [List.take_left' hl]; exact e1, by rw [List.drop_left' hl]; exact e2⟩
  | .unit, x, us, hx => hx
  | .int k, x, us, hx => repC_one rfl hx
  | .bool, x, us, hx => repC_one rfl hx
  | .str, x, us, hx => repC_one rfl hx
  | .flt k, x, us, hx => repC_one rfl hx
  | .sl e, x, us, hx => repC_one rfl hx
  | .mp a b, x, us, hx => repC_one rfl hx
  | .fn, x, us, hx => repC_one rfl hx
  | .hnd, x, us, hx => repC_one rfl hx
theorem cells_repC : ∀ {τ : Ty} {x : τ.den} {us : List Value}, RepC h S τ us x → RepL h S (cellsPV τ x) us
  | .pair a b, x, us, hx => by
    have e1 := cells_repC hx.1; have e2 := cells_repC hx.2; have := e1.append e2
    rwa [List.take_append_drop] at this
  | .unit, x, us, hx => hx
  | .int k, x, us, hx => let ⟨u, h1, h2⟩ := hx.one rfl; ⟨u, [], h1, h2, rfl⟩
  | .bool, x, us, hx => let ⟨u, h1, h2⟩ := hx.one rfl; ⟨u, [], h1, h2, rfl⟩
  | .str, x, us, hx => let ⟨u, h1, h2⟩ := hx.one rfl; ⟨u, [], h1, h2, rfl⟩
  | .flt k, x, us, hx => let ⟨u, h1, h2⟩ := hx.one rfl; ⟨u, [], h1, h2, rfl⟩
  | .sl e, x, us, hx => let ⟨u, h1, h2⟩ := hx.one rfl; ⟨u, [], h1, h2, rfl⟩
  | .mp a b, x, us, hx => let ⟨u, h1, h2⟩ := hx.one rfl; ⟨u, [], h1, h2, rfl⟩
  | .fn, x, us, hx => let ⟨u, h1, h2⟩ := hx.one rfl; ⟨u, [], h1, h2, rfl⟩
  | .hnd, x, us, hx => let ⟨u, h1, h2⟩ := hx.one rfl; ⟨u, [], h1, h2, rfl⟩
mutual
/-- What is told of a slot, with own cells told asl data. -/
inductive Co (σ : Sto) : PV → PV → Prop where
  | same {p : PV} : Co σ p p
  | row {w : Value} {e : TypeId} {τ : Ty} {xs : List τ.den} (hm : (w, Cell.row e τ xs) ∈ σ) : Co σ (.raw w) (.v (.sl τ) xs)
  | nil {τ : Ty} : Co σ (.raw (.slice none 0 0)) (.v (.sl τ) [])
  | cap {w : Value} {e : TypeId} {n : Nat} {τ : Ty} {xs : List τ.den} (hm : (w, Cell.cap e n τ xs) ∈ σ) : Co σ (.raw w) (.v (.sl τ) xs)
  | nilm {κ ν : Ty} : Co σ (.raw (.map none)) (.v (.mp κ ν) [])
  | mp {w : Value} {κ ν : Ty} {kvs : List (κ.den × ν.den)} (hm : (w, Cell.mp κ ν kvs) ∈ σ) : Co σ (.raw w) (.v (.mp κ ν) kvs)
  | var {p : Value} {cs : List PV} {τ : Ty} {x : τ.den} (hm : (p, Cell.var cs) ∈ σ) (hc : CoL σ cs (cellsPV τ x)) : Co σ (.raw p) (.p τ x)
  | clo {f : FuncId} {a a' c c' : List PV} (ha : CoL σ a a') (hc : CoL σ c c') : Co σ (.clo f a c) (.clo f a' c')
  | tup {l l' : List PV} (hl : CoL σ l l') : Co σ (.tup l) (.tup l')
  | sem {p p' : PV} (hs : ∀ (h : Heap) (S0 : List Nat) (u : Value), (∀ c ∈ σ, CellR h (own σ ++ S0) c.1 c.2) → (∀ b ∈ own σ, b ∉ S0) → RepPV h (own σ ++ S0) p u → RepPV h S0 p' u) : Co σ p p'
  | cel {w : Value} {e : TypeId} {n : Nat} {cs : List PV} {τ : Ty} {xs : List τ.den} (hm : (w, Cell.cel e n cs) ∈ σ) (hn : n = xs.length) (hc : CoL σ cs (xs.flatMap (cellsPV τ))) : Co σ (.raw w) (.v (.sl τ) xs)
inductive CoL (σ : Sto) : List PV → List PV → Prop where
  | nil : CoL σ [] []
  | cons {p p' : PV} {l l' : List PV} (hp : Co σ p p') (hl : CoL σ l l') : CoL σ (p :: l) (p' :: l')
end
theorem CoL.refl : ∀ {l : List PV}, CoL σ l l
  | [] => .nil
  | _ :: _ => .cons .same CoL.refl
theorem shut_row {w : Value} {e : TypeId} {τ : Ty} {xs : List τ.den} (hc : CellR h (S ++ S0) w (.row e τ xs)) (hs : ∀ b ∈ blk w, b ∉ S0) : SlV h S0 τ w xs := by
  rcases hc with ⟨rfl, rfl⟩ | ⟨b, rs, m, rfl, h2, h3, h4⟩
  · exact .inl ⟨rfl, rfl⟩
  exact (h4.nx (Goes.less fun c hc => List.mem_append_right _ hc)).slv h3 (hs b (by simp [blk]))
theorem shut_cap {w : Value} {e : TypeId} {n : Nat} {τ : Ty} {xs : List τ.den} (hc : CellR h (S ++ S0) w (.cap e n τ xs)) (hs : ∀ b ∈ blk w, b ∉ S0) : SlV h S0 τ w xs := by
  obtain ⟨b, rs, m, rfl, h2, h4, h5, h6, h7⟩ := hc; have hb : b ∉ S0 := hs b (by simp [blk]); have hle : xs.length * τ.size ≤ n * τ.size := Nat.mul_le_mul_right _ h6; refine .inr ⟨b, 0, 0, rfl, .inr ⟨hb, e, rs, true, m, h4, by omega, fun i hi => ?_⟩⟩; have h8 := (h7.nx (Goes.less (S' := S0) fun c hc => List.mem_append_right _ hc)).2 i hi; have h9 : (i + 1) * τ.size ≤ xs.length * τ.size := Nat.mul_le_mul_right _ hi; rw [Nat.add_mul, Nat.one_mul] at h9; rw [List.drop_take, List.take_take, Nat.min_eq_left (by omega)] at h8; rw [Nat.zero_add]; exact h8
theorem shut_mp {w : Value} {κ ν : Ty} {kvs : List (κ.den × ν.den)} (hc : CellR h (S ++ S0) w (.mp κ ν kvs)) (hs : ∀ b ∈ blk w, b ∉ S0) : MpV h S0 κ ν w kvs := by
  obtain ⟨b, es, c, rfl, h2, h3, h4, h5⟩ := hc; have hN : Goes h (S ++ S0) h S0 := Goes.less fun c hc => List.mem_append_right _ hc; exact .inr ⟨b, es, c, rfl, hs b (by simp [blk]), h3, h4, fun i hi hj => ⟨(h5 i hi hj).1.nx hN, (h5 i hi hj).2.nx hN⟩⟩
theorem elems_cells {τ : Ty} : ∀ {xs : List τ.den} {rs : List Value}, RepL h S (xs.flatMap (cellsPV τ)) rs → Elems h S τ rs xs
  | [], rs, hx => by
    obtain rfl : rs = [] := hx
    exact ⟨by simp, fun i hi => absurd hi (by simp)⟩
  | x :: xs, rs, hx => by
    rw [List.flatMap_cons] at hx; obtain ⟨a, b, rfl, h1, h2⟩ := RepL.split hx; have e1 := repC_cells h1; have e2 := elems_cells (xs := xs) h2; have hl := e1.len; refine ⟨by rw [List.length_append, hl, e2.1, List.length_cons, Nat.add_mul, Nat.one_mul, Nat.add_comm], fun i hi => ?_⟩
    cases i with
    | zero =>
      rw [Nat.zero_mul, List.drop_zero, List.take_left' hl]
      exact e1
    | succ i =>
      have h3 := e2.2 i (by simpa using hi); rw [show (i + 1) * τ.size = a.length + i * τ.size by rw [hl, Nat.add_mul, Nat.one_mul, Nat.add_comm], List.drop_append, List.drop_eq_nil_of_le (by omega), List.nil_append, Nat.add_sub_cancel_left]; exact h3
mutual
theorem Co.ok (hc : ∀ c ∈ σ, CellR h (own σ ++ S0) c.1 c.2) (hs : ∀ b ∈ own σ, b ∉ S0) : ∀ {p p' : PV} {u : Value}, Co σ p p' → RepPV h (own σ ++ S0) p u → RepPV h S0 p' u
  | _, _, u, .same, hu => hu.nx (Goes.less fun b hb => List.mem_append_right _ hb)
  | _, _, u, .row hm, hu => by
    obtain rfl := hu
    exact (shut_row (hc _ hm) fun b hb => hs b (List.mem_flatMap.2 ⟨_, hm, hb⟩)).rep
  | _, _, u, .nil, hu => by obtain rfl := hu; exact SlV.nil.rep
  | _, _, u, .nilm, hu => by obtain rfl := hu; exact MpV.rep (.inl ⟨rfl, rfl⟩)
  | _, _, u, .cap hm, hu => by
    obtain rfl := hu
    exact (shut_cap (hc _ hm) fun b hb => hs b (List.mem_flatMap.2 ⟨_, hm, hb⟩)).rep
  | _, _, u, .mp hm, hu => by
    obtain rfl := hu
    exact (shut_mp (hc _ hm) fun b hb => hs b (List.mem_flatMap.2 ⟨_, hm, hb⟩)).rep
  | _, _, u, .var hm hl, hu => by
    obtain rfl := hu; obtain ⟨b, e, vs, h1, h2, h3, h4, h5⟩ := hc _ hm; have hr := repC_cells (CoL.ok hc hs hl h4); have hlen := hr.len; refine ⟨b, 0, e, vs, true, false, h1, hs b (List.mem_flatMap.2 ⟨_, hm, by rw [show u = _ from h1]; simp [blk]⟩), h3, by omega, ?_⟩; rw [List.drop_zero, List.take_of_length_le (by omega)]
    exact hr
  | _, _, u, .clo ha hcc, ⟨va, vc, h1, h2, h3⟩ => ⟨va, vc, h1, CoL.ok hc hs ha h2, CoL.ok hc hs hcc h3⟩
  | _, _, u, .tup hl, ⟨vs, h1, h2⟩ => ⟨vs, h1, CoL.ok hc hs hl h2⟩
  | _, _, u, .sem hq, hu => hq _ _ _ hc hs hu
  | _, _, u, .cel hm hn hl, hu => by
    obtain rfl := hu; have hbs := fun b hb => hs b (List.mem_flatMap.2 ⟨_, hm, hb⟩); rcases hc _ hm with ⟨h1, h2, h3⟩ | ⟨b, rs, m, h1, h2, h3, h4, h5⟩
    · have hx := List.length_eq_zero_iff.1 (hn.symm.trans h2); subst hx; have h1' : u = _ := h1; rw [h1']; exact SlV.nil.rep
    have hr := elems_cells (CoL.ok hc hs hl h4); have h1' : u = _ := h1; subst h1'; rw [hn]; exact (hr.slv h3 (hbs b (by simp [blk]))).rep
theorem CoL.ok (hc : ∀ c ∈ σ, CellR h (own σ ++ S0) c.1 c.2) (hs : ∀ b ∈ own σ, b ∉ S0) : ∀ {l l' : List PV} {us : List Value}, CoL σ l l' → RepL h (own σ ++ S0) l us → RepL h S0 l' us
  | _, _, us, .nil, hu => hu
  | _, _, us, .cons hp hl, ⟨u, r, h1, h2, h3⟩ => ⟨u, r, h1, Co.ok hc hs hp h2, CoL.ok hc hs hl h3⟩
end
inductive Shut (fl : VL) (c : Value × Cell) : VL → Prop where
  | nil : Shut fl c []
  | cons {k : Nat} {p p' : PV} {r : VL} (hk : lkV fl k = some p) (hc : Co [c] p p') (hr : Shut fl c r) : Shut fl c ((k, p') :: r)
theorem Iv.shut {c : Value × Cell} {nw : VL} (I : Iv h0 G S0 h (c :: σ) t ms fl) (hs : Shut fl c nw) : Iv h0 G S0 h σ t ms (nw ++ fl) := by
  have I' := I.forget; have ho : own (c :: σ) = blk c.1 ++ own σ := rfl
  have ho1 : own [c] = blk c.1 := by show blk c.1 ++ [] = _; rw [List.append_nil]
  have hsl : Slots h (own σ ++ S0) t (nw ++ fl) := by
    clear I'
    induction hs with
    | nil => exact I.forget.slots
    | cons hk hc hr ih =>
      refine ih.cons (Co.ok (σ := [c]) (S0 := own σ ++ S0) (fun d hd => ?_) (fun b hb => ?_) hc ?_)
      · obtain rfl := List.mem_singleton.1 hd; have := I.cells d List.mem_cons_self; rw [ho1, ← List.append_assoc, ← ho]; exact this
      · rw [ho1] at hb; have h1 := I.apart; rw [ho] at h1; intro hm; rcases List.mem_append.1 hm with hm | hm
        · exact (List.nodup_append.1 h1).2.2 b hb b hm rfl
        exact (I.new b (by rw [ho]; exact List.mem_append_left _ hb)).2 hm
      rw [ho1, ← List.append_assoc, ← ho]; exact I.slots _ _ hk
  exact { I' with slots := hsl }
theorem VO.shut {c : Value × Cell} (nw : VL) (hs : Shut fl c nw) (hx : VO P orc ops n l (nw ++ fl) σ K) : VO P orc ops n l fl (c :: σ) K := fun h0 G S0 t h ms I => hx h0 G S0 t h ms (I.shut hs)
end Go.Fs
namespace Go.Fs
variable {P : Program} {orc : FuncId → List Value → Heap → Option (Value × Heap)} {rnd : Option Nat} {h h' h0 h1 h2 : Heap} {S S' S0 B G : List Nat} {σ σ' : Sto} {t t' : Tr} {ms : List Nat} {fl : VL} {ops : Array Oper} {n : Nat} {l : List Oper} {K : VL → Sto → Prop} {Q : Ex → VL → Sto → Prop}
  {d : Tmp} {ty : TypeId} {pos : String} {after : Array Edge} {op : Op} {v : PV} {g : Option (Nat × Bool)}
section
variable (P orc)
def VF (f : FuncId) (args : List PV) (r : PV) : Prop := ∀ (h : Heap) (S : List Nat) (us : List Value), HOk h → SOk h S → RepL h S args us → EvF P orc f us h fun u h' => Aft h h' [] ∧ RepPV h' S r u ∧ (r.flat = true → h' = h)
def VCall (F : PV) (args : List PV) (r : PV) : Prop := ∃ f a c, F = .clo f a c ∧ VF P orc f (a ++ args ++ c) r
end
theorem VF.call {f : FuncId} {args : List PV} {r : PV} (hf : VF P orc f args r) : VCall P orc (.clo f [] []) args r := ⟨f, [], [], rfl, by simpa using hf⟩
theorem VF.clo {f : FuncId} {a args c : List PV} {r : PV} (hf : VF P orc f (a ++ (args ++ c)) r) : VCall P orc (.clo f a c) args r := ⟨f, a, c, rfl, by rw [List.append_assoc]; exact hf⟩
theorem VCall.ev {F : PV} {args : List PV} {r : PV} (hc : VCall P orc F args r) {u : Value} {us : List Value} (hok : HOk h) (hS : SOk h S) (hF : RepPV h S F u) (ha : RepL h S args us) :
    ∃ f a c, u = .func (.func f) a c ∧ EvF P orc f (a.toList ++ us ++ c.toList) h fun u h' => Aft h h' [] ∧ RepPV h' S r u ∧ (r.flat = true → h' = h) := by
  obtain ⟨f, a, c, rfl, hv⟩ := hc; obtain ⟨va, vc, rfl, h1, h2⟩ := hF; exact ⟨f, va.toArray, vc.toArray, rfl, hv h S _ hok hS ((h1.append ha).append h2)⟩
theorem VO.call {f : Operand} {args : Array Operand} {ats : Array TypeId} {F r : PV} {asl : List PV} (hf : evV fl f = some F) (ha : evVs fl args.toList = some asl) (hc : VCall P orc F asl r) (hk : VO P orc ops n l ((d, r) :: fl) σ K)
    (hw : wantV ops fl g = some true := by rfl) (hn : (Nat.blt d n && Nat.ble n 4000) = true := by rfl) : VO P orc ops n (⟨some d, .call { callee := .value f, args := args, argTypes := ats }, ty, pos, after, g⟩ :: l) fl σ K := fun h0 G S0 t h ms I => by
  obtain ⟨n1, n2⟩ := fits hn; obtain ⟨fid, a, c, h1, h2⟩ := hc.ev I.ok (Lc.sokA I.lc) (evV_ok I.slots hf) (evVs_ok I.slots ha); refine EvO.call (want_ok I.slots hw) rfl rfl h1 (h2.mono fun u h' hq => ?_); obtain ⟨q1, q2, _⟩ := hq; exact ⟨_, put_fits n1 t u, hk h0 G S0 _ h' ms ((I.calm q1).set q2 n2)⟩
def argVL : Nat → List PV → VL
  | _, [] => []
  | i, v :: r => (i, v) :: argVL (i + 1) r
theorem slots_args : ∀ {l : List PV} {us : List Value} {i : Nat} {t : Tr}, GT h S → RepL h S l us → i + us.length ≤ 4000 → Slots h S (fillTr t i us) (argVL i l)
  | [], us, i, t, hG, hx, _ => ⟨hG, fun k v hk => by cases hk⟩
  | p :: ps, us, i, t, hG, ⟨u, r, h1, h2, h3⟩, hl => by
    subst h1; rw [List.length_cons] at hl; show Slots h S (fillTr (t.set depth i u) (i + 1) r) ((i, p) :: argVL (i + 1) ps); refine (slots_args hG h3 (by omega)).cons ?_; rw [fill_get r (t.set depth i u) (i + 1) (by omega), if_pos (by omega), get_setD t i u i (by omega), if_pos rfl]; exact h2
theorem af10 {us : List Value} (h : us.all af0 = true) : us.all af1 = true := List.all_eq_true.2 fun u hu => by
  have h1 := List.all_eq_true.1 h u hu; cases u <;> first | exact h1 | cases h1
mutual
theorem RepPV.any1 : ∀ {pv : PV} {u : Value}, af1 u = true → RepPV h S pv u → RepPV h' S' pv u
  | .v τ x, u, ha, hx => RepV.anyHeap (τ := τ) hx ha
  | .raw w, u, _, hx => hx
  | .p τ x, u, ha, hx => by
    obtain ⟨b, o, e, rs, own, more, rfl, _⟩ := hx
    cases ha
  | .clo f a c, u, ha, hx => by
    obtain ⟨va, vc, rfl, _⟩ := hx
    cases ha
  | .tup l, u, ha, hx => by
    obtain ⟨vs, rfl, _⟩ := hx
    cases ha
  | .gd b v, u, ha, hx => ⟨fun e => RepPV.any1 ha (hx.1 e), hx.2⟩
  | .agg l, u, ha, hx => by
    obtain ⟨vs, rfl, h2⟩ := hx; exact ⟨vs, rfl, RepL.any1 (af10 ha) h2⟩
theorem RepL.any1 : ∀ {l : List PV} {us : List Value}, us.all af1 = true → RepL h S l us → RepL h' S' l us
  | [], us, _, hx => hx
  | p :: ps, us, ha, ⟨u, r, h1, h2, h3⟩ => by
    subst h1; rw [List.all_cons] at ha; obtain ⟨a1, a2⟩ := band ha; exact ⟨u, r, rfl, RepPV.any1 a1 h2, RepL.any1 a2 h3⟩
end
theorem not_rep_tuple {vs : Array Value} {τ : Ty} {x : τ.den} (hx : RepV h S τ (.tuple vs) x) : False := by
  have h1 := hx.1; have h2 := hx.2
  cases hτ : τ.agg with
  | true => rw [hτ] at h1; cases h1
  | false =>
    cases τ with
    | sl e => obtain ⟨v, h3, h4⟩ := h2; simp [Value.cells] at h3; subst h3; rcases h4 with ⟨h4, _⟩ | ⟨_, _, _, h4, _⟩ <;> cases h4
    | pair a b => cases hτ
    | unit => cases hτ
    | mp a b => obtain ⟨v, h3, h4⟩ := h2; simp [Value.cells] at h3; subst h3; rcases h4 with ⟨h4, _⟩ | ⟨_, _, _, h4, _⟩ <;> cases h4
    | fn => cases x <;> simp [RepC, Value.cells, fnV] at h2
    | hnd => cases x <;> simp [RepC, Value.cells, hndV] at h2
    | int k => simp [RepC, Value.cells] at h2
    | bool => simp [RepC, Value.cells] at h2
    | str => simp [RepC, Value.cells] at h2
    | flt k => simp [RepC, Value.cells] at h2
theorem RepPV.anyAf : ∀ {pv : PV} {u : Value}, af u = true → RepPV h S pv u → RepPV h' S' pv u
  | .tup l, u, ha, hx => by
    obtain ⟨vs, rfl, h2⟩ := hx
    exact ⟨vs, rfl, h2.any1 ha⟩
  | .v τ x, u, ha, hx => by
    cases u with
    | tuple vs => exact (not_rep_tuple hx).elim
    | _ => exact RepPV.any1 (pv := .v τ x) ha hx
  | .p τ x, u, ha, hx => by
    obtain ⟨b, o, e, rs, own, more, rfl, _⟩ := hx
    cases ha
  | .raw w, u, ha, hx => hx
  | .clo f a c, u, ha, hx => by
    obtain ⟨va, vc, rfl, _⟩ := hx
    cases ha
  | .gd b v, u, ha, hx => ⟨fun e => RepPV.anyAf ha (hx.1 e), hx.2⟩
  | .agg l, u, ha, hx => by
    have h1 := hx; obtain ⟨vs, rfl, _⟩ := hx; exact RepPV.any1 (pv := .agg l) ha h1
theorem drops_ok : ∀ {ms : List Nat} {h : Heap}, ms.Nodup → (∀ d ∈ ms, h.get d = some .defd) → ∃ h2, dropMarks ms h = some h2 ∧ Aft h h2 ms ∧ (∀ b, b ∉ ms → h2.get b = h.get b)
  | [], h, _, _ => ⟨h, rfl, Aft.refl _ _, fun _ _ => rfl⟩
  | d :: ms, h, hn, hd => by
    obtain ⟨hn1, hn2⟩ := List.nodup_cons.1 hn
    have hg : ∀ i ∈ ms, (h.drop d).get i = some .defd := fun i hi => by
      rw [Heap.get_drop, if_neg (fun e => hn1 (by subst e; exact hi))]; exact hd i (List.mem_cons_of_mem _ hi)
    obtain ⟨h2, e1, e2, e3⟩ := drops_ok hn2 hg; refine ⟨h2, ?_, (Aft.drop List.mem_cons_self).trans e2 fun i hi => .inl (List.mem_cons_of_mem _ hi), fun b hb => ?_⟩
    · simp only [dropMarks, hd d List.mem_cons_self]; exact e1
    rw [List.mem_cons, not_or] at hb; rw [e3 b hb.2, Heap.get_drop, if_neg hb.1]
inductive EndV (P : Program) (fl : VL) (σ : Sto) : ResultVar → PV → Prop where
  | tmp {i : Nat} {p p' : PV} (hi : lkV fl i = some p) (hc : Co σ p p') : EndV P fl σ (.tmp i) p'
  | cell {a : Nat} {ty : TypeId} {p : Value} {cs : List PV} {τ : Ty} {x : τ.den} (ha : lkV fl a = some (.raw p)) (hm : (p, Cell.var cs) ∈ σ) (hT : ValT P ty τ) (hc : CoL σ cs (cellsPV τ x)) : EndV P fl σ (.cell a ty) (.v τ x)
inductive EndL (P : Program) (fl : VL) (σ : Sto) : List ResultVar → List PV → Prop where
  | nil : EndL P fl σ [] []
  | cons {r : ResultVar} {p : PV} {rs : List ResultVar} {ps : List PV} (hr : EndV P fl σ r p) (hs : EndL P fl σ rs ps) : EndL P fl σ (r :: rs) (p :: ps)
def tupV : List PV → PV
  | [p] => p
  | l => .tup l
def VEnd (P : Program) (fn : Func) (r : PV) : Ex → VL → Sto → Prop := fun e fl σ => e.goes = true ∧ ∃ ps, EndL P fl σ fn.results.toList ps ∧ tupV ps = r
theorem EndV.ok (L : Lc S0 h σ t fl) (hg : ∀ b o, h.get b = some o → o ≠ .defd → h2.get b = some o) (hN : GoesR h S0 h2 S0) {r : ResultVar} {p : PV} (he : EndV P fl σ r p) : ∃ u, fsResult P t h2 r = some u ∧ RepPV h2 S0 p u := by
  cases he with
  | tmp hi hc => exact ⟨_, rfl, (hc.ok L.cells L.sep (L.slots _ _ hi)).nxR hN⟩
  | @cell a ty p cs τ x ha hm hT hc =>
    have hp : t.get a = p := L.slots _ _ ha; have hr : RepPV h S0 (.p τ x) p := Co.ok L.cells L.sep (.var hm hc) (show RepPV h _ (.raw p) p from rfl); have hr2 := (hr.nxR hN : RepP h2 S0 τ p x); obtain ⟨e1, e2⟩ := hr2.load' hT; exact ⟨_, by show fsLoad P ty (t.get a) h2 = _; rw [hp]; exact e1, e2⟩
theorem EndL.ok (L : Lc S0 h σ t fl) (hg : ∀ b o, h.get b = some o → o ≠ .defd → h2.get b = some o) (hN : GoesR h S0 h2 S0) : ∀ {rs : List ResultVar} {ps : List PV}, EndL P fl σ rs ps → ∃ us, fsResults P t h2 rs = some us ∧ RepL h2 S0 ps us
  | _, _, .nil => ⟨[], rfl, rfl⟩
  | _, _, .cons hr hs => by
    obtain ⟨u, e1, e2⟩ := hr.ok L hg hN; obtain ⟨us, e3, e4⟩ := EndL.ok L hg hN hs; exact ⟨u :: us, by simp only [fsResults, e1, e3], u, us, rfl, e2, e4⟩
theorem tup_rep : ∀ {ps : List PV} {us : List Value}, RepL h S ps us → RepPV h S (tupV ps) (tupled us)
  | [], us, hx => ⟨[], by rw [show us = [] from hx]; rfl, rfl⟩
  | [p], us, ⟨u, r, h1, h2, h3⟩ => by
    obtain rfl : r = [] := h3
    subst h1; exact h2
  | p :: q :: ps, us, hx => by
    obtain ⟨u, r, h1, h2, u2, r2, h3, h4, h5⟩ := hx; subst h1 h3; exact ⟨_, rfl, u, _, rfl, h2, u2, _, rfl, h4, h5⟩
theorem VF.enter {f : FuncId} {args : List PV} {fn : Func} {c : Code} {r : PV} (hfn : P.funcs[f]? = some fn) (hc : fn.body = some c) (ho : ∀ us h, orc f us h = none) (hn : (Nat.blt 4000 fn.ntmps || Nat.blt fn.ntmps args.length) = false)
    (hb : VC P orc none c fn.ntmps (argVL 0 args) [] (VEnd P fn r)) : VF P orc f args r := fun h S us hok hS ha => by
  have hl := ha.len
  have hn2 : Nat.blt 4000 fn.ntmps = false ∧ Nat.blt fn.ntmps args.length = false := by simpa using hn
  have n3 := nble_no hn2.1; have n4 := nble_no hn2.2; have ha' : RepL (entry h) S args us := RepL.nx (h := h) (h' := entry h) (Goes.objs fun _ => rfl) ha
  have I0 : Iv (entry h) [] S (entry h) [] (fillTr .leaf 0 us) [] (argVL 0 args) := {
    ok := hok
    s0 := hS.1
    aft := Aft.refl _ _
    cells := fun c hc => by cases hc
    new := fun b hb => by cases hb
    apart := List.nodup_nil
    mark := fun d hd => by cases hd
    marks := List.nodup_nil
    slots := slots_args (hS.2.nx (Goes.objs fun _ => rfl)) ha' (by omega) }
  refine EvF.enter hfn hc (ho us h) (by rw [hl]; exact hn) ((hb (entry h) [] S _ (entry h) [] I0).mono fun e fr h1 hq => ?_); obtain ⟨_, fl', σ', I, he, ps, hps, rfl⟩ := hq; obtain ⟨h2, d1, d2, d3⟩ := drops_ok I.marks fun d hd => (I.mark d hd).2
  have hgd : ∀ b o, h1.get b = some o → o ≠ .defd → h2.get b = some o := fun b o hg hne => by
    rw [d3 b (fun hm => hne (by have := (I.mark b hm).2; rw [hg] at this; exact Option.some.inj this))]; exact hg
  have a2 : Aft (entry h) h2 [] := I.aft.trans d2 fun i hi => .inr (I.mark i hi).1; have hN : GoesR h1 S h2 S := fun b _ hg hne hbS => ⟨hgd b _ hg hne, hbS⟩; obtain ⟨us', e1, e2⟩ := hps.ok I.lc hgd hN; have hrep := tup_rep e2; have hlow : h.next ≤ h2.low := a2.low h.next (Nat.le_refl _) (Nat.le_refl _) (by simp); refine ⟨he, h2, us', d1, e1, ?_⟩; unfold leftOf
  have hble : Nat.ble h.next h2.low = true := by rw [Nat.ble_eq]; exact hlow
  cases haf : af (tupled us') with
  | true =>
    rw [hble]
    exact ⟨Aft.refl _ _, hrep.anyAf haf, fun _ => rfl⟩
  | false =>
    refine ⟨⟨a2.next, fun b hb _ => a2.get b hb (by simp), fun x => a2.ok x, fun e h3 h4 _ => Nat.le_min.2 ⟨h3, Nat.le_trans h4 hlow⟩, fun b hb => .inl (a2.get b hb (by simp)), Nat.min_le_left _ _⟩, RepPV.nx (h := h2) (h' := { next := h2.next, low := min h.low h2.low, objs := h2.objs }) (fun _ _ a b => ⟨a, b⟩) hrep, fun hf => ?_⟩; rw [(hrep.flat hf).1] at haf; cases haf
end Go.Fs
