/- Parts of the proof: an evaluator of the model, what it is sound for, and contracts of functions. No condition. -/
import Derived.Test.YtedakjflddcbbaaGreatDoorP1
import Derived.RangeFuncRecord
import Derived.LoopNIn
import Derived.Test.YtedakjflddcbbaaGreatDoorP0
import Derived.KernelRfl
set_option linter.all false
namespace Go.Fs
open Go.RowKit (Below)
variable {P : Program}
section
variable {call : FuncId -> List Value -> Heap -> Option (Value × Heap)} {yield : Nat -> List Value -> Heap -> Option (Value × Heap)} {ops : Array Oper} {n : Nat} {st : Nat -> dO} {t0 : Tr} {h0 : Heap}
variable {S : Nat -> Prop} {ρ0 : Ren} {B : Nat} {w0 ws : World} {d0 : List Deferred}
theorem HR.empty {ρ : Ren} {S S1 : Nat -> Prop} {H : Heap} {w : World} (hr : HR P ρ S B w0 H w) (h1 : ∀ b, S1 b -> S b) {nx : Nat} (gA : ∀ b, S1 b -> b < nx) (wX : 0 < nx) :
    HR P ρ S1 B w0 { next := nx, low := nx, aA := [] } w where
  aA := fun i o hi => by cases hi
  inj := fun i j oi oj hi => by cases hi
  base := fun i o hi => by cases hi
  ro := fun i o hi => by cases hi
  ids := fun b hb => ⟨gA b hb, (hr.ids b (h1 b hb)).2⟩
  pos := wX
  below := hr.below
  drawn := hr.drawn
  size := hr.size
theorem aO.alE {ρ : Ren} {H : Heap} {w : World} {L : Nat} (hr : HR P ρ S B w0 H w) : tQ P B w0 ρ ρ S S H H L w w where
  agree := fun _ _ => rfl
  sub := fun _ hb => hb
  hr := hr
  frame := Frame.refl _ _ _
  keep := fun _ _ _ => rfl
  old := fun _ o ho _ => ⟨o, ho, rfl⟩
  fresh := fun i o ho hS => absurd (hr.aA i o ho).1 hS
theorem aaU (anZ : HR P ρ0 S B w0 h0 ws) (iJ : lH P B w0 call) (oM : fT P B w0 yield) (T : Trace (cP P call yield) ops n st t0 h0) (nL : nK ops) (p5 : DW ops) (hn : n <= 4000) (pN : J0 st ops)
    (jC : ∀ b, S b -> b < h0.next) (H6 : ∀ b o, h0.get b = some o -> S b) (adG : 0 < h0.next) {r : Option Nat} {nn : Nat} {Q : Exit -> Act -> World -> Prop}
    (k : ∀ E ρ H w a, (∀ i, i < ops.size -> E i = true) -> Inv P B w0 st ops n t0 h0 S ρ0 ws d0 E ρ H w a -> Q .normal a w) :
    ∀ (E : Nat -> Bool) (l : List Nat), AW ops E l -> ∀ ρ H w a, Inv P B w0 st ops n t0 h0 S ρ0 ws d0 E ρ H w a -> wpOpsIn (mI r) nn P ops Q l a w := by
  intro E l hs
  induction hs with
  | nil E fU => intro ρ H w a I; exact k E ρ H w a fU I
  | cons E i o l ho hE he _ ih =>
    intro ρ H w a I; have hi : i < ops.size := (Array.getElem?_eq_some_iff.1 ho).1; have xX := T.RM nL I.down ho he; have IM := I.tmp.look T nL p5 hn pN I.down ho hE he; have bK := LA IM
    have P0 : ∀ b, bR ops (st i).t o = some b -> Region.wanted o (yielded ops a.tmps) = b := fun b hb => IW (fun j want d hg hd => by
      refine IM d ?_; unfold Oper.looksAt; refine List.mem_append_right _ ?_; rw [hg]
      simp [hd]) hb
    have OT : h0.next <= (st i).h.next := by have := T.next 0 i (by omega) (by omega); rwa [T.zero] at this
    have E0 : ∀ b, SB st ops S i b -> b < (st i).h.next := T.YA jC (by omega) (T.OP nL i); simp only [wpOpsIn, ho]; have ao0 := (T.DT i o ho).2
    cases ao0 with
    | skip hw hp hh hs hm ht =>
      rw [if_neg (by rw [P0 _ hw]; simp)]; refine ⟨qW, ?_⟩; have zS : ¬ nB st ops i := fun h => h.2 (by rw [hs])
      exact ih ρ H w _ (I.quiet ho zS hh xX (fun _ _ => rfl) (aO.alE I.bY.hr) (I.tmp.put p5 hn I.down (fun _ _ => rfl) ho hE hp VR.undef) (put_defers _ _ _))
    | calm hw hc v h' cC gA hp hh hs hm ht =>
      rw [if_pos (P0 _ hw)]; have zS : ¬ nB st ops i := fun h => h.2 (by rw [hs]); have nD : ∀ b, SB st ops S i b -> SE st ops S E b := fun b hb => gS xX b hb; have sL := I.bY.hr.empty nD E0 (by omega : 0 < (st i).h.next); refine IV iJ oM sL bK cC fun cQ w1 v1 m hv => ?_
      have E2 := CC (H2 := H) (S2 := SE st ops S E) (L := min (st ops.size).h.low h0.next) I.bY.hr nD (fun b o' hg => by cases hg) sL m (fun b h1 h2 => by
          have h3 : (st i).h.next <= b := h1
          omega) (fun b => ⟨.inl, fun h => by
            rcases h with h | ⟨h1, h2⟩
            . exact h
            have h3 : (st i).h.next <= b := h1
            omega⟩) (fun b hb => (I.bY.hr.ids b hb).1) I.bY.hr.pos
        (fun b o' hb hg => absurd (I.bY.hr.aA b o' hg).1 hb) (fun b o' hb hg => .inr ⟨rfl, hg⟩) (fun b o' hb hg => absurd (I.bY.hr.aA b o' hg).1 hb) (fun _ _ _ => rfl)
      have fC : ∀ b, SE st ops S E b -> glue (SE st ops S E) ρ cQ b = ρ b := fun b hb => jV hb; refine ih _ H w1 _ (I.quiet ho zS hh xX fC E2 (I.tmp.put p5 hn I.down fC ho hE hp (hv.mono fun b hb => ?_)) (put_defers _ _ _)); rcases hb with hb | ⟨h1, h2⟩
      . exact ⟨gS (fun m hm => .inr hm) b hb, by rw [jV (nD b hb), m.agree b hb]⟩
      have h3 : (st i).h.next <= b := h1
      omega
    | still hw v aA hX cC hp hh hs hm ht =>
      rw [if_pos (P0 _ hw)]; have zS : ¬ nB st ops i := fun h => h.2 (by rw [hs]); have nD : ∀ b, SB st ops S i b -> SE st ops S E b := fun b hb => gS xX b hb; have hSb : ∀ b ob, look aA b = some ob -> S b := fun b ob hl => H6 b ob (hX b ob hl).1
      have VJ : ∀ b ob, look aA b = some ob -> H.get b = some ob := fun b ob hl => by
        obtain ⟨hX1, hX2, hX3⟩ := hX b ob hl; rcases hX3 with hX3 | hX3
        . rw [I.bY.keep b (hSb b ob hl) (by omega)]; exact hX1
        rcases I.mode with A | ⟨p, Bm⟩
        . rw [A.base b hX2]; exact hX1
        rw [Bm.get b]; exact hX3 p Bm.le
      have sL : HR P ρ (SB st ops S i) B w0 { next := (st i).h.next, low := (st i).h.next, aA := aA } w := {
        aA := fun c oc hc => by
          have hS := hSb c oc hc; refine ⟨.inl hS, ?_⟩; have h1 := (anZ.aA c oc (hX c oc hc).1).2; have h2 := (I.bY.hr.aA c oc (VJ c oc hc)).2; have h3 := I.bY.agree c hS; rw [<- h3] at h1; exact (h1.xV h2 I.bY.agree).mono fun c hc => ⟨.inl hc, I.bY.agree c hc⟩
        inj := fun c d oc od hc hd => I.bY.hr.inj c d oc od (VJ c oc hc) (VJ d od hd)
        base := fun c oc hc => I.bY.hr.base c oc (VJ c oc hc)
        ro := fun c oc hc => I.bY.hr.ro c oc (VJ c oc hc)
        ids := fun c hc => ⟨E0 c hc, (I.bY.hr.ids c (nD c hc)).2⟩
        pos := (by omega : 0 < (st i).h.next)
        below := I.bY.hr.below
        drawn := I.bY.hr.drawn
        size := I.bY.hr.size }
      refine IV iJ oM sL bK cC fun cQ w1 v1 m hv => ?_
      have E2 := CC (H2 := H) (S2 := SE st ops S E) (L := min (st ops.size).h.low h0.next) I.bY.hr nD (hm := { next := (st i).h.next, low := (st i).h.next, aA := aA }) VJ sL m (fun b h1 h2 => by
          have h3 : (st i).h.next <= b := h1; have h4 : b < (st i).h.next := h2
          omega) (fun b => ⟨.inl, fun h => by
            rcases h with h | ⟨h1, h2⟩
            . exact h
            have h3 : (st i).h.next <= b := h1; have h4 : b < (st i).h.next := h2
            omega⟩) (fun b hb => (I.bY.hr.ids b hb).1) I.bY.hr.pos
        (fun b o' hb hg => absurd (I.bY.hr.aA b o' hg).1 hb) (fun c oc hc hg => by
          cases hq : look aA c with
          | none => exact .inr ⟨hq, hg⟩
          | some o2 =>
            have h3 := VJ c o2 hq; rw [hg] at h3; injection h3 with h3; subst h3
            exact .inl ⟨by show look aA c ≠ none; rw [hq]; simp, hq⟩) (fun b o' hb hg => absurd (I.bY.hr.aA b o' hg).1 hb) (fun _ _ _ => rfl)
      have fC : ∀ b, SE st ops S E b -> glue (SE st ops S E) ρ cQ b = ρ b := fun b hb => jV hb; refine ih _ H w1 _ (I.quiet ho zS hh xX fC E2 (I.tmp.put p5 hn I.down fC ho hE hp (hv.mono fun b hb => ?_)) (put_defers _ _ _)); rcases hb with hb | ⟨h1, h2⟩
      . exact ⟨gS (fun m hm => .inr hm) b hb, by rw [jV (nD b hb), m.agree b hb]⟩
      have h3 : (st i).h.next <= b := h1; have h4 : b < (st i).h.next := h2
      omega
    | mem hw hc v h' ord iM lV cC hnn hp hm hs gA hk =>
      rw [if_pos (P0 _ hw)]; have VB : nB st ops i := ⟨hi, by rw [hs]; simp⟩; obtain ⟨sL, hgo⟩ := I.adF T nL jC H6 adG ho hE VB xX iM lV (v := v) gA hnn hk; refine IV iJ oM sL bK cC fun cQ w1 v1 m hv => ?_; obtain ⟨j8, H2, I2⟩ := hgo cQ w1 v1 (a.put o.dst v1) m hv (put_defers _ _ _) fun j8 fC xA => I.tmp.put p5 hn I.down fC ho hE hp xA; exact ih j8 H2 w1 _ I2
theorem Inv.end {E : Nat -> Bool} {ρ : Ren} {H : Heap} {w : World} {a : Act} {step : Oper -> (Operand -> Value) -> Heap -> Option (Value × Heap)} (T : Trace step ops n st t0 h0) (p5 : DW ops) (hn : n <= 4000)
    (jC : ∀ b, S b -> b < h0.next) (H6 : ∀ b o, h0.get b = some o -> S b) (I : Inv P B w0 st ops n t0 h0 S ρ0 ws d0 E ρ H w a) (fU : ∀ i, i < ops.size -> E i = true) :
    aO P B w0 ρ0 ρ S h0 (st ops.size).h ws w /\ kV ρ (Ext S h0 (st ops.size).h) (st ops.size).t n a.tmps := by
  have hM := I.bY; have q5 := hM.hr
  have OT : h0.next <= (st ops.size).h.next := by have := T.next 0 ops.size (by omega) (by omega); rwa [T.zero] at this
  have hSE : ∀ b, SE st ops S E b -> Ext S h0 (st ops.size).h b := fun b hb => by
    rcases hb with hb | ⟨m, h1, h2, h3⟩
    . exact .inl hb
    refine .inr ⟨T.OQ h2 h3, ?_⟩; have := T.next (m + 1) ops.size (by omega) (by omega); exact Nat.lt_of_lt_of_le h3.2 this
  have ak7 : ∀ b, SE st ops S E b -> b < h0.next -> S b := fun b hb b7 => by
    rcases hb with hb | ⟨m, h1, h2, h3⟩
    . exact hb
    have := T.OQ h2 h3; omega
  -- the same objects
  have gB : ∀ b, (st ops.size).h.get b = H.get b := fun b => by
    rcases I.mode with A | ⟨p, Bm⟩
    . have ht : (st ops.size).tail = false := by
        cases h : (st ops.size).tail with
        | false => rfl
        | true =>
          obtain ⟨k, h1, h2, h3⟩ := T.AZ ops.size (by omega) h; rw [A.calm k (fU k h1) h2] at h3; cases h3
      obtain ⟨sb1, sb2, sb3⟩ := T.OS (fun b o' hg => jC b (H6 b o' hg)) ops.size (by omega) ht; by_cases h1 : b < h0.next
      . rw [sb1 b h1, A.base b h1]
      by_cases h2 : b < (st ops.size).h.next
      . obtain ⟨m, h3, h4⟩ := T.cover ops.size (by omega) b (by omega) h2; rw [sb2 m h3 b h4, A.news m (fU m h3) h3 b h4]
      have e1 : (st ops.size).h.get b = none := by
        cases hq : (st ops.size).h.get b with
        | none => rfl
        | some o => have := sb3 b o hq; omega
      have e2 : H.get b = none := by
        cases hq : H.get b with
        | none => rfl
        | some o =>
          have h3 := hSE b (q5.aA b o hq).1; rcases h3 with h3 | h3
          . have := jC b h3; omega
          omega
      rw [e1, e2]
    rw [Bm.get b]
    have hqh : ∀ q, p <= q -> q <= ops.size -> (st q).h = (st p).h := fun q => by
      induction q with
      | zero => intro h1 _; have : p = 0 := by omega
                subst this; rfl
      | succ q ih =>
        intro h1 h2; by_cases hq : p = q + 1
        . subst hq; rfl
        have hqo : ops[q]? = some ops[q] := Array.getElem?_eq_getElem (by omega); rcases T.vZ q _ hqo with ⟨h3, _⟩ | ⟨_, _, _, h3, _⟩
        . exfalso; have := (Bm.all q h3).1 (fU q (by omega)); omega
        rw [h3]; exact ih (by omega) (by omega)
    rw [hqh ops.size Bm.le (Nat.le_refl _)]
  refine ⟨{
    agree := hM.agree
    next := OT
    hr := {
      aA := fun i o hi => by
        rw [gB] at hi; obtain ⟨h1, h2⟩ := q5.aA i o hi; exact ⟨hSE i h1, h2.mono fun b hb => ⟨hSE b hb, rfl⟩⟩
      inj := fun i j oi oj hi hj => by rw [gB] at hi hj; exact q5.inj i j oi oj hi hj
      base := fun i o hi => by rw [gB] at hi; exact q5.base i o hi
      ro := fun i o hi => by rw [gB] at hi; exact q5.ro i o hi
      ids := fun b hb => by
        rcases hb with hb | hb
        . have := jC b hb; exact ⟨by omega, (q5.ids b (hM.sub b hb)).2⟩
        obtain ⟨m, h3, h4⟩ := T.cover ops.size (by omega) b hb.1 hb.2; exact ⟨hb.2, (q5.ids b (.inr ⟨m, fU m h3, h3, h4⟩)).2⟩
      pos := by have := q5.pos; rwa [I.next] at this
      below := q5.below
      drawn := q5.drawn
      size := q5.size }
    frame := hM.frame
    low := by have := T.low 0 ops.size (by omega) (by omega); rwa [T.zero] at this
    keep := fun i hi hl => by
      rw [gB]; by_cases hS : S i
      . exact hM.keep i hS (by omega)
      have e1 : h0.get i = none := by
        cases hq : h0.get i with
        | none => rfl
        | some o => exact absurd (H6 i o hq) hS
      have e2 : H.get i = none := by
        cases hq : H.get i with
        | none => rfl
        | some o => exact absurd (ak7 i (q5.aA i o hq).1 hi) hS
      rw [e1, e2]
    old := fun i o hi b7 => by
      rw [gB] at hi; exact hM.old i o hi (ak7 i (q5.aA i o hi).1 b7)
    fresh := fun i o hi I9 => by
      rw [gB] at hi
      obtain ⟨h1, h2⟩ := hM.fresh i o hi fun hS => by have := jC i hS; omega
      refine ⟨h1, ?_⟩; rcases h2 with h2 | ⟨j, oj, h3, h4, h5, h6⟩
      . exact .inl h2
      have h7 := jC j (H6 j oj h3)
      exact .inr ⟨j, oj, h3, h4, h5, by omega, h7⟩ }, ?_⟩
  obtain ⟨t1, t2, t3⟩ := I.tmp; refine ⟨t1, hn, fun x => ?_⟩; by_cases hw : ∃ (j : Nat) (oj : Oper), ops[j]? = some oj /\ oj.dst = some x
  . obtain ⟨j, oj, hj, B0⟩ := hw; have VK : j < ops.size := (Array.getElem?_eq_some_iff.1 hj).1; rw [T.J2 p5 hn ops.size (Nat.le_refl _) j oj x VK hj B0]; exact (t2 j oj x (fU j VK) hj B0).mono fun b hb => ⟨hSE b (OU I.down (fU j VK) b hb), rfl⟩
  rw [T.CH hn ops.size (Nat.le_refl _) x fun j oj _ bD J3 => hw ⟨j, oj, bD, J3⟩]; exact (t3 x fun j oj _ bD J3 => hw ⟨j, oj, bD, J3⟩).mono fun b hb => ⟨.inl hb, rfl⟩
theorem J7 {ops : Array Oper} {x : Tmp} {j : Nat} {oj : Oper} (hj : ops[j]? = some oj) (hx : oj.dst = some x) : j ∈ O6 ops.toList x := by
  unfold O6; refine List.mem_filterMap.2 ⟨(oj, j), ?_, ?_⟩
  . rw [List.mem_zipIdx_iff_getElem?]; simpa using hj
  simp [hx]
theorem J8 {ops : Array Oper} (h : o8 ops = true) : nK ops /\ DW ops /\
    ∀ (i : Nat) (oi : Oper), ops[i]? = some oi -> ∀ x ∈ oi.looksAt ops, ∀ (j : Nat) (oj : Oper), ops[j]? = some oj -> oj.dst = some x ->
      j = i \/ ((BS ops.toList []).getD i 0).testBit j = true \/ ((BS ops.toList []).getD j 0).testBit i = true := by
  have key : ∀ (i : Nat) (o : Oper), ops[i]? = some o -> QY ops ops.toList (BS ops.toList []) o i = true := fun i o ho => by
    unfold o8 at h; have := List.all_eq_true.1 h (o, i) (by rw [List.mem_zipIdx_iff_getElem?]; simpa using ho); exact this
  refine ⟨fun i o ho e he hb => ?_, fun i j oi oj d hi hj hdi hdj => ?_, fun i oi hi x hx j oj hj B0 => ?_⟩
  . have := key i o ho; unfold QY at this; obtain ⟨h1, _⟩ := aY this; obtain ⟨h2, _⟩ := aY h1; have := List.all_eq_true.1 h2 e he; rw [hb] at this; exact jB (by simpa using this)
  . have := key i oi hi; unfold QY at this; obtain ⟨h1, _⟩ := aY this; obtain ⟨_, h2⟩ := aY h1; rw [hdi] at h2; exact bI (List.all_eq_true.1 h2 j (J7 hj hdj))
  have := key i oi hi; unfold QY at this; obtain ⟨_, h1⟩ := aY this; have h2 := List.all_eq_true.1 (List.all_eq_true.1 h1 x hx) j (J7 hj B0); simp only [Bool.or_eq_true] at h2; rcases h2 with (h2 | h2) | h2
  . exact .inl (bI h2)
  . exact .inr (.inl h2)
  exact .inr (.inr h2)
theorem G0 {step : Oper -> (Operand -> Value) -> Heap -> Option (Value × Heap)} (T : Trace step ops n st t0 h0) : ∀ (l : List Oper) (i : Nat), l = ops.toList.drop i -> i <= ops.size -> BS l (st i).bs = (st ops.size).bs
  | [], i, hl, hi => by
    have : ops.size <= i := by
      have := congrArg List.length hl; simp at this; omega
    have : i = ops.size := by omega
    subst this; rfl
  | o :: r, i, hl, hi => by
    have b7 : i < ops.size := by
      have := congrArg List.length hl; simp at this; omega
    have ho : ops[i]? = some o := by
      have := congrArg (·[0]?) hl; simpa using this.symm
    have hr : r = ops.toList.drop (i + 1) := by
      have := congrArg List.tail hl; simpa using this
    simp only [BS]; rw [<- (T.DT i o ho).1]; exact G0 T r (i + 1) hr (by omega)
theorem wA (iJ : lH P B w0 call) (oM : fT P B w0 yield) (bD : o8 ops = true) {s : dO} (hf : ∃ st, Trace (cP P call yield) ops n st t0 h0 /\ st ops.size = s)
    {w : World} {a : Act} (hr : HR P ρ0 S B w0 h0 w) (ht : kV ρ0 S t0 n a.tmps) {r : Option Nat} {nn : Nat} {Q : Exit -> Act -> World -> Prop}
    (k : ∀ bN w' a', aO P B w0 ρ0 bN S h0 s.h w w' -> kV bN (Ext S h0 s.h) s.t n a'.tmps -> a'.defers = a.defers -> Q .normal a' w') (t : Nat) :
    wpOpsIn (mI r) nn P ops Q (Region.schedule true ops t) a w := by
  obtain ⟨nL, p5, ao1⟩ := J8 bD; obtain ⟨st, T, hs⟩ := hf; have jC : ∀ b, S b -> b < h0.next := fun b hb => (hr.ids b hb).1; have H6 : ∀ b o, h0.get b = some o -> S b := fun b o hg => (hr.aA b o hg).1
  have VM : BS ops.toList [] = (st ops.size).bs := by
    have := G0 T ops.toList 0 (by simp) (by omega)
    rwa [T.zero] at this
  have pN : J0 st ops := fun i oi hi x hx j oj hj B0 => by
    have h1 := ao1 i oi hi x hx j oj hj B0; have qU : i < ops.size := (Array.getElem?_eq_some_iff.1 hi).1; have OE : j < ops.size := (Array.getElem?_eq_some_iff.1 hj).1; rw [VM, (T.bs ops.size (Nat.le_refl _)).2 i qU, (T.bs ops.size (Nat.le_refl _)).2 j OE] at h1; exact h1
  have ao2 : SE st ops S (fun _ => false) = S := funext fun b => propext ⟨fun hb => (by
    rcases hb with hb | ⟨m, h1, _⟩
    . exact hb
    cases h1), fun hb => .inl hb⟩
  refine aaU (ρ0 := ρ0) (ws := w) (d0 := a.defers) hr iJ oM T nL p5 ht.2.1 pN jC H6 hr.pos (fun E ρ H w' a' fU I => ?_) _ _ (V8 nL t) ρ0 { next := (st ops.size).h.next, low := 0, aA := h0.aA } w a
    ⟨?_, .inl ⟨fun k hk => (by cases hk), fun b _ => rfl, fun k hk => (by cases hk), fun b o hb hg => (hr.aA b o hg).2, fun k hk => (by cases hk)⟩, ⟨ht.1, fun k o d hk => (by cases hk), fun d _ => ht.2.2 d⟩, rfl, rfl, fun k hk => (by cases hk)⟩
  . obtain ⟨h1, h2⟩ := I.end T p5 ht.2.1 jC H6 fU; rw [hs] at h1 h2; exact k ρ w' a' h1 h2 I.defers
  have OT : h0.next <= (st ops.size).h.next := by have := T.next 0 ops.size (by omega) (by omega); rwa [T.zero] at this
  rw [ao2]
  exact {
    agree := fun _ _ => rfl
    sub := fun _ hb => hb
    hr := { aA := hr.aA, inj := hr.inj, base := hr.base, ro := hr.ro, ids := fun b hb => ⟨Nat.lt_of_lt_of_le (hr.ids b hb).1 OT, (hr.ids b hb).2⟩, pos := Nat.lt_of_lt_of_le hr.pos OT, below := hr.below, drawn := hr.drawn, size := hr.size }
    frame := Frame.refl _ _ _
    keep := fun _ _ _ => rfl
    old := fun i o ho _ => ⟨o, ho, rfl⟩
    fresh := fun i o ho hS => absurd (hr.aA i o ho).1 hS }
theorem aaV (iJ : lH P B w0 call) (oM : fT P B w0 yield) (bD : o8 ops = true) {s : dO} (hf : kM (cP P call yield) ops n ops.toList 0 ⟨t0, h0, [], [], 0, false⟩ = some s)
    {w : World} {a : Act} (hr : HR P ρ0 S B w0 h0 w) (ht : kV ρ0 S t0 n a.tmps) {r : Option Nat} {nn : Nat} {Q : Exit -> Act -> World -> Prop}
    (k : ∀ bN w' a', aO P B w0 ρ0 bN S h0 s.h w w' -> kV bN (Ext S h0 s.h) s.t n a'.tmps -> a'.defers = a.defers -> Q .normal a' w') (t : Nat) :
    wpOpsIn (mI r) nn P ops Q (Region.schedule true ops t) a w := wA iJ oM bD (aaQ hf) hr ht k t
theorem VN (iJ : lH P B w0 call) (oM : fT P B w0 yield) (bD : o8 ops = true) {s : dO} (hf : HQ P h0 (cP P call yield) ops n ⟨t0, h0, [], [], 0, false⟩ = some s)
    {w : World} {a : Act} (hr : HR P ρ0 S B w0 h0 w) (ht : kV ρ0 S t0 n a.tmps) {r : Option Nat} {nn : Nat} {Q : Exit -> Act -> World -> Prop}
    (k : ∀ bN w' a', aO P B w0 ρ0 bN S h0 s.h w w' -> kV bN (Ext S h0 s.h) s.t n a'.tmps -> a'.defers = a.defers -> Q .normal a' w') (t : Nat) :
    wpOpsIn (mI r) nn P ops Q (Region.schedule true ops t) a w := wA iJ oM bD (V9 hf) hr ht k t
end
end Go.Fs
namespace Go.Fs
open Go.RowKit (Below)
variable {P : Program} {ρ bN : Ren} {S S' : Nat -> Prop} {B : Nat} {w0 w w' w1 w2 : World} {h h' h1 h2 : Heap}
theorem HR.same (hr : HR P ρ S B w0 h w) (hg : ∀ i, h'.get i = h.get i) (hn : h'.next = h.next) : HR P ρ S B w0 h' w where
  aA := fun i o hi => hr.aA i o (by rw [<- hg]; exact hi)
  inj := fun i j oi oj hi hj => hr.inj i j oi oj (by rw [<- hg]; exact hi) (by rw [<- hg]; exact hj)
  base := fun i o hi => hr.base i o (by rw [<- hg]; exact hi)
  ro := fun i o hi => hr.ro i o (by rw [<- hg]; exact hi)
  ids := fun b hb => by rw [hn]; exact hr.ids b hb
  pos := by rw [hn]; exact hr.pos
  below := hr.below
  drawn := hr.drawn
  size := hr.size
theorem Ext.adJ {g g' : Heap} (h1 : g.next = h.next) (h2 : g'.next = h'.next) : Ext S g g' = Ext S h h' := by
  funext b; unfold Ext; rw [h1, h2]
theorem aO.alF {g g' : Heap} (m : aO P B w0 ρ bN S g g' w w') (hg : ∀ i, h.get i = g.get i) (hn : h.next = g.next) (iN : ∀ i, h'.get i = g'.get i) (hn' : h'.next = g'.next)
    (hl : h'.low <= g'.low) (iT : h'.low <= h.low) : aO P B w0 ρ bN S h h' w w' where
  agree := m.agree
  next := by rw [hn, hn']; exact m.next
  hr := by
    rw [Ext.adJ hn hn']; exact m.hr.same iN hn'
  frame := ⟨m.frame.os, m.frame.tape, m.frame.output, m.frame.size, fun k hk mR => m.frame.block k hk fun i o hi ho => mR i o (by rw [hg]; exact hi) ho⟩
  low := iT
  keep := fun i hi dK => by rw [hg, iN]; exact m.keep i (by omega) (by omega)
  old := fun i o hi b7 => by
    obtain ⟨o', h1, h2⟩ := m.old i o (by rw [<- iN]; exact hi) (by omega); exact ⟨o', by rw [hg]; exact h1, h2⟩
  fresh := fun i o hi I9 => by
    obtain ⟨h1, hf⟩ := m.fresh i o (by rw [<- iN]; exact hi) (by omega); refine ⟨h1, ?_⟩; rcases hf with hf | ⟨j, oj, h3, h4, h5, h6, h7⟩
    . exact .inl hf
    exact .inr ⟨j, oj, by rw [hg]; exact h3, h4, h5, by omega, by omega⟩
theorem aO.forget {g : Heap} (hr : HR P ρ S B w0 g w) (m : aO P B w0 ρ bN S h h1 w w') (dK : h.next <= h1.low) (hg : ∀ i, g.get i = h.get i) (hn : g.next = h.next) : aO P B w0 ρ ρ S g g w w' where
  agree := fun _ _ => rfl
  next := Nat.le_refl _
  hr := HR.congr (S := S) {
    aA := fun i o hi => by
      obtain ⟨h3, h4⟩ := hr.aA i o hi; have b7 := (hr.ids i h3).1
      have hk : h1.get i = some o := by rw [m.keep i (by omega) (by omega), <- hg]; exact hi
      have h5 := (m.hr.aA i o hk).2; rw [m.agree i h3] at h5; exact ⟨h3, h4.xV h5 m.agree⟩
    inj := hr.inj
    base := hr.base
    ro := hr.ro
    ids := hr.ids
    pos := hr.pos
    below := m.hr.below
    drawn := m.hr.drawn
    size := m.hr.size } fun b => (Ext.s7 rfl b).symm
  frame := ⟨m.frame.os, m.frame.tape, m.frame.output, m.frame.size, fun k hk mR => m.frame.block k hk fun i o hi ho => mR i o (by rw [hg]; exact hi) ho⟩
  low := Nat.le_refl _
  keep := fun _ _ _ => rfl
  old := fun i o ho _ => ⟨o, ho, rfl⟩
  fresh := fun i o ho hi => by
    have := (hr.ids i (hr.aA i o ho).1).1; omega
theorem aO.dropped (hr : HR P ρ S B w0 h w) {i : Nat} {o : aX} (hi : h.get i = some o) (ho : iB o = true)
    (H3 : w'.os = w.os) (ht : w'.tape = w.tape) (xL : w'.output = w.output) (cX : w'.heap.size = w.heap.size) (rM : ∀ k, k ≠ (ρ i).block -> w'.heap[k]? = w.heap[k]?)
    (hd : w.drawn <= w'.drawn := by first | exact Nat.le_refl _ | exact Nat.le_succ _) : aO P B w0 ρ ρ S h (h.drop i) w w' where
  agree := fun _ _ => rfl
  next := Nat.le_refl _
  hr := HR.congr (S := S) {
    aA := fun j oj hj => by
      rw [Heap.cM] at hj; split at hj
      . cases hj
      rename_i e; obtain ⟨h1, h2⟩ := hr.aA j oj hj; refine ⟨h1, h2.world (rM _ fun he => ?_)⟩; by_cases jT : iB oj = true
      . exact e (hr.inj j i oj o hj hi jT ho he)
      have := hr.ro j oj hj (by simpa using jT); have := hr.base i o hi ho; omega
    inj := fun a b oa ob ha hb => by
      rw [Heap.cM] at ha hb; split at ha
      . cases ha
      split at hb
      . cases hb
      exact hr.inj a b oa ob ha hb
    base := fun j oj hj => by
      rw [Heap.cM] at hj; split at hj
      . cases hj
      exact hr.base j oj hj
    ro := fun j oj hj => by
      rw [Heap.cM] at hj; split at hj
      . cases hj
      exact hr.ro j oj hj
    ids := hr.ids
    pos := hr.pos
    drawn := Nat.le_trans hr.drawn hd
    below := ⟨H3.trans hr.below.os, ht.trans hr.below.tape, xL.trans hr.below.output, by rw [cX]; exact hr.below.size, fun k hk => by
      rw [rM k (fun e => by have := hr.base i o hi ho; omega)]; exact hr.below.block k hk⟩
    size := by rw [cX]; exact hr.size } fun b => (Ext.s7 rfl b).symm
  frame := ⟨H3, ht, xL, by rw [cX]; exact Nat.le_refl _, fun k _ mR => rM k (Ne.symm (mR i o hi ho))⟩
  low := Nat.min_le_left _ _
  keep := fun j _ hl => by
    have R4 : min h.low i <= i := Nat.min_le_right _ _; have b7 : j < min h.low i := hl; rw [Heap.cM, if_neg (by omega)]
  old := fun j oj hj _ => by
    rw [Heap.cM] at hj; split at hj
    . cases hj
    exact ⟨oj, hj, rfl⟩
  fresh := fun j oj hj I9 => by
    rw [Heap.cM] at hj; split at hj
    . cases hj
    have := (hr.ids j (hr.aA j oj hj).1).1; have : h.next <= j := I9; omega
def p6 (ρ : Ren) (S : Nat -> Prop) (marks : List Nat) (ds : List Deferred) : Prop := ds = marks.map (fun d => ({ target := .collected (ρ d).block, args := #[] } : Deferred)) /\ ∀ d ∈ marks, S d
theorem p6.mono {marks : List Nat} {ds : List Deferred} (hm : p6 ρ S marks ds) (hs : ∀ b, S b -> S' b /\ bN b = ρ b) : p6 bN S' marks ds := by
  refine ⟨?_, fun d hd => (hs d (hm.2 d hd)).1⟩; rw [hm.1]
  exact List.map_congr_left fun d hd => by rw [(hs d (hm.2 d hd)).2]
theorem Ext.self {b : Nat} (hb : S b) : Ext S h h' b := .inl hb
theorem A6 {fn : Func} {tmps : Array Value} {R : Ending -> World -> Prop} {F : Fence} {n : Nat} : ∀ (marks : List Nat) (S : Nat -> Prop) (h : Heap) (w : World) (ds : List Deferred), HR P ρ S B w0 h w -> p6 ρ S marks ds ->
    j9 marks h = some h2 -> (∀ w', aO P B w0 ρ ρ S h h2 w w' -> LeavesInM F n P fn tmps R [] .returning w') -> LeavesInM F n P fn tmps R ds .returning w
  | [], S, h, w, ds, hr, hm, hd, k => by
    simp only [j9, Option.some.injEq] at hd; subst hd; rw [hm.1]
    exact k w (aO.same hr)
  | d :: r, S, h, w, ds, hr, hm, hd, k => by
    simp only [j9] at hd; split at hd
    . rename_i hg; have kZ : w.heap[(ρ d).block]? = some (.deferred (some [])) := (hr.aA d _ hg).2; have b7 : (ρ d).block < w.heap.size := (Array.getElem?_eq_some_iff.1 kZ).1; have m := aO.dropped (w' := w.putObj (ρ d).block (.deferred none)) hr hg rfl rfl rfl rfl World.putObj_size (fun k hk => World.putObj_heap_other hk); rw [hm.1]; simp only [List.map_cons, LeavesInM]; refine ⟨by simp, .inl ⟨(ρ d).block, _, rfl, run_takeDeferred kZ, ?_⟩⟩; refine A6 r (Ext S h (h.drop d)) (h.drop d) _ _ m.hr ⟨rfl, fun x hx => .inl (hm.2 x (List.mem_cons_of_mem _ hx))⟩ hd fun w' m' => k w' (m.trans m')
    cases hd
def P1 (tmps : Array Value) : ResultVar -> Sem Value
  | .tmp t => pure (tmps.getD t undef)
  | .cell a t => do loadVar t (<- asAddr (tmps.getD a undef))
theorem RP (fn : Func) (tmps : Array Value) : results fn tmps = (do
    let vs <- fn.results.mapM (P1 tmps)
    pure (if h : vs.size = 1 then vs[0] else .tuple vs)) := rfl
theorem VP {t : Tr} {n : Nat} {tmps : Array Value} {rv : ResultVar} {v : Value} (hr : HR P ρ S B w0 h w) (ht : kV ρ S t n tmps) (hf : uO P t h rv = some v) :
    ∃ v', (P1 tmps rv).run P w = .ok v' w /\ VR ρ S v v' := by
  have gB : ∀ i, tmps.getD i undef = tmps.toList.getD i undef := fun i => by simp [Array.getD_eq_getD_getElem?, List.getD_eq_getElem?_getD]
  cases rv with
  | tmp i =>
    simp only [uO, Option.some.injEq] at hf; subst hf
    exact ⟨_, rfl, by rw [gB]; exact ht.2.2 i⟩
  | cell a ty =>
    simp only [uO] at hf; have hv := ht.2.2 a; rw [<- gB] at hv; obtain ⟨v', h1, h2⟩ := IC hr hf hv; refine ⟨v', ?_, h2⟩; unfold eO at hf; split at hf
    . rename_i b o hb; rw [hb] at hv; obtain ⟨_, he⟩ := hv.oW; simp only [P1, he] at h1 ⊢; simpa [Instr.loadAt, Instr.sureAddr, asAddr] using h1
    cases hf
theorem G1 {t : Tr} {n : Nat} {tmps : Array Value} (hr : HR P ρ S B w0 h w) (ht : kV ρ S t n tmps) : ∀ (rs : List ResultVar) (vs : List Value), iH P t h rs = some vs ->
    ∃ gZ, (rs.mapM (P1 tmps)).run P w = .ok gZ w /\ LR ρ S vs gZ
  | [], vs, hf => by
    simp only [iH, Option.some.injEq] at hf; subst hf
    exact ⟨[], rfl, LR.nil⟩
  | r :: rs, vs, hf => by
    simp only [iH] at hf; split at hf
    . rename_i v OZ hv uQ; simp only [Option.some.injEq] at hf; subst hf; obtain ⟨v', h1, h2⟩ := VP hr ht hv; obtain ⟨gZ, h3, h4⟩ := G1 hr ht rs OZ uQ; refine ⟨v' :: gZ, ?_, LR.cons h2 h4⟩; rw [List.mapM_cons]; simp only [Sem.run_bind, h1, Result.andThen_ok, h3, Sem.run_pure]
    cases hf
theorem VQ {vs gZ : List Value} (hv : LR ρ S vs gZ) : VR ρ S (iA vs) (if h : gZ.toArray.size = 1 then gZ.toArray[0] else .tuple gZ.toArray) := by
  have hl := hv.1
  match vs, gZ, hl with
  | [], [], _ => exact VR.undef
  | [v], [v'], _ => exact hv.2 0 (by simp)
  | v1 :: v2 :: r, u1 :: u2 :: r', _ =>
    rw [dif_neg (by simp)]; exact VR.tuple' (by simpa [iA] using hv)
theorem J9 {fn : Func} {t : Tr} {n : Nat} {tmps : Array Value} {vs : List Value} (hr : HR P ρ S B w0 h w) (ht : kV ρ S t n tmps) (hf : iH P t h fn.results.toList = some vs) :
    ∃ v', (results fn tmps).run P w = .ok v' w /\ VR ρ S (iA vs) v' := by
  obtain ⟨gZ, h1, h2⟩ := G1 hr ht _ _ hf; refine ⟨_, ?_, VQ h2⟩; rw [RP, Array.mapM_eq_mapM_toList]; simp only [Sem.run_bind, Sem.run_map, h1, Result.andThen_ok, Sem.run_pure]
end Go.Fs
namespace Go.Fs
open Go.RowKit (Below)
variable {P : Program} {ρ bN : Ren} {S S' : Nat -> Prop} {B : Nat} {w0 w w' w1 w2 : World} {h h' h1 h2 : Heap}
def RQ : Ex -> Exit
  | .normal => .normal
  | .exit id => .exit id
  | .ret => .ret
def wpX (m : Nat) (F : Fence) (n : Nat) (P : Program) (c : Code) (Q : Exit -> Act -> World -> Prop) (a : Act) (w : World) : Prop :=
  match c with
  | .loop b => Code.roundsIn F n P b Q m a w
  | c => c.wpIn F n P Q a w
theorem wpX.wpIn {m : Nat} {F : Fence} {n : Nat} {c : Code} {Q : Exit -> Act -> World -> Prop} {a : Act} {w : World} (h : wpX m F n P c Q a w) : c.wpIn F n P Q a w := by
  cases c with
  | loop b => exact wpIn_loop_rounds m h
  | _ => exact h
def tR (ρ : Ren) (aV : Option Nat) : Fence := mI (aV.map fun l => (ρ l).block)
structure p7 (P : Program) (B : Nat) (w0 : World) (ρ bN : Ren) (S : Nat -> Prop) (h : Heap) (w : World) (jF : Fr) (h' : Heap) (w' : World) (a' : Act) : Prop where
  bY : aO P B w0 ρ bN S h h' w w'
  tmps : kV bN (Ext S h h') jF.t jF.n a'.tmps
  marks : p6 bN (Ext S h h') jF.marks a'.defers
def nS (P : Program) (B : Nat) (w0 : World) (m : Nat) (rec : Rec) : Prop := ∀ aV c fr h e jF h', codeOk c = true -> rec aV c fr h = some (e, jF, h') ->
  ∀ ρ S w a nn Q, HR P ρ S B w0 h w -> kV ρ S fr.t fr.n a.tmps -> p6 ρ S fr.marks a.defers -> (∀ l, aV = some l -> S l) ->
    (∀ bN w' a', p7 P B w0 ρ bN S h w jF h' w' a' -> Q (RQ e) a' w') -> wpX m (tR ρ aV) nn P c Q a w
theorem RR {aV : Option Nat} (hs : ∀ l, aV = some l -> S l) (fC : ∀ b, S b -> bN b = ρ b) : tR bN aV = tR ρ aV := by
  cases aV with
  | none => rfl
  | some l => simp [tR, fC l (hs l rfl)]
theorem p7.trans {cQ j8 : Ren} {fr1 DJ : Fr} {a1 a2 : Act} (p : aO P B w0 ρ cQ S h h1 w w1) (q : p7 P B w0 cQ j8 (Ext S h h1) h1 w1 DJ h2 w2 a2) : p7 P B w0 ρ j8 S h w DJ h2 w2 a2 where
  bY := p.trans q.bY
  tmps := q.tmps.mono fun b hb => ⟨Ext.trans' p.next q.bY.next hb, rfl⟩
  marks := q.marks.mono fun b hb => ⟨Ext.trans' p.next q.bY.next hb, rfl⟩
theorem EP : ∀ (vs : List Value) (t : Tr) (i : Nat), i + vs.length <= 4000 -> ∀ j, (iS t i vs).get j = if j < i then t.get j else if j < i + vs.length then vs.getD (j - i) undef else t.get j
  | [], t, i, _, j => by simp only [iS, List.length_nil, Nat.add_zero]; split <;> simp_all
  | v :: r, t, i, hl, j => by
    simp only [List.length_cons] at hl; simp only [iS]; rw [EP r _ (i + 1) (by omega), Tr.dB depth t i v j (by have : 2 ^ depth = 8192 := rfl; omega)]; simp only [List.length_cons]; by_cases h1 : j < i
    . rw [if_pos (by omega), if_neg (by omega), if_pos h1]
    by_cases h2 : j = i
    . subst h2; rw [if_pos (by omega), if_pos rfl, if_neg h1, if_pos (by omega), Nat.sub_self]; rfl
    rw [if_neg (by omega), if_neg h1]; by_cases h3 : j < i + 1 + r.length
    . rw [if_pos h3, if_pos (by omega), show j - i = (j - (i + 1)) + 1 by omega]; rfl
    rw [if_neg h3, if_neg h2, if_neg (by omega)]
theorem aaW (i : Nat) : Tr.leaf.get i = undef := rfl
theorem RS {n : Nat} {args args' : List Value} (hn : n <= 4000) (hl : args.length <= n) (ha : LR ρ S args args') :
    kV ρ S (iS .leaf 0 args) n (args'.toArray ++ Array.replicate (n - args'.toArray.size) undef) := by
  have h0 := ha.1; refine ⟨by simp; omega, hn, fun i => ?_⟩; rw [EP args .leaf 0 (by omega), if_neg (by omega), aaW, Nat.sub_zero, Nat.zero_add]; simp only [Array.toList_append, Array.toList_replicate, List.getD_eq_getElem?_getD, List.getElem?_append]; by_cases hi : i < args.length
  . rw [if_pos hi, if_pos (by omega)]; have := ha.2 i hi
    rwa [List.getD_eq_getElem?_getD, List.getD_eq_getElem?_getD] at this
  rw [if_neg hi, if_neg (by omega), List.getElem?_replicate]; split
  . exact VR.undef
  exact VR.undef
structure kK (P : Program) : Prop where
  mixed : P.follows .mixedOrders = true
  name : ∀ (f : FuncId) (fn : Func), P.funcs[f]? = some fn -> fn.body.isNone = false -> (fn.name == "runtime.NumGoroutine") = false
  code : ∀ (f : FuncId) (fn : Func) (c : Code), P.funcs[f]? = some fn -> fn.body = some c -> codeOk c = true
theorem A7 (hP : kK P) {m : Nat} {rec : Rec} {k : Bool} (jX : nS P B w0 m rec) : bX P B w0 (kN P k rec) := by
  intro f args h v h' hf; unfold kN at hf; split at hf
  . rename_i fn lB; split at hf
    . rename_i c hc; refine ⟨⟨fn, lB, by rw [hc]; rfl, hP.name f fn lB (by rw [hc]; rfl)⟩, fun ρ S w args' hr ha n => ?_⟩
      cases hb : (Nat.blt 4000 fn.ntmps || Nat.blt fn.ntmps args.length) with
      | true => rw [hb] at hf; cases hf
      | false =>
        rw [hb] at hf; simp only [cond_false] at hf
        have C7 : Nat.blt 4000 fn.ntmps = false /\ Nat.blt fn.ntmps args.length = false := by simpa using hb
        have hn : fn.ntmps <= 4000 := by have := gR C7.1; omega
        have hl : args.length <= fn.ntmps := by have := gR C7.2; omega
        split at hf
        . rename_i e fr h1 eZ; obtain ⟨hgo, cO⟩ := aL hf; clear hf; split at cO
          . rename_i h2 alG; split at cO
            . rename_i vs uQ; have hrb : HR P ρ S B w0 { next := h.next, low := h.next, aA := h.aA } w := hr.same (fun _ => rfl) rfl; refine callsIn_of_wp_marks lB hc trivial ?_
              have hw := (jX none c _ _ _ _ _ (hP.code f fn c lB hc) eZ ρ S w { tmps := args'.toArray ++ Array.replicate (fn.ntmps - args'.toArray.size) undef, defers := [] } n
                (bodyPostM Fence.wide n P fn (wW P B w0 ρ S h w v h')) hrb (RS hn hl ha) ⟨rfl, fun d hd => by cases hd⟩ (fun l hl => by cases hl) fun cQ w1 a1 p1 => ?_).wpIn
              . exact hw
              have YB : LeavesInM Fence.wide n P fn a1.tmps (wW P B w0 ρ S h w v h') a1.defers .returning w1 := by
                refine A6 fr.marks _ h1 w1 a1.defers p1.bY.hr p1.marks alG fun w2 m2 => ?_; have htm := p1.tmps.mono (fun b hb => (⟨Ext.self (h := h1) (h' := h2) hb, rfl⟩ : Ext _ h1 h2 b /\ cQ b = cQ b)); obtain ⟨v', B2, xA⟩ := J9 m2.hr htm uQ; refine ⟨v', B2, ?_⟩; have m3 := p1.bY.trans m2; have CJ := xA.mono (fun b hb => (⟨Ext.trans' p1.bY.next m2.next hb, rfl⟩ : Ext S { next := h.next, low := h.next, aA := h.aA } h2 b /\ cQ b = cQ b))
                cases hq : (!k && (af (iA vs) && Nat.ble h.next h2.low)) with
                | true =>
                  rw [hq] at cO; simp only [cond_true, Option.some.injEq, Prod.mk.injEq] at cO; obtain ⟨rfl, rfl⟩ := cO; obtain ⟨q1, q2⟩ := aY (aY hq).2; have q2 := dY q2; refine ⟨ρ, m3.forget hr q2 (fun _ => rfl) rfl, ?_⟩
                  rw [CJ.dH q1]; exact .mF q1
                | false =>
                  rw [hq] at cO; simp only [cond_false, Option.some.injEq, Prod.mk.injEq] at cO; obtain ⟨rfl, rfl⟩ := cO; exact ⟨cQ, m3.alF (fun _ => rfl) rfl (fun _ => rfl) rfl (Nat.min_le_right _ _) (Nat.min_le_left _ _), CJ⟩
              cases e with
              | normal => exact YB
              | ret => exact YB
              | exit id => cases hgo
            cases cO
          cases cO
        cases hf
    cases hf
  cases hf
theorem CK (hP : kK P) {m : Nat} {rec : Rec} (jX : nS P B w0 m rec) : bX P B w0 (nH P rec) := A7 hP jX
theorem JA {n : Nat} : ∀ (ps : List Tmp) (args args' : List Value) (t t' : Tr) (tmps : Array Value), kV ρ S t n tmps -> LR ρ S args args' -> qL n t (ps.zip args) = some t' ->
    kV ρ S t' n ((ps.zip args').foldl (fun tmps p => tmps.setIfInBounds p.1 p.2) tmps)
  | [], args, args', t, t', tmps, ht, _, hs => by
    simp only [List.zip_nil_left, qL, Option.some.injEq] at hs; subst hs
    simpa using ht
  | p :: ps, [], args', t, t', tmps, ht, ha, hs => by
    have : args' = [] := List.eq_nil_of_length_eq_zero ha.1.symm; subst this; simp only [List.zip_nil_right, qL, Option.some.injEq] at hs; subst hs
    simpa using ht
  | p :: ps, v :: args, [], t, t', tmps, ht, ha, hs => by have := ha.1; simp at this
  | p :: ps, v :: args, v' :: args', t, t', tmps, ht, ha, hs => by
    simp only [List.zip_cons_cons, qL] at hs; split at hs
    . rename_i t1 hp; have hv : VR ρ S v v' := ha.2 0 (by simp); have VS : LR ρ S args args' := ⟨by have := ha.1; simpa using this, fun i hi => by have := ha.2 (i + 1) (by simp; omega); simpa using this⟩; have h1 := ht.put hp hv []; simp only [List.zip_cons_cons, List.foldl_cons]; exact JA ps args args' t1 t' _ h1 VS hs
    cases hs
theorem uV {l : Nat} {st : LoopState} {jump : Option Code} {tmps : Tr} {n d : Nat} {params : Array Tmp} {assign body : Code} (hr : HR P ρ S B w0 h w) (hg : h.get l = some (.dJ st jump tmps n params assign body d)) :
    S l /\ S d /\ ∃ fn jA, w.heap[(ρ l).block]? = some (.loop ⟨st, jump, fn, jA, params, assign, body, (ρ d).block⟩) /\ kV ρ S tmps n jA /\ codeOk assign = true /\ codeOk body = true := by
  obtain ⟨h1, h2, fn, jA, h3, h4, h5⟩ := hr.aA l _ hg; exact ⟨h1, h2, fn, jA, h3, h4, (aY h5).1, (aY h5).2⟩
theorem ER {l : Nat} {st st' : LoopState} {jump jump' : Option Code} {tmps : Tr} {n d : Nat} {params : Array Tmp} {assign body : Code} {fn : FuncId} {jA : Array Value} (hr : HR P ρ S B w0 h w)
    (hg : h.get l = some (.dJ st jump tmps n params assign body d)) (hw : w.heap[(ρ l).block]? = some (.loop ⟨st, jump, fn, jA, params, assign, body, (ρ d).block⟩)) :
    aO P B w0 ρ ρ S h (h.set l (.dJ st' jump' tmps n params assign body d)) w (w.putObj (ρ l).block (.loop ⟨st', jump', fn, jA, params, assign, body, (ρ d).block⟩)) := by
  obtain ⟨h1, h2, fn0, tm0, h3, h4, h5⟩ := hr.aA l _ hg; rw [hw] at h3; simp only [Option.some.injEq, Obj.loop.injEq, Loop.mk.injEq, true_and, and_true] at h3; obtain ⟨rfl, rfl⟩ := h3
  exact aO.set hr hg rfl rfl rfl rfl rfl World.putObj_size (fun k hk => World.putObj_heap_other hk)
    ⟨h2, fn, jA, World.putObj_heap_same (Array.getElem?_eq_some_iff.1 hw).1, h4, h5⟩
theorem CL {m : Nat} {rec : Rec} (jX : nS P B w0 m rec) : fT P B w0 (dW rec) := by
  intro l args h v h' hf ρ S w args' hr ha hl; unfold dW at hf; split at hf
  . rename_i apV tmps n params assign body d0 hg; obtain ⟨hS, hSd, fn, jA, hw, ht, hca, hcb⟩ := uV hr hg; obtain ⟨hlen, cO⟩ := aL hf; clear hf; have hlen := bI hlen; split at cO
    . rename_i t xI
      have acT : args'.toArray.size = params.size := by have := ha.1; simp; omega
      refine ⟨fn, _, assign, body, run_yield hw acT, fun nn => roundIn_of_wpIn trivial ?_⟩; have hta := JA params.toList args args' tmps t jA ht ha xI
      have alH : (params.zip args'.toArray).foldl (fun tmps (x : Tmp × Value) => tmps.setIfInBounds x.1 x.2) jA = (params.toList.zip args').foldl (fun tmps p => tmps.setIfInBounds p.1 p.2) jA := by
        rw [<- Array.foldl_toList, Array.toList_zip]
      rw [<- alH] at hta; split at cO
      . rename_i fr h1 alI; split at cO
        . rename_i adK alJ n1 params1 adL alK d1 I4; split at cO
          . rename_i e DJ h2 UR; split at cO
            . rename_i st2 apW alL n2 params2 adM alM d2 H8; simp only [Option.some.injEq, Prod.mk.injEq] at cO; obtain ⟨rfl, rfl⟩ := cO; have hF : (Fence.wide.inRound (ρ l).block) = tR ρ (some l) := rfl; rw [hF]; refine (jX (some l) assign _ _ _ _ _ hca alI ρ S w { tmps := (params.zip args'.toArray).foldl (fun tmps (x : Tmp × Value) => tmps.setIfInBounds x.1 x.2) jA, defers := [] } nn _ hr hta ⟨rfl, fun d hd => by cases hd⟩ (fun l' hl' => by cases hl'; exact hS) fun cQ w1 a1 p1 => ?_).wpIn; obtain ⟨OM, aq7, fn1, tm1, LC, CB, aq8, aq9⟩ := uV p1.bY.hr I4
              have H5 : (cQ l).block = (ρ l).block := by rw [p1.bY.agree l hS]
              refine ⟨_, by rw [<- H5]; exact run_beginRound LC rfl, ?_⟩; have m2 := ER (st' := .busy) (jump' := adK) p1.bY.hr I4 LC; have ao3 : codeOk body = true := hcb
              have hF2 : tR ρ (some l) = tR cQ (some l) := by simp [tR, H5]
              rw [hF2]
              refine (jX (some l) body fr _ _ _ _ ao3 UR cQ (Ext (Ext S h h1) h1 (h1.set l (.dJ .busy adK alJ n1 params1 adL alK d1))) _ a1 nn (roundPost P (ρ l).block (wW P B w0 ρ S h w _ _)) m2.hr
                (p1.tmps.mono fun b hb => ⟨.inl hb, rfl⟩) (p1.marks.mono fun b hb => ⟨.inl hb, rfl⟩) (fun l' hl' => by cases hl'; exact .inl OM) fun VT w3 a3 p3 => ?_).wpIn
              obtain ⟨hS3, ao4, fn3, tm3, CM, ht3, aqA, aqB⟩ := uV p3.bY.hr H8
              have hb3 : (VT l).block = (ρ l).block := by rw [p3.bY.agree l (.inl OM), H5]
              have fin : ∀ j : Option Code, j = eY e -> ∃ v w4, (Instr.endRound (ρ l).block j).run P w3 = .ok v w4 /\ wW P B w0 ρ S h w (.bool (eY e).isNone) (h2.set l (.dJ (bif (eY e).isNone then .ready else .done) (eY e) alL n2 params2 adM alM d2)) (.returned v) w4 := fun j hj => by
                subst hj; refine ⟨_, _, by rw [<- hb3]; exact run_endRound _ CM, VT, ?_, .lit rfl⟩; have m4 := ER (st' := bif (eY e).isNone then .ready else .done) (jump' := eY e) p3.bY.hr H8 CM; have m5 := p1.bY.trans (m2.trans (p3.bY.trans m4))
                have he : (bif (eY e).isNone then LoopState.ready else .done) = if (eY e).isNone then .ready else .done := by cases (eY e).isNone <;> rfl
                rw [<- he]; exact m5
              cases e with
              | normal => exact fin none rfl
              | exit id => exact fin (some (.exit id)) rfl
              | ret => exact fin (some .ret) rfl
            cases cO
          cases cO
        cases cO
      cases cO
    cases cO
  cases hf
theorem adN {aV : Option Nat} {d : Nat} {mark : List Nat} (hr : HR P ρ S B w0 h w) (hs : ∀ l, aV = some l -> S l) (hf : HN aV h = some (d, mark, h1)) (fn : FuncId) (tmps : Array Value) (ps : Array Tmp) (assign body : Code)
    {t : Tr} {n : Nat} (ht : kV ρ S t n tmps) (hca : codeOk assign = true) (hcb : codeOk body = true) :
    ∃ cQ lw ms w2, (Instr.enterLoop fn tmps ps assign body (tR ρ aV).round).run P w = .ok (lw, ms) w2 /\ (cQ h1.next).block = lw /\ p6 cQ (Ext S h (h1.push (.dJ .ready none t n ps assign body d))) mark ms /\
      aO P B w0 ρ cQ S h (h1.push (.dJ .ready none t n ps assign body d)) w w2 /\ Ext S h (h1.push (.dJ .ready none t n ps assign body d)) h1.next := by
  -- the record, behind what is there
  have push : ∀ (ρa : Ren) (wa : World), aO P B w0 ρ ρa S h h1 w wa -> Ext S h h1 d -> aO P B w0 ρ (ρa.put h1.next (.clean wa.heap.size 0 0 (0))) S h (h1.push (.dJ .ready none t n ps assign body d)) w
      (wa.alloc (.loop ⟨.ready, none, fn, tmps, ps, assign, body, (ρa d).block⟩)) := fun ρa wa ma hd => by
    have hta := ht.mono (fun b hb => (⟨.inl hb, ma.agree b hb⟩ : Ext S h h1 b /\ ρa b = ρ b)); have fC := ma.hr.qM (.clean wa.heap.size 0 0 (0)) (.dJ .ready none t n ps assign body d)
    exact ma.trans (aO.push ma.hr (.dJ .ready none t n ps assign body d) (.loop ⟨.ready, none, fn, tmps, ps, assign, body, (ρa d).block⟩) (.clean wa.heap.size 0 0 (0)) rfl rfl
      ⟨(fC d hd).1, fn, tmps, by rw [(fC d hd).2]; exact heap_alloc_new wa _, hta.mono fC, by rw [hca, hcb]; rfl⟩)
  unfold HN at hf; split at hf
  . simp only [Option.some.injEq, Prod.mk.injEq] at hf; obtain ⟨rfl, rfl, rfl⟩ := hf; have m1 : aO P B w0 ρ (ρ.put h.next (.clean w.heap.size 0 0 (0))) S h (h.push .iX) w (w.alloc (.deferred (some []))) := aO.push hr .iX (.deferred (some [])) (.clean w.heap.size 0 0 (0)) rfl rfl (heap_alloc_new w _); have m2 := push _ _ m1 (Ext.lP _)
    have hb : ((ρ.put h.next (.clean w.heap.size 0 0 (0))) h.next).block = w.heap.size := by rw [Ren.fA]
    have cL : h.next ≠ (h.push .iX).next := Nat.ne_of_lt (Nat.lt_succ_self _); refine ⟨_, w.heap.size + 1, _, _, run_enterLoop_outer fn tmps ps assign body, ?_, ⟨?_, ?_⟩, by rw [hb] at m2; exact m2, .inr ⟨Nat.le_succ _, Nat.lt_succ_self _⟩⟩
    . rw [Ren.fA]; simp
    . simp only [List.map_cons, List.map_nil]; rw [Ren.eT cL, hb]
    intro x hx; simp only [List.mem_cons, List.not_mem_nil, or_false] at hx; subst hx; exact .inr ⟨Nat.le_refl _, Nat.lt_succ_of_lt (Nat.lt_succ_self _)⟩
  rename_i l; split at hf
  . rename_i st jump tm n0 ps0 as0 bo0 d0 hg; simp only [Option.some.injEq, Prod.mk.injEq] at hf; obtain ⟨rfl, rfl, rfl⟩ := hf; obtain ⟨hS, hSd, fn0, tm0, hw, _⟩ := uV hr hg; have m2 := push ρ w (aO.same hr) (.inl hSd); refine ⟨_, w.heap.size, [], _, ?_, by rw [Ren.fA], ⟨rfl, fun x hx => by cases hx⟩, m2, .inr ⟨Nat.le_refl _, Nat.lt_succ_self _⟩⟩; show (Instr.enterLoop fn tmps ps assign body (some (ρ l).block)).run P w = _; unfold Instr.enterLoop; simp only [Sem.run_bind, run_getLoop hw, Result.andThen_ok, Sem.run_pure]; rfl
  cases hf
theorem ES (hP : kK P) {m : Nat} {rec : Rec} (jX : nS P B w0 m rec) {aV : Option Nat} {g : Operand} {ps : Array Tmp} {assign body : Code} {fr jF : Fr} {e : Ex} (hca : codeOk assign = true) (hcb : codeOk body = true)
    (hf : jS P rec aV g ps assign body fr h = some (e, jF, h')) {a : Act} {nn : Nat} {Q : Exit -> Act -> World -> Prop} (hr : HR P ρ S B w0 h w) (ht : kV ρ S fr.t fr.n a.tmps) (hm : p6 ρ S fr.marks a.defers)
    (hs : ∀ l, aV = some l -> S l) (k : ∀ bN w' a', p7 P B w0 ρ bN S h w jF h' w' a' -> Q (RQ e) a' w') : (Code.rangeFunc g ps assign body).wpIn (tR ρ aV) nn P Q a w := by
  unfold jS at hf; split at hf
  . rename_i d mark h1 alN; split at hf
    . rename_i f first captured hg; split at hf
      . rename_i v3 h3 eZ; split at hf
        . rename_i st jump tm n0 ps0 as0 bo0 d0 hg3; have bK := ht.eval a.defers g; rw [hg] at bK; obtain ⟨f1, c1, hef, pX, iT⟩ := bK.z8; refine wpIn_rangeFunc fun fn _ => ?_; obtain ⟨cQ, lw, ms, w2, he, H5, RT, m1, OM⟩ := adN hr hs alN fn a.tmps ps assign body ht hca hcb
          have lU : LR cQ (Ext S h (h1.push (.dJ .ready none fr.t fr.n ps assign body d))) (first.toList ++ [.func (.yield h1.next) #[] #[]] ++ captured.toList) (f1.toList ++ [.func (.yield lw) #[] #[]] ++ c1.toList) := by
            have fC : ∀ b, S b -> Ext S h (h1.push (.dJ .ready none fr.t fr.n ps assign body d)) b /\ cQ b = ρ b := fun b hb => ⟨.inl hb, m1.agree b hb⟩; refine ((pX.mono fC).append ?_).append (iT.mono fC); refine LR.cons ?_ LR.nil; rw [<- H5]; exact .yield _ OM
          obtain ⟨ad9, DK⟩ := A7 hP jX _ _ _ _ _ eZ; have ao5 : a.eval g = .func (.func f) f1 c1 := hef; have hinv : (invoke (.fn (.func f) c1) (f1 ++ #[Value.func (.yield lw) #[] #[]])).run P w2 = .ok (.enter f ((f1 ++ #[Value.func (.yield lw) #[] #[]]) ++ c1)) w2 := uG ad9 _ w2; refine ⟨lw, ms, w2, { target := .fn (.func f) c1, args := f1 ++ #[Value.func (.yield lw) #[] #[]] }, w2, f, (f1 ++ #[Value.func (.yield lw) #[] #[]]) ++ c1, w2, he, ?_, fun _ _ => trivial, hinv, fun hd => (by cases hd), ?_⟩
          . unfold resolve; simp only [rangeCall, List.map_toArray, ao5, Deferred.ofValue]; rfl
          have h4 := DK cQ _ w2 _ m1.hr lU (nn - 1)
          have h5 : (f1.toList ++ [Value.func (.yield lw) #[] #[]] ++ c1.toList).toArray = (f1 ++ #[Value.func (.yield lw) #[] #[]]) ++ c1 := by
            apply Array.toList_inj.1; simp
          rw [h5] at h4; refine CallsIn.mono (F := tR ρ aV) h4 fun e3 w3 nN => ?_
          cases e3 with
          | panicked c => exact nN.elim
          | outgrown => exact nN.elim
          | returned v3' =>
            obtain ⟨VT, m3, _⟩ := nN; obtain ⟨hS3, ao4, fn3, tm3, CM, _⟩ := uV m3.hr hg3
            have hb3 : (VT h1.next).block = lw := by rw [m3.agree _ OM, H5]
            have m13 := m1.trans m3
            have post : st ≠ .busy -> ∀ h4 : Heap, h4 = h3.set h1.next (.dJ .exhausted jump tm n0 ps0 as0 bo0 d0) -> ∃ w4, (Instr.endLoop lw).run P w3 = .ok jump w4 /\
                p7 P B w0 ρ VT S h w { t := fr.t, n := fr.n, marks := mark ++ fr.marks } h4 w4 { a with defers := ms ++ a.defers } := fun cC h4 hh4 => by
              subst hh4; have m4 := ER (st' := .exhausted) (jump' := jump) m3.hr hg3 CM; have m14 := m1.trans (m3.trans m4); refine ⟨_, by rw [<- hb3]; exact run_endLoop CM cC, ⟨m14, ht.mono fun b hb => ⟨.inl hb, m14.agree b hb⟩, ?_, ?_⟩⟩
              . show ms ++ a.defers = (mark ++ fr.marks).map _
                have e1 : ms = mark.map (fun d => ({ target := .collected (VT d).block, args := #[] } : Deferred)) := by
                  rw [RT.1]; refine List.map_congr_left fun x hx => ?_; simp only [m3.agree x (RT.2 x hx)]
                have e2 : a.defers = fr.marks.map (fun d => ({ target := .collected (VT d).block, args := #[] } : Deferred)) := by
                  rw [hm.1]; refine List.map_congr_left fun x hx => ?_; simp only [m14.agree x (hm.2 x hx)]
                rw [List.map_append, e1, e2]
              intro x hx; rcases List.mem_append.1 hx with hx | hx
              . exact Ext.trans' m1.next (Nat.le_trans m3.next m4.next) (.inl (RT.2 x hx))
              exact .inl (hm.2 x hx)
            split at hf
            . cases hf
            rename_i cC; have adO : st ≠ .busy := fun h => cC h; simp only at hf; split at hf
            . simp only [Option.some.injEq, Prod.mk.injEq] at hf; obtain ⟨rfl, rfl, rfl⟩ := hf; obtain ⟨w4, h6, h7⟩ := post adO _ rfl; exact ⟨none, w4, h6, k _ _ _ h7⟩
            . simp only [Option.some.injEq, Prod.mk.injEq] at hf; obtain ⟨rfl, rfl, rfl⟩ := hf; obtain ⟨w4, h6, h7⟩ := post adO _ rfl; exact ⟨some .ret, w4, h6, wpIn_ret (k _ _ _ h7)⟩
            . rename_i id; simp only [Option.some.injEq, Prod.mk.injEq] at hf; obtain ⟨rfl, rfl, rfl⟩ := hf; obtain ⟨w4, h6, h7⟩ := post adO _ rfl; exact ⟨some (.exit id), w4, h6, wpIn_exit (k _ _ _ h7)⟩
            cases hf
        cases hf
      cases hf
    cases hf
  cases hf
end Go.Fs
namespace Go.Fs
variable {P : Program} {orc : FuncId -> List Value -> Heap -> Option (Value × Heap)} {aV : Option Nat} {fr : Fr} {h : Heap} {Q : Ex -> Fr -> Heap -> Prop}
theorem zA (t : Tr) (d : Nat) (v : Value) (j : Nat) (hd : d < 4000 := by decide) : (t.set depth d v).get j = if j = d then v else t.get j := Tr.dB depth t d v j (by have : 2 ^ depth = 8192 := rfl; omega)
theorem adP (n : Nat) (t : Tr) (d : Nat) (v : Value) : put n t (some d) v = bif Nat.blt d n then some (t.set depth d v) else none := rfl
theorem MA (n : Nat) (t : Tr) (v : Value) : put n t none v = some t := rfl
theorem G2 (lo : Nat) (l : List (Nat × aX)) : bM lo lo l = [] := by unfold bM; rw [Nat.beq_refl]; rfl
theorem bB {t : TypeId} {d : TypeDesc} (h : P.underlying t = some d) : aC P (underlying t) = some d := by
  unfold underlying; rw [aE]; show (some P).bind _ = _; simp only [Option.bind_some, h]; rfl
theorem tS {t : TypeId} {i : TypeInfo} (h : P.info? t = some i) : aC P (typeInfo t) = some i := by
  unfold typeInfo; rw [aE]; show (some P).bind _ = _; simp only [Option.bind_some, h]; rfl
theorem jP {t : TypeId} {i : TypeInfo} (h : P.info? t = some i) : aC P (sizeOf t) = some i.size := by
  unfold sizeOf; rw [aE, tS h]; rfl
structure apX (P : Program) (T e : TypeId) : Prop where
  sl : P.underlying T = some (.slice e)
  el : P.underlying e = some (.int .i64)
  info : (P.info? e).map (·.size) = some 1
end Go.Fs
namespace Go.Fs
variable {P : Program} {orc : FuncId -> List Value -> Heap -> Option (Value × Heap)} {aV : Option Nat} {h : Heap}
abbrev FL := List (Nat × Value)
section
variable (P orc)
end
variable {ops : Array Oper} {n : Nat} {ms : List Nat} {fl : FL} {Q : Ex -> Fr -> Heap -> Prop} {K : FL -> Heap -> Prop} {l : List Oper}
variable {d : Tmp} {ty : TypeId} {pos : String} {after : Array Edge} {op : Op} {v : Value}
section
variable (P orc)
end
variable {i mem : Nat} {bs : List Nat} {segs : List (Nat × Nat × Nat)} {tail : Bool}
end Go.Fs
namespace Go.Fs
variable {P : Program} {orc : FuncId -> List Value -> Heap -> Option (Value × Heap)} {aV : Option Nat} {h : Heap}
end Go.Fs
namespace Go.Fs
variable {P : Program} {orc : FuncId -> List Value -> Heap -> Option (Value × Heap)} {aV : Option Nat} {h h' h0 h1 h2 : Heap}
def mU (h : Heap) : Prop := ∀ b o, h.get b = some o -> b < h.next
structure eU (h h' : Heap) : Prop where
  next : h.next <= h'.next
  get : ∀ b, b < h.next -> h'.get b = h.get b
  ok : mU h -> mU h'
  low : ∀ e, e <= h.low -> e <= h.next -> e <= h'.low
theorem eU.refl (h : Heap) : eU h h := ⟨Nat.le_refl _, fun _ _ => rfl, fun x => x, fun _ x _ => x⟩
theorem eU.trans (a : eU h h1) (b : eU h1 h2) : eU h h2 where
  next := Nat.le_trans a.next b.next
  get := fun i hi => (b.get i (Nat.lt_of_lt_of_le hi a.next)).trans (a.get i hi)
  ok := fun x => b.ok (a.ok x)
  low := fun e h3 h4 => b.low e (a.low e h3 h4) (Nat.le_trans h4 a.next)
theorem eU.push (h : Heap) (o : aX) : eU h (h.push o) where
  next := Nat.le_succ _
  get := fun b hb => by rw [Heap.bE, if_neg (by omega)]
  ok := fun x b o' hg => by
    rw [Heap.bE] at hg; split at hg
    . rename_i e; rw [e]; exact Nat.lt_succ_self _
    exact Nat.lt_succ_of_lt (x b o' hg)
  low := fun e h3 _ => h3
def entry (h : Heap) : Heap := { next := h.next, low := h.next, aA := h.aA }
end Go.Fs
namespace Go.Fs
variable {P : Program} {h h' h0 : Heap}
structure SlT (P : Program) (T e : TypeId) (s : Nat) : Prop where
  sl : P.underlying T = some (.slice e)
  info : ∃ i z, P.info? e = some i /\ i.size = s /\ 0 < i.bytes /\ i.bytes <= 4096 /\ i.zero = some z /\ z.cells.size = s /\ z.cells.toList.all eN = true
  pos : 0 < s
def slB (P : Program) (T e : TypeId) (s : Nat) : Bool :=
  match P.underlying T, P.info? e with
  | some (.slice e'), some i => match i.zero with
    | some z => Nat.beq e' e && Nat.beq i.size s && Nat.blt 0 i.bytes && Nat.ble i.bytes 4096 && Nat.beq z.cells.size s && z.cells.toList.all eN && Nat.blt 0 s
    | none => false
  | _, _ => false
theorem aiY {T e : TypeId} {s : Nat} (h : slB P T e s = true) : SlT P T e s := by
  unfold slB at h; split at h
  . rename_i e' i hu hi; split at h
    . rename_i z hz; obtain ⟨h, h7⟩ := aY h; obtain ⟨h, h6⟩ := aY h; obtain ⟨h, h5⟩ := aY h; obtain ⟨h, h4⟩ := aY h; obtain ⟨h, h3⟩ := aY h; obtain ⟨h1, h2⟩ := aY h; have := bI h1; subst this; exact ⟨hu, ⟨i, z, hi, bI h2, jB h3, dY h4, hz, bI h5, h6⟩, jB h7⟩
    cases h
  cases h
def lQ : Nat -> List Value -> List (Nat × Value)
  | _, [] => []
  | k, v :: r => (k, v) :: lQ (k + 1) r
end Go.Fs
namespace Go.Fs
variable {P : Program} {orc : FuncId -> List Value -> Heap -> Option (Value × Heap)} {h : Heap} {ops : Array Oper} {n i mem : Nat} {fl : FL} {K : FL -> Heap -> Prop} {l : List Oper} {bs : List Nat} {segs : List (Nat × Nat × Nat)} {tail : Bool}
  {d : Tmp} {ty : TypeId} {pos : String} {after : Array Edge}
theorem zB {lo hi : Nat} (l : List (Nat × aX)) (b : Nat) (h1 : lo <= b) (h2 : b < hi) : look (bM lo hi l) b = look l b := by
  unfold bM; rw [fG (show lo ≠ hi by omega)]; simp only [cond_false]
  induction l with
  | nil => rfl
  | cons p r ih =>
    obtain ⟨k, o⟩ := p; rw [List.filter_cons]; by_cases hk : k = b
    . subst hk
      have : inside lo hi (k, o) = true := by
        unfold inside
        have e1 : Nat.ble lo k = true := by rw [Nat.ble_eq]; exact h1
        have e2 : Nat.blt k hi = true := by show Nat.ble (k + 1) hi = true; rw [Nat.ble_eq]; omega
        simp only [e1, e2, Bool.and_self]
      rw [if_pos this]; simp [look]
    split
    . simp only [look, fG hk, cond_false, ih]
    simp only [look, fG hk, cond_false, ih]
structure Left (h h' h2 : Heap) : Prop where
  next : h2.next = h'.next
  low : h2.low = h.low
  old : ∀ b, b < h.next -> h2.get b = h.get b
  new : ∀ b, h.next <= b -> h2.get b = h'.get b
end Go.Fs
namespace Go.Fs
variable {P : Program} {orc : FuncId -> List Value -> Heap -> Option (Value × Heap)} {h h' : Heap} {ops : Array Oper} {n i mem : Nat} {fl : FL} {K : FL -> Heap -> Prop} {l : List Oper} {bs : List Nat} {segs : List (Nat × Nat × Nat)} {tail : Bool}
  {d : Tmp} {ty : TypeId} {pos : String} {after : Array Edge} {op : Op} {v : Value}
end Go.Fs
namespace Go.Fs
variable {P : Program}
theorem RU {t : TypeId} {a x : Value} {h h' : Heap} {b o : Nat} (ha : a = .pointer (some ⟨b, o, none⟩)) (hs : jR P t a x h = some h') (c : Nat) (hc : c ≠ b) : h'.get c = h.get c := by
  subst ha; unfold jR at hs; simp only at hs; split at hs
  . rename_i e cs more i hg hi; split at hs
    . simp only [Option.some.injEq] at hs; subst hs; rw [Heap.dB hg, if_neg hc]
    cases hs
  cases hs
theorem xY {e : TypeId} {m : Nat} {news : List Value} {h : Heap} {v : Value} {h' : Heap} (hg : grown e m news h = (v, h')) (c : Nat) (hc : c < h.next) : h'.get c = h.get c := by
  unfold grown at hg; simp only [Prod.mk.injEq] at hg; obtain ⟨_, rfl⟩ := hg; rw [Heap.bE, if_neg (by omega)]
theorem VU {e : TypeId} {i : TypeInfo} {s : Value} {m n mk b o : Nat} {news : List Value} {h h' : Heap} {v : Value} (ha : s = .slice (some ⟨b, o, none⟩) n mk) (hs : mN e i s m news h = some (v, h')) (c : Nat) (hc : c ≠ b) (hn : c < h.next) : h'.get c = h.get c := by
  subst ha; unfold mN at hs; simp only at hs
  cases h1 : (Nat.beq m 0 && Nat.beq mk 1) with
  | true =>
    rw [h1] at hs; simp only [cond_true, Option.some.injEq, Prod.mk.injEq] at hs
    rw [hs.2]
  | false =>
    rw [h1] at hs; simp only [cond_false] at hs
    cases hg : h.get b with
    | none => rw [hg] at hs; cases hs
    | some ob =>
      rw [hg] at hs
      cases ob with
      | row e' cs own more =>
        simp only at hs; obtain ⟨_, hs⟩ := aL hs
        cases h3 : Nat.beq mk 1 with
        | true =>
          rw [h3] at hs; simp only [cond_true, Option.some.injEq] at hs
          exact xY hs c hn
        | false =>
          rw [h3] at hs; simp only [cond_false] at hs; obtain ⟨_, hs⟩ := aL hs
          cases h5 : Nat.ble (o + (n + m) * i.size) cs.length with
          | true =>
            rw [h5] at hs; simp only [cond_true, Option.some.injEq, Prod.mk.injEq] at hs; rw [<- hs.2]
            cases Nat.beq m 0 with
            | true => rfl
            | false => simp only [cond_false]; rw [Heap.dB hg, if_neg hc]
          | false =>
            rw [h5] at hs; simp only [cond_false] at hs
            cases more with
            | false =>
              simp only [Bool.not_false, cond_true, Option.some.injEq] at hs
              exact xY hs c hn
            | true =>
              simp only [Bool.not_true, cond_false] at hs; obtain ⟨_, hs⟩ := aL hs; simp only [Option.some.injEq] at hs
              rw [xY hs c hn, Heap.cM, if_neg hc]
      | _ => cases hs
theorem P2 {at_ : Array TypeId} {s x : Value} {n mk b o : Nat} {h h' : Heap} {v : Value} (ha : s = .slice (some ⟨b, o, none⟩) n mk) (hs : fQ P at_ s x h = some (v, h')) (c : Nat) (hc : c ≠ b) (hn : c < h.next) : h'.get c = h.get c := by
  unfold fQ at hs; split at hs
  . split at hs
    . split at hs
      . split at hs
        . split at hs
          . obtain ⟨_, hs⟩ := aL hs; exact VU ha hs c hc hn
          cases hs
        cases hs
      cases hs
    cases hs
  cases hs
theorem P3 {call : FuncId -> List Value -> Heap -> Option (Value × Heap)} {yield : Nat -> List Value -> Heap -> Option (Value × Heap)} {o : Oper} {ev : Operand -> Value} {h h' : Heap} {v : Value} {k : Nat}
    (hs : cP P call yield o ev h = some (v, h')) (ht : rP o.op ev = some k) (c : Nat) (hc : c ≠ k) (hn : c < h.next) : h'.get c = h.get c := by
  unfold rP at ht; split at ht
  . rename_i T a x dQ; split at ht
    . rename_i b o' bK; simp only [Option.some.injEq] at ht; subst ht; unfold cP at hs; rw [dQ] at hs; simp only at hs; obtain ⟨h2, h3, h4⟩ := Option.map_eq_some_iff.1 hs; simp only [Prod.mk.injEq] at h4; rw [<- h4.2]; exact RU bK h3 c hc
    cases ht
  . rename_i dQ; split at ht
    . rename_i b o' n' mk' rest bK; simp only [Option.some.injEq] at ht; subst ht; unfold cP at hs; rw [dQ] at hs; simp only at hs; unfold vL at hs; rw [bK] at hs
      cases rest with
      | nil => cases hs
      | cons x rest =>
        cases rest with
        | nil => exact P2 rfl hs c hc hn
        | cons y rest => cases hs
    cases ht
  cases ht
section
variable {h0 : Heap} {ops : Array Oper} {n : Nat} {call : FuncId -> List Value -> Heap -> Option (Value × Heap)} {yield : Nat -> List Value -> Heap -> Option (Value × Heap)}
structure JB (P : Program) (call : FuncId -> List Value -> Heap -> Option (Value × Heap)) (yield : Nat -> List Value -> Heap -> Option (Value × Heap)) (ops : Array Oper) (n : Nat) (h0 : Heap) (rd chg : List Nat) (o : Oper) (i : Nat) (s s' : dO) : Prop where
  bs : s'.bs = s.bs ++ [aP s.bs o]
  DT : zT (cP P call yield) ops n (fun b ob => h0.get b = some ob /\ b < h0.next /\ b ∈ rd) o i s s'
  next : s.h.next <= s'.h.next
  keep : ∀ b, b < s.h.next -> b ∉ chg -> s'.h.get b = s.h.get b
theorem zT.mono {step : Oper -> (Operand -> Value) -> Heap -> Option (Value × Heap)} {X X' : Nat -> aX -> Prop} {o : Oper} {i : Nat} {s s' : dO} (h : zT step ops n X o i s s') (hX : ∀ b ob, X b ob -> X' b ob) : zT step ops n X' o i s s' := by
  cases h with
  | skip hw hp hh hs hm ht => exact .skip hw hp hh hs hm ht
  | calm hw hc v h' cC hn hp hh hs hm ht => exact .calm hw hc v h' cC hn hp hh hs hm ht
  | still hw v aA hX0 cC hp hh hs hm ht => exact .still hw v aA (fun b ob hl => hX b ob (hX0 b ob hl)) cC hp hh hs hm ht
  | mem hw hc v h' ord ho lV cC hn hp hm hs gA hk => exact .mem hw hc v h' ord ho lV cC hn hp hm hs gA hk
theorem JB.mono {rd rd' chg CN : List Nat} {o : Oper} {i : Nat} {s s' : dO} (h : JB P call yield ops n h0 rd chg o i s s') (h1 : ∀ b ∈ rd, b ∈ rd') (h2 : ∀ b ∈ chg, b ∈ CN) : JB P call yield ops n h0 rd' CN o i s s' :=
  ⟨h.bs, h.DT.mono fun b ob ⟨a, b1, c⟩ => ⟨a, b1, h1 b c⟩, h.next, fun b hb hn => h.keep b hb fun hm => hn (h2 b hm)⟩
theorem RV {lo hi : Nat} {l aA : List (Nat × aX)} {c : Nat} (hc : c < lo) : look (bM lo hi l ++ aA) c = look aA c := by
  rw [iU]
  cases hl : look (bM lo hi l) c with
  | none => rfl
  | some o => have := (dT _ _ _ hl).1; omega
theorem P4 {o : Oper} {i : Nat} {x x' : vO} (hw : bR ops x.1.t o = some true) (hc : calm o.op = false) (hf : sI P (cP P call yield) ops n o i x = some x') :
    x'.2.1 = x.2.1 /\ (∀ k ∈ x.2.2, k ∈ x'.2.2) /\ JB P call yield ops n h0 x'.2.1 x'.2.2 o i x.1 x'.1 := by
  unfold sI at hf; simp only at hf; generalize iM : Nat.beq (x.1.mem &&& aP x.1.bs o) x.1.mem = ord at hf
  cases nW : (x.1.tail && !ord) with
  | true => rw [nW] at hf; cases hf
  | false =>
    rw [nW] at hf; simp only [cond_false] at hf
    have lV : x.1.tail = true -> ord = true := fun h => by rw [h] at nW; simpa using nW
    split at hf
    . rename_i v h' cC
      cases b7 : Nat.blt h'.next x.1.h.next with
      | true => rw [b7] at hf; cases hf
      | false =>
        rw [b7] at hf; simp only [cond_false] at hf
        have hn : x.1.h.next <= h'.next := by have := gR b7; omega
        split at hf
        . rename_i t hp
          cases dK : Nat.ble x.1.h.next h'.low with
          | true =>
            rw [dK] at hf; simp only [cond_true, Option.some.injEq] at hf; subst hf
            exact ⟨rfl, fun k hk => hk, rfl, .mem hw hc v h' ord iM.symm lV cC hn hp rfl rfl rfl (.inl ⟨dY dK, rfl, rfl, rfl⟩), hn, fun b hb _ => RV hb⟩
          | false =>
            rw [dK] at hf; simp only [cond_false] at hf; obtain ⟨h5, h6⟩ := aL hf; split at h6
            . rename_i k hk; simp only [Option.some.injEq] at h6; subst h6; refine ⟨rfl, fun k' E1 => List.mem_cons_of_mem _ E1, rfl, .mem hw hc v h' ord iM.symm lV cC hn hp rfl rfl rfl (.inr ⟨h5, rfl, rfl, rfl⟩), hn, fun b hb hnb => ?_⟩; subst h5; have := P3 cC hk b (fun e => hnb (by subst e; exact List.mem_cons_self)) hb; exact this
            cases h6
        cases hf
    cases hf
theorem LD {o : Oper} {i : Nat} {x x' : vO} (hf : jN P h0 (cP P call yield) ops n o i x = some x') :
    (∀ b ∈ x.2.1, b ∈ x'.2.1) /\ (∀ k ∈ x.2.2, k ∈ x'.2.2) /\ JB P call yield ops n h0 x'.2.1 x'.2.2 o i x.1 x'.1 := by
  unfold jN at hf; simp only at hf; split at hf
  . rename_i hw; obtain ⟨t, h1, h2⟩ := Option.map_eq_some_iff.1 hf; subst h2; exact ⟨fun _ h => h, fun _ h => h, rfl, .skip hw h1 rfl rfl rfl rfl, Nat.le_refl _, fun _ _ _ => rfl⟩
  . cases hf
  rename_i hw; split at hf
  . rename_i hc; split at hf
    . rename_i v h' cC; obtain ⟨h3, h4⟩ := aL hf; obtain ⟨t, h1, h2⟩ := Option.map_eq_some_iff.1 h4; subst h2; exact ⟨fun _ h => h, fun _ h => h, rfl, .calm hw hc v h' cC (bI h3) h1 rfl rfl rfl rfl, Nat.le_refl _, fun _ _ _ => rfl⟩
    cases hf
  rename_i hc
  have hc : calm o.op = false := by simpa using hc
  split at hf
  . rename_i v b hq; obtain ⟨t, h1, h2⟩ := Option.map_eq_some_iff.1 hf; subst h2; refine ⟨fun _ h => List.mem_append_right _ h, fun _ h => h, rfl, ?_, Nat.le_refl _, fun _ _ _ => rfl⟩; unfold yW at hq; split at hq
    . rename_i T a dQ; split at hq
      . rename_i b' o' bK; split at hq
        . rename_i ob hg; obtain ⟨h3, h4⟩ := aL hq; obtain ⟨v', h5, h6⟩ := Option.map_eq_some_iff.1 h4; simp only [Prod.mk.injEq] at h6; obtain ⟨rfl, rfl⟩ := h6; refine .still hw v' [(b', ob)] (fun c oc hl => ?_) ?_ h1 rfl rfl rfl rfl
          . simp only [look] at hl
            cases AY : Nat.beq b' c with
            | true =>
              rw [AY] at hl; simp only [cond_true, Option.some.injEq] at hl; obtain rfl := bI AY; subst hl
              exact ⟨hg, jB h3, List.mem_append_left _ List.mem_cons_self⟩
            | false => rw [AY] at hl; cases hl
          unfold cP; rw [dQ]; simp only [bK, h5, Option.map_some]
        cases hq
      cases hq
    . rename_i dQ; split at hq
      . rename_i y lU; obtain ⟨v', h5, h6⟩ := Option.map_eq_some_iff.1 hq; simp only [Prod.mk.injEq] at h6; obtain ⟨rfl, rfl⟩ := h6; refine .still hw v' [] (fun c oc hl => by cases hl) ?_ h1 rfl rfl rfl rfl; unfold cP; rw [dQ]; simp only [vL, lU, List.map_cons, List.map_nil, h5, Option.map_some]
      cases hq
    . rename_i T a lo hi mx dQ; split at hq
      . rename_i p' mk' bK; obtain ⟨v', h5, h6⟩ := Option.map_eq_some_iff.1 hq; simp only [Prod.mk.injEq] at h6; obtain ⟨rfl, rfl⟩ := h6; refine .still hw v' [] (fun c oc hl => by cases hl) ?_ h1 rfl rfl rfl rfl; unfold cP; rw [dQ]; simp only [bK, h5, Option.map_some]
      . rename_i b' o' n' mk' cL bK; split at hq
        . rename_i ob hg; obtain ⟨h3, h4⟩ := aL hq; obtain ⟨v', h5, h6⟩ := Option.map_eq_some_iff.1 h4; simp only [Prod.mk.injEq] at h6; obtain ⟨rfl, rfl⟩ := h6; refine .still hw v' [(b', ob)] (fun c oc hl => ?_) ?_ h1 rfl rfl rfl rfl
          . simp only [look] at hl
            cases AY : Nat.beq b' c with
            | true =>
              rw [AY] at hl; simp only [cond_true, Option.some.injEq] at hl; obtain rfl := bI AY; subst hl
              exact ⟨hg, jB h3, List.mem_append_left _ List.mem_cons_self⟩
            | false => rw [AY] at hl; cases hl
          unfold cP; rw [dQ]; simp only [bK, h5, Option.map_some]
        cases hq
      cases hq
    cases hq
  obtain ⟨e1, e2, e3⟩ := P4 (h0 := h0) hw hc hf; exact ⟨fun b hb => by rw [e1]; exact hb, e2, e3⟩
theorem G3 : ∀ (l : List Oper) (i : Nat) (x x' : vO), kA P h0 (cP P call yield) ops n l i x = some x' -> (∀ b ∈ x.2.1, b ∈ x'.2.1) /\ (∀ k ∈ x.2.2, k ∈ x'.2.2) /\ ∃ st : Nat -> dO, st i = x.1 /\ st (i + l.length) = x'.1 /\
    ∀ j o, l[j]? = some o -> JB P call yield ops n h0 x'.2.1 x'.2.2 o (i + j) (st (i + j)) (st (i + j + 1))
  | [], i, x, x', h => by
    simp only [kA, Option.some.injEq] at h; subst h
    exact ⟨fun _ h => h, fun _ h => h, fun _ => x.1, rfl, rfl, fun j o hj => by simp at hj⟩
  | o :: l, i, x, x', h => by
    simp only [kA] at h; split at h
    . rename_i x1 P5; obtain ⟨a1, a2, a3⟩ := LD P5; obtain ⟨b1, b2, st, h1, h2, h3⟩ := G3 l (i + 1) x1 x' h; refine ⟨fun b hb => b1 b (a1 b hb), fun k hk => b2 k (a2 k hk), fun k => if k = i then x.1 else st k, by simp, ?_, fun j o' hj => ?_⟩
      . simp only [List.length_cons]; rw [if_neg (by omega), <- h2]; congr 1; omega
      cases j with
      | zero =>
        simp at hj; subst hj
        simpa [h1] using a3.mono b1 b2
      | succ j =>
        simp only [List.getElem?_cons_succ] at hj; have := h3 j o' hj; rw [show i + 1 + j = i + (j + 1) by omega] at this; simp only; rw [if_neg (by omega), if_neg (by omega)]; exact this
    cases h
theorem VV {t0 : Tr} {s : dO} (h : tO P h0 (cP P call yield) ops n ⟨t0, h0, [], [], 0, false⟩ = some s) : ∃ st, Trace (cP P call yield) ops n st t0 h0 /\ st ops.size = s := by
  unfold tO at h; split at h
  . rename_i x hr; obtain ⟨hl, h⟩ := aL h; simp only [Option.some.injEq] at h; subst h; obtain ⟨_, _, st, h1, h2, h3⟩ := G3 _ _ _ _ hr
    have CA : st ops.size = x.1 := by simpa using h2
    have h3' : ∀ i o, ops[i]? = some o -> JB P call yield ops n h0 x.2.1 x.2.2 o i (st i) (st (i + 1)) := fun i o ho => by
      have := h3 i o (by simpa using ho); simpa only [Nat.zero_add] using this
    have nE : ∀ b ∈ x.2.1, b ∉ x.2.2 := fun b hb hk => by
      have := List.all_eq_true.1 (List.all_eq_true.1 hl b hb) b hk; simp at this
    have cC : ∀ q, q <= ops.size -> h0.next <= (st q).h.next /\ ∀ b, b < h0.next -> b ∉ x.2.2 -> (st q).h.get b = h0.get b := fun q => by
      induction q with
      | zero => intro _; rw [h1]; exact ⟨Nat.le_refl _, fun _ _ _ => rfl⟩
      | succ q ih =>
        intro hq; obtain ⟨i1, i2⟩ := ih (by omega); have hd := h3' q ops[q] (Array.getElem?_eq_getElem (by omega)); exact ⟨Nat.le_trans i1 hd.next, fun b hb hn => (hd.keep b (by omega) hn).trans (i2 b hb hn)⟩
    refine ⟨st, ⟨h1, fun i o ho => ?_⟩, CA⟩; have hd := h3' i o ho; refine ⟨hd.bs, hd.DT.mono fun b ob ⟨a, b1, c⟩ => ⟨a, b1, .inr fun q hq => ?_⟩⟩; rw [(cC q hq).2 b b1 (nE b c)]; exact a
  cases h
end
section
variable {call : FuncId -> List Value -> Heap -> Option (Value × Heap)} {yield : Nat -> List Value -> Heap -> Option (Value × Heap)} {ops : Array Oper} {n : Nat} {t0 : Tr} {h0 : Heap} {S : Nat -> Prop} {ρ0 : Ren} {B : Nat} {w0 : World}
theorem VW (iJ : lH P B w0 call) (oM : fT P B w0 yield) (bD : o8 ops = true) {s : dO} (hf : tO P h0 (cP P call yield) ops n ⟨t0, h0, [], [], 0, false⟩ = some s)
    {w : World} {a : Act} (hr : HR P ρ0 S B w0 h0 w) (ht : kV ρ0 S t0 n a.tmps) {r : Option Nat} {nn : Nat} {Q : Exit -> Act -> World -> Prop}
    (k : ∀ bN w' a', aO P B w0 ρ0 bN S h0 s.h w w' -> kV bN (Ext S h0 s.h) s.t n a'.tmps -> a'.defers = a.defers -> Q .normal a' w') (t : Nat) :
    wpOpsIn (mI r) nn P ops Q (Region.schedule true ops t) a w := wA iJ oM bD (VV hf) hr ht k t
end
end Go.Fs
