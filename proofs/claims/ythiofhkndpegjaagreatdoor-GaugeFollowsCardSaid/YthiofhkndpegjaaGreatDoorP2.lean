/- Parts of the proof: an evaluator of the model, what it is sound for, and contracts of functions. No condition. -/
import Derived.Test.YthiofhkndpegjaaGreatDoorP1
import Derived.RangeFuncRecord
import Derived.LoopNIn
import Derived.Test.YthiofhkndpegjaaGreatDoorP0
import Derived.KernelRfl
set_option linter.all false
namespace Go.Fs
open Go.RowKit (Below)
variable {P : Program}
section
variable {call : FuncId -> List Value -> U -> Option (Value × U)} {yield : Nat -> List Value -> U -> Option (Value × U)} {ops : Array Oper} {n : Nat} {st : Nat -> dT} {t0 : Tr} {h0 : U}
variable {S : Nat -> Prop} {ρ0 : Ren} {B : Nat} {w0 ws : World} {d0 : List Deferred}
theorem HR.empty {ρ : Ren} {S S1 : Nat -> Prop} {H : U} {w : World} (hr : HR P ρ S B w0 H w) (h1 : ∀ b, S1 b -> S b) {nx : Nat} (gU : ∀ b, S1 b -> b < nx) (oM : 0 < nx) :
    HR P ρ S1 B w0 { next := nx, low := nx, aA := [] } w where
  aA := fun i o hi => by cases hi
  inj := fun i j oi oj hi => by cases hi
  base := fun i o hi => by cases hi
  ro := fun i o hi => by cases hi
  ids := fun b hb => ⟨gU b hb, (hr.ids b (h1 b hb)).2⟩
  pos := oM
  below := hr.below
  drawn := hr.drawn
  size := hr.size
theorem aU.akK {ρ : Ren} {H : U} {w : World} {L : Nat} (hr : HR P ρ S B w0 H w) : tV P B w0 ρ ρ S S H H L w w where
  agree := fun _ _ => rfl
  sub := fun _ hb => hb
  hr := hr
  frame := Frame.refl _ _ _
  aV := fun _ _ _ => rfl
  old := fun _ o ho _ => ⟨o, ho, rfl⟩
  fresh := fun i o ho hS => absurd (hr.aA i o ho).1 hS
theorem abR (amF : HR P ρ0 S B w0 h0 ws) (iZ : lG P B w0 call) (pW : gE P B w0 yield) (T : Trace (cP P call yield) ops n st t0 h0) (nS : nR ops) (pD : ET ops) (hn : n <= 4000) (WV : K6 st ops)
    (j4 : ∀ b, S b -> b < h0.next) (IC : ∀ b o, h0.get b = some o -> S b) (aeU : 0 < h0.next) {r : Option Nat} {nn : Nat} {Q : Exit -> Act -> World -> Prop}
    (k : ∀ E ρ H w a, (∀ i, i < ops.size -> E i = true) -> Inv P B w0 st ops n t0 h0 S ρ0 ws d0 E ρ H w a -> Q .normal a w) :
    ∀ (E : Nat -> Bool) (l : List Nat), BC ops E l -> ∀ ρ H w a, Inv P B w0 st ops n t0 h0 S ρ0 ws d0 E ρ H w a -> wpOpsIn (sU r) nn P ops Q l a w := by
  intro E l hs
  induction hs with
  | nil E kX => intro ρ H w a I; exact k E ρ H w a kX I
  | cons E i o l ho hE he _ ih =>
    intro ρ H w a I; have hi : i < ops.size := (Array.getElem?_eq_some_iff.1 ho).1; have uL := T.T0 nS I.down ho he; have JW := I.tmp.look T nS pD hn WV I.down ho hE he; have cB := N6 JW
    have Q8 : ∀ b, bL ops (st i).t o = some b -> Region.wanted o (yielded ops a.tmps) = b := fun b hb => K3 (fun j want d hg hd => by
      refine JW d ?_; unfold Oper.looksAt; refine List.mem_append_right _ ?_; rw [hg]
      simp [hd]) hb
    have Q1 : h0.next <= (st i).h.next := by have := T.next 0 i (by omega) (by omega); rwa [T.zero] at this
    have EX : ∀ b, SB st ops S i b -> b < (st i).h.next := T.ZZ j4 (by omega) (T.PY nS i); simp only [wpOpsIn, ho]; have amG := (T.EP i o ho).2
    cases amG with
    | skip hw hp hh hs hm ht =>
      rw [if_neg (by rw [Q8 _ hw]; simp)]; refine ⟨tU, ?_⟩; have AJ : ¬ nI st ops i := fun h => h.2 (by rw [hs])
      exact ih ρ H w _ (I.quiet ho AJ hh uL (fun _ _ => rfl) (aU.akK I.cE.hr) (I.tmp.put pD hn I.down (fun _ _ => rfl) ho hE hp VR.undef) (put_defers _ _ _))
    | calm hw hc v h' bT gU hp hh hs hm ht =>
      rw [if_pos (Q8 _ hw)]; have AJ : ¬ nI st ops i := fun h => h.2 (by rw [hs]); have nJ : ∀ b, SB st ops S i b -> SE st ops S E b := fun b hb => gZ uL b hb; have sV := I.cE.hr.empty nJ EX (by omega : 0 < (st i).h.next); refine PS iZ pW sV cB bT fun cS w1 v1 m hv => ?_
      have uX := CL (H2 := H) (S2 := SE st ops S E) (L := min (st ops.size).h.low h0.next) I.cE.hr nJ (fun b o' hg => by cases hg) sV m (fun b h1 h2 => by
          have h3 : (st i).h.next <= b := h1
          omega) (fun b => ⟨.inl, fun h => by
            rcases h with h | ⟨h1, h2⟩
            . exact h
            have h3 : (st i).h.next <= b := h1
            omega⟩) (fun b hb => (I.cE.hr.ids b hb).1) I.cE.hr.pos
        (fun b o' hb hg => absurd (I.cE.hr.aA b o' hg).1 hb) (fun b o' hb hg => .inr ⟨rfl, hg⟩) (fun b o' hb hg => absurd (I.cE.hr.aA b o' hg).1 hb) (fun _ _ _ => rfl)
      have fW : ∀ b, SE st ops S E b -> glue (SE st ops S E) ρ cS b = ρ b := fun b hb => jN hb; refine ih _ H w1 _ (I.quiet ho AJ hh uL fW uX (I.tmp.put pD hn I.down fW ho hE hp (hv.mono fun b hb => ?_)) (put_defers _ _ _)); rcases hb with hb | ⟨h1, h2⟩
      . exact ⟨gZ (fun m hm => .inr hm) b hb, by rw [jN (nJ b hb), m.agree b hb]⟩
      have h3 : (st i).h.next <= b := h1
      omega
    | still hw v aA hX bT hp hh hs hm ht =>
      rw [if_pos (Q8 _ hw)]; have AJ : ¬ nI st ops i := fun h => h.2 (by rw [hs]); have nJ : ∀ b, SB st ops S i b -> SE st ops S E b := fun b hb => gZ uL b hb; have hSb : ∀ b ob, look aA b = some ob -> S b := fun b ob hl => IC b ob (hX b ob hl).1
      have X2 : ∀ b ob, look aA b = some ob -> H.get b = some ob := fun b ob hl => by
        obtain ⟨hX1, hX2, hX3⟩ := hX b ob hl; rcases hX3 with hX3 | hX3
        . rw [I.cE.aV b (hSb b ob hl) (by omega)]; exact hX1
        rcases I.mode with A | ⟨p, Bm⟩
        . rw [A.base b hX2]; exact hX1
        rw [Bm.get b]; exact hX3 p Bm.le
      have sV : HR P ρ (SB st ops S i) B w0 { next := (st i).h.next, low := (st i).h.next, aA := aA } w := {
        aA := fun c oc hc => by
          have hS := hSb c oc hc; refine ⟨.inl hS, ?_⟩; have h1 := (amF.aA c oc (hX c oc hc).1).2; have h2 := (I.cE.hr.aA c oc (X2 c oc hc)).2; have h3 := I.cE.agree c hS; rw [<- h3] at h1; exact (h1.yI h2 I.cE.agree).mono fun c hc => ⟨.inl hc, I.cE.agree c hc⟩
        inj := fun c d oc od hc hd => I.cE.hr.inj c d oc od (X2 c oc hc) (X2 d od hd)
        base := fun c oc hc => I.cE.hr.base c oc (X2 c oc hc)
        ro := fun c oc hc => I.cE.hr.ro c oc (X2 c oc hc)
        ids := fun c hc => ⟨EX c hc, (I.cE.hr.ids c (nJ c hc)).2⟩
        pos := (by omega : 0 < (st i).h.next)
        below := I.cE.hr.below
        drawn := I.cE.hr.drawn
        size := I.cE.hr.size }
      refine PS iZ pW sV cB bT fun cS w1 v1 m hv => ?_
      have uX := CL (H2 := H) (S2 := SE st ops S E) (L := min (st ops.size).h.low h0.next) I.cE.hr nJ (hm := { next := (st i).h.next, low := (st i).h.next, aA := aA }) X2 sV m (fun b h1 h2 => by
          have h3 : (st i).h.next <= b := h1; have h4 : b < (st i).h.next := h2
          omega) (fun b => ⟨.inl, fun h => by
            rcases h with h | ⟨h1, h2⟩
            . exact h
            have h3 : (st i).h.next <= b := h1; have h4 : b < (st i).h.next := h2
            omega⟩) (fun b hb => (I.cE.hr.ids b hb).1) I.cE.hr.pos
        (fun b o' hb hg => absurd (I.cE.hr.aA b o' hg).1 hb) (fun c oc hc hg => by
          cases hq : look aA c with
          | none => exact .inr ⟨hq, hg⟩
          | some o2 =>
            have h3 := X2 c o2 hq; rw [hg] at h3; injection h3 with h3; subst h3
            exact .inl ⟨by show look aA c ≠ none; rw [hq]; simp, hq⟩) (fun b o' hb hg => absurd (I.cE.hr.aA b o' hg).1 hb) (fun _ _ _ => rfl)
      have fW : ∀ b, SE st ops S E b -> glue (SE st ops S E) ρ cS b = ρ b := fun b hb => jN hb; refine ih _ H w1 _ (I.quiet ho AJ hh uL fW uX (I.tmp.put pD hn I.down fW ho hE hp (hv.mono fun b hb => ?_)) (put_defers _ _ _)); rcases hb with hb | ⟨h1, h2⟩
      . exact ⟨gZ (fun m hm => .inr hm) b hb, by rw [jN (nJ b hb), m.agree b hb]⟩
      have h3 : (st i).h.next <= b := h1; have h4 : b < (st i).h.next := h2
      omega
    | mem hw hc v h' ord gR lR bT hnn hp hm hs gU hk =>
      rw [if_pos (Q8 _ hw)]; have WX : nI st ops i := ⟨hi, by rw [hs]; simp⟩; obtain ⟨sV, hgo⟩ := I.aeT T nS j4 IC aeU ho hE WX uL gR lR (v := v) gU hnn hk; refine PS iZ pW sV cB bT fun cS w1 v1 m hv => ?_; obtain ⟨j3, H2, I2⟩ := hgo cS w1 v1 (a.put o.dst v1) m hv (put_defers _ _ _) fun j3 fW hv2 => I.tmp.put pD hn I.down fW ho hE hp hv2; exact ih j3 H2 w1 _ I2
theorem Inv.end {E : Nat -> Bool} {ρ : Ren} {H : U} {w : World} {a : Act} {step : Oper -> (Operand -> Value) -> U -> Option (Value × U)} (T : Trace step ops n st t0 h0) (pD : ET ops) (hn : n <= 4000)
    (j4 : ∀ b, S b -> b < h0.next) (IC : ∀ b o, h0.get b = some o -> S b) (I : Inv P B w0 st ops n t0 h0 S ρ0 ws d0 E ρ H w a) (kX : ∀ i, i < ops.size -> E i = true) :
    aU P B w0 ρ0 ρ S h0 (st ops.size).h ws w /\ lE ρ (Ext S h0 (st ops.size).h) (st ops.size).t n a.tmps := by
  have hM := I.cE; have q9 := hM.hr
  have Q1 : h0.next <= (st ops.size).h.next := by have := T.next 0 ops.size (by omega) (by omega); rwa [T.zero] at this
  have hSE : ∀ b, SE st ops S E b -> Ext S h0 (st ops.size).h b := fun b hb => by
    rcases hb with hb | ⟨m, h1, h2, h3⟩
    . exact .inl hb
    refine .inr ⟨T.PZ h2 h3, ?_⟩; have := T.next (m + 1) ops.size (by omega) (by omega); exact Nat.lt_of_lt_of_le h3.2 this
  have ajM : ∀ b, SE st ops S E b -> b < h0.next -> S b := fun b hb bO => by
    rcases hb with hb | ⟨m, h1, h2, h3⟩
    . exact hb
    have := T.PZ h2 h3; omega
  -- the same objects
  have jC : ∀ b, (st ops.size).h.get b = H.get b := fun b => by
    rcases I.mode with A | ⟨p, Bm⟩
    . have ht : (st ops.size).tail = false := by
        cases h : (st ops.size).tail with
        | false => rfl
        | true =>
          obtain ⟨k, h1, h2, h3⟩ := T.BF ops.size (by omega) h; rw [A.calm k (kX k h1) h2] at h3; cases h3
      obtain ⟨sb1, sb2, sb3⟩ := T.Q0 (fun b o' hg => j4 b (IC b o' hg)) ops.size (by omega) ht; by_cases h1 : b < h0.next
      . rw [sb1 b h1, A.base b h1]
      by_cases h2 : b < (st ops.size).h.next
      . obtain ⟨m, h3, h4⟩ := T.cover ops.size (by omega) b (by omega) h2; rw [sb2 m h3 b h4, A.news m (kX m h3) h3 b h4]
      have e1 : (st ops.size).h.get b = none := by
        cases hq : (st ops.size).h.get b with
        | none => rfl
        | some o => have := sb3 b o hq; omega
      have e2 : H.get b = none := by
        cases hq : H.get b with
        | none => rfl
        | some o =>
          have h3 := hSE b (q9.aA b o hq).1; rcases h3 with h3 | h3
          . have := j4 b h3; omega
          omega
      rw [e1, e2]
    rw [Bm.get b]
    have hqh : ∀ q, p <= q -> q <= ops.size -> (st q).h = (st p).h := fun q => by
      induction q with
      | zero => intro h1 _; have : p = 0 := by omega
                subst this; rfl
      | succ q ih =>
        intro h1 h2; by_cases hq : p = q + 1
        . subst hq; rfl
        have Q6 : ops[q]? = some ops[q] := Array.getElem?_eq_getElem (by omega); rcases T.wF q _ Q6 with ⟨h3, _⟩ | ⟨_, _, _, h3, _⟩
        . exfalso; have := (Bm.all q h3).1 (kX q (by omega)); omega
        rw [h3]; exact ih (by omega) (by omega)
    rw [hqh ops.size Bm.le (Nat.le_refl _)]
  refine ⟨{
    agree := hM.agree
    next := Q1
    hr := {
      aA := fun i o hi => by
        rw [jC] at hi; obtain ⟨h1, h2⟩ := q9.aA i o hi; exact ⟨hSE i h1, h2.mono fun b hb => ⟨hSE b hb, rfl⟩⟩
      inj := fun i j oi oj hi hj => by rw [jC] at hi hj; exact q9.inj i j oi oj hi hj
      base := fun i o hi => by rw [jC] at hi; exact q9.base i o hi
      ro := fun i o hi => by rw [jC] at hi; exact q9.ro i o hi
      ids := fun b hb => by
        rcases hb with hb | hb
        . have := j4 b hb; exact ⟨by omega, (q9.ids b (hM.sub b hb)).2⟩
        obtain ⟨m, h3, h4⟩ := T.cover ops.size (by omega) b hb.1 hb.2; exact ⟨hb.2, (q9.ids b (.inr ⟨m, kX m h3, h3, h4⟩)).2⟩
      pos := by have := q9.pos; rwa [I.next] at this
      below := q9.below
      drawn := q9.drawn
      size := q9.size }
    frame := hM.frame
    low := by have := T.low 0 ops.size (by omega) (by omega); rwa [T.zero] at this
    aV := fun i hi hl => by
      rw [jC]; by_cases hS : S i
      . exact hM.aV i hS (by omega)
      have e1 : h0.get i = none := by
        cases hq : h0.get i with
        | none => rfl
        | some o => exact absurd (IC i o hq) hS
      have e2 : H.get i = none := by
        cases hq : H.get i with
        | none => rfl
        | some o => exact absurd (ajM i (q9.aA i o hq).1 hi) hS
      rw [e1, e2]
    old := fun i o hi bO => by
      rw [jC] at hi; exact hM.old i o hi (ajM i (q9.aA i o hi).1 bO)
    fresh := fun i o hi PK => by
      rw [jC] at hi
      obtain ⟨h1, h2⟩ := hM.fresh i o hi fun hS => by have := j4 i hS; omega
      refine ⟨h1, ?_⟩; rcases h2 with h2 | ⟨j, oj, h3, h4, h5, h6⟩
      . exact .inl h2
      have h7 := j4 j (IC j oj h3)
      exact .inr ⟨j, oj, h3, h4, h5, by omega, h7⟩ }, ?_⟩
  obtain ⟨t1, t2, t3⟩ := I.tmp; refine ⟨t1, hn, fun x => ?_⟩; by_cases hw : ∃ (j : Nat) (oj : Oper), ops[j]? = some oj /\ oj.dst = some x
  . obtain ⟨j, oj, hj, IB⟩ := hw; have AO : j < ops.size := (Array.getElem?_eq_some_iff.1 hj).1; rw [T.K8 pD hn ops.size (Nat.le_refl _) j oj x AO hj IB]; exact (t2 j oj x (kX j AO) hj IB).mono fun b hb => ⟨hSE b (Q2 I.down (kX j AO) b hb), rfl⟩
  rw [T.CQ hn ops.size (Nat.le_refl _) x fun j oj _ bZ K9 => hw ⟨j, oj, bZ, K9⟩]; exact (t3 x fun j oj _ bZ K9 => hw ⟨j, oj, bZ, K9⟩).mono fun b hb => ⟨.inl hb, rfl⟩
theorem KH {ops : Array Oper} {x : Tmp} {j : Nat} {oj : Oper} (hj : ops[j]? = some oj) (hx : oj.dst = some x) : j ∈ PF ops.toList x := by
  unfold PF; refine List.mem_filterMap.2 ⟨(oj, j), ?_, ?_⟩
  . rw [List.mem_zipIdx_iff_getElem?]; simpa using hj
  simp [hx]
theorem KI {ops : Array Oper} (h : oJ ops = true) : nR ops /\ ET ops /\
    ∀ (i : Nat) (oi : Oper), ops[i]? = some oi -> ∀ x ∈ oi.looksAt ops, ∀ (j : Nat) (oj : Oper), ops[j]? = some oj -> oj.dst = some x ->
      j = i \/ ((C6 ops.toList []).getD i 0).testBit j = true \/ ((C6 ops.toList []).getD j 0).testBit i = true := by
  have key : ∀ (i : Nat) (o : Oper), ops[i]? = some o -> S7 ops ops.toList (C6 ops.toList []) o i = true := fun i o ho => by
    unfold oJ at h; have := List.all_eq_true.1 h (o, i) (by rw [List.mem_zipIdx_iff_getElem?]; simpa using ho); exact this
  refine ⟨fun i o ho e he hb => ?_, fun i j oi oj d hi hj hdi hdj => ?_, fun i oi hi x hx j oj hj IB => ?_⟩
  . have := key i o ho; unfold S7 at this; obtain ⟨h1, _⟩ := aQ this; obtain ⟨h2, _⟩ := aQ h1; have := List.all_eq_true.1 h2 e he; rw [hb] at this; exact jA (by simpa using this)
  . have := key i oi hi; unfold S7 at this; obtain ⟨h1, _⟩ := aQ this; obtain ⟨_, h2⟩ := aQ h1; rw [hdi] at h2; exact bV (List.all_eq_true.1 h2 j (KH hj hdj))
  have := key i oi hi; unfold S7 at this; obtain ⟨_, h1⟩ := aQ this; have h2 := List.all_eq_true.1 (List.all_eq_true.1 h1 x hx) j (KH hj IB); simp only [Bool.or_eq_true] at h2; rcases h2 with (h2 | h2) | h2
  . exact .inl (bV h2)
  . exact .inr (.inl h2)
  exact .inr (.inr h2)
theorem GU {step : Oper -> (Operand -> Value) -> U -> Option (Value × U)} (T : Trace step ops n st t0 h0) : ∀ (l : List Oper) (i : Nat), l = ops.toList.drop i -> i <= ops.size -> C6 l (st i).bs = (st ops.size).bs
  | [], i, hl, hi => by
    have : ops.size <= i := by
      have := congrArg List.length hl; simp at this; omega
    have : i = ops.size := by omega
    subst this; rfl
  | o :: r, i, hl, hi => by
    have bO : i < ops.size := by
      have := congrArg List.length hl; simp at this; omega
    have ho : ops[i]? = some o := by
      have := congrArg (·[0]?) hl; simpa using this.symm
    have hr : r = ops.toList.drop (i + 1) := by
      have := congrArg List.tail hl; simpa using this
    simp only [C6]; rw [<- (T.EP i o ho).1]; exact GU T r (i + 1) hr (by omega)
theorem wG (iZ : lG P B w0 call) (pW : gE P B w0 yield) (bZ : oJ ops = true) {s : dT} (hf : ∃ st, Trace (cP P call yield) ops n st t0 h0 /\ st ops.size = s)
    {w : World} {a : Act} (hr : HR P ρ0 S B w0 h0 w) (ht : lE ρ0 S t0 n a.tmps) {r : Option Nat} {nn : Nat} {Q : Exit -> Act -> World -> Prop}
    (k : ∀ bY w' a', aU P B w0 ρ0 bY S h0 s.h w w' -> lE bY (Ext S h0 s.h) s.t n a'.tmps -> a'.defers = a.defers -> Q .normal a' w') (t : Nat) :
    wpOpsIn (sU r) nn P ops Q (Region.schedule true ops t) a w := by
  obtain ⟨nS, pD, amH⟩ := KI bZ; obtain ⟨st, T, hs⟩ := hf; have j4 : ∀ b, S b -> b < h0.next := fun b hb => (hr.ids b hb).1; have IC : ∀ b o, h0.get b = some o -> S b := fun b o hg => (hr.aA b o hg).1
  have X3 : C6 ops.toList [] = (st ops.size).bs := by
    have := GU T ops.toList 0 (by simp) (by omega)
    rwa [T.zero] at this
  have WV : K6 st ops := fun i oi hi x hx j oj hj IB => by
    have h1 := amH i oi hi x hx j oj hj IB; have kQ : i < ops.size := (Array.getElem?_eq_some_iff.1 hi).1; have PJ : j < ops.size := (Array.getElem?_eq_some_iff.1 hj).1; rw [X3, (T.bs ops.size (Nat.le_refl _)).2 i kQ, (T.bs ops.size (Nat.le_refl _)).2 j PJ] at h1; exact h1
  have amI : SE st ops S (fun _ => false) = S := funext fun b => propext ⟨fun hb => (by
    rcases hb with hb | ⟨m, h1, _⟩
    . exact hb
    cases h1), fun hb => .inl hb⟩
  refine abR (ρ0 := ρ0) (ws := w) (d0 := a.defers) hr iZ pW T nS pD ht.2.1 WV j4 IC hr.pos (fun E ρ H w' a' kX I => ?_) _ _ (WT nS t) ρ0 { next := (st ops.size).h.next, low := 0, aA := h0.aA } w a
    ⟨?_, .inl ⟨fun k hk => (by cases hk), fun b _ => rfl, fun k hk => (by cases hk), fun b o hb hg => (hr.aA b o hg).2, fun k hk => (by cases hk)⟩, ⟨ht.1, fun k o d hk => (by cases hk), fun d _ => ht.2.2 d⟩, rfl, rfl, fun k hk => (by cases hk)⟩
  . obtain ⟨h1, h2⟩ := I.end T pD ht.2.1 j4 IC kX; rw [hs] at h1 h2; exact k ρ w' a' h1 h2 I.defers
  have Q1 : h0.next <= (st ops.size).h.next := by have := T.next 0 ops.size (by omega) (by omega); rwa [T.zero] at this
  rw [amI]
  exact {
    agree := fun _ _ => rfl
    sub := fun _ hb => hb
    hr := { aA := hr.aA, inj := hr.inj, base := hr.base, ro := hr.ro, ids := fun b hb => ⟨Nat.lt_of_lt_of_le (hr.ids b hb).1 Q1, (hr.ids b hb).2⟩, pos := Nat.lt_of_lt_of_le hr.pos Q1, below := hr.below, drawn := hr.drawn, size := hr.size }
    frame := Frame.refl _ _ _
    aV := fun _ _ _ => rfl
    old := fun i o ho _ => ⟨o, ho, rfl⟩
    fresh := fun i o ho hS => absurd (hr.aA i o ho).1 hS }
theorem abT (iZ : lG P B w0 call) (pW : gE P B w0 yield) (bZ : oJ ops = true) {s : dT} (hf : kD (cP P call yield) ops n ops.toList 0 ⟨t0, h0, [], [], 0, false⟩ = some s)
    {w : World} {a : Act} (hr : HR P ρ0 S B w0 h0 w) (ht : lE ρ0 S t0 n a.tmps) {r : Option Nat} {nn : Nat} {Q : Exit -> Act -> World -> Prop}
    (k : ∀ bY w' a', aU P B w0 ρ0 bY S h0 s.h w w' -> lE bY (Ext S h0 s.h) s.t n a'.tmps -> a'.defers = a.defers -> Q .normal a' w') (t : Nat) :
    wpOpsIn (sU r) nn P ops Q (Region.schedule true ops t) a w := wG iZ pW bZ (abK hf) hr ht k t
theorem X4 (iZ : lG P B w0 call) (pW : gE P B w0 yield) (bZ : oJ ops = true) {s : dT} (hf : IY P h0 (cP P call yield) ops n ⟨t0, h0, [], [], 0, false⟩ = some s)
    {w : World} {a : Act} (hr : HR P ρ0 S B w0 h0 w) (ht : lE ρ0 S t0 n a.tmps) {r : Option Nat} {nn : Nat} {Q : Exit -> Act -> World -> Prop}
    (k : ∀ bY w' a', aU P B w0 ρ0 bY S h0 s.h w w' -> lE bY (Ext S h0 s.h) s.t n a'.tmps -> a'.defers = a.defers -> Q .normal a' w') (t : Nat) :
    wpOpsIn (sU r) nn P ops Q (Region.schedule true ops t) a w := wG iZ pW bZ (WU hf) hr ht k t
end
end Go.Fs
namespace Go.Fs
open Go.RowKit (Below)
variable {P : Program} {ρ bY : Ren} {S S' : Nat -> Prop} {B : Nat} {w0 w w' w1 w2 : World} {h h' h1 h2 : U}
theorem HR.same (hr : HR P ρ S B w0 h w) (hg : ∀ i, h'.get i = h.get i) (hn : h'.next = h.next) : HR P ρ S B w0 h' w where
  aA := fun i o hi => hr.aA i o (by rw [<- hg]; exact hi)
  inj := fun i j oi oj hi hj => hr.inj i j oi oj (by rw [<- hg]; exact hi) (by rw [<- hg]; exact hj)
  base := fun i o hi => hr.base i o (by rw [<- hg]; exact hi)
  ro := fun i o hi => hr.ro i o (by rw [<- hg]; exact hi)
  ids := fun b hb => by rw [hn]; exact hr.ids b hb
  pos := by rw [hn]; exact hr.pos
  below := hr.below
  drawn := hr.drawn
  size := hr.size
theorem Ext.af7 {g g' : U} (h1 : g.next = h.next) (h2 : g'.next = h'.next) : Ext S g g' = Ext S h h' := by
  funext b; unfold Ext; rw [h1, h2]
theorem aU.akL {g g' : U} (m : aU P B w0 ρ bY S g g' w w') (hg : ∀ i, h.get i = g.get i) (hn : h.next = g.next) (gD : ∀ i, h'.get i = g'.get i) (hn' : h'.next = g'.next)
    (hl : h'.low <= g'.low) (nQ : h'.low <= h.low) : aU P B w0 ρ bY S h h' w w' where
  agree := m.agree
  next := by rw [hn, hn']; exact m.next
  hr := by
    rw [Ext.af7 hn hn']; exact m.hr.same gD hn'
  frame := ⟨m.frame.os, m.frame.tape, m.frame.output, m.frame.size, fun k hk o9 => m.frame.block k hk fun i o hi ho => o9 i o (by rw [hg]; exact hi) ho⟩
  low := nQ
  aV := fun i hi dW => by rw [hg, gD]; exact m.aV i (by omega) (by omega)
  old := fun i o hi bO => by
    obtain ⟨o', h1, h2⟩ := m.old i o (by rw [<- gD]; exact hi) (by omega); exact ⟨o', by rw [hg]; exact h1, h2⟩
  fresh := fun i o hi PK => by
    obtain ⟨h1, hf⟩ := m.fresh i o (by rw [<- gD]; exact hi) (by omega); refine ⟨h1, ?_⟩; rcases hf with hf | ⟨j, oj, h3, h4, h5, h6, h7⟩
    . exact .inl hf
    exact .inr ⟨j, oj, by rw [hg]; exact h3, h4, h5, by omega, by omega⟩
theorem aU.forget {g : U} (hr : HR P ρ S B w0 g w) (m : aU P B w0 ρ bY S h h1 w w') (dW : h.next <= h1.low) (hg : ∀ i, g.get i = h.get i) (hn : g.next = h.next) : aU P B w0 ρ ρ S g g w w' where
  agree := fun _ _ => rfl
  next := Nat.le_refl _
  hr := HR.congr (S := S) {
    aA := fun i o hi => by
      obtain ⟨h3, h4⟩ := hr.aA i o hi; have bO := (hr.ids i h3).1
      have hk : h1.get i = some o := by rw [m.aV i (by omega) (by omega), <- hg]; exact hi
      have h5 := (m.hr.aA i o hk).2; rw [m.agree i h3] at h5; exact ⟨h3, h4.yI h5 m.agree⟩
    inj := hr.inj
    base := hr.base
    ro := hr.ro
    ids := hr.ids
    pos := hr.pos
    below := m.hr.below
    drawn := m.hr.drawn
    size := m.hr.size } fun b => (Ext.sE rfl b).symm
  frame := ⟨m.frame.os, m.frame.tape, m.frame.output, m.frame.size, fun k hk o9 => m.frame.block k hk fun i o hi ho => o9 i o (by rw [hg]; exact hi) ho⟩
  low := Nat.le_refl _
  aV := fun _ _ _ => rfl
  old := fun i o ho _ => ⟨o, ho, rfl⟩
  fresh := fun i o ho hi => by
    have := (hr.ids i (hr.aA i o ho).1).1; omega
theorem aU.dropped (hr : HR P ρ S B w0 h w) {i : Nat} {o : bC} (hi : h.get i = some o) (ho : iF o = true)
    (I7 : w'.os = w.os) (ht : w'.tape = w.tape) (y8 : w'.output = w.output) (dR : w'.heap.size = w.heap.size) (hblk : ∀ k, k ≠ (ρ i).block -> w'.heap[k]? = w.heap[k]?)
    (hd : w.drawn <= w'.drawn := by first | exact Nat.le_refl _ | exact Nat.le_succ _) : aU P B w0 ρ ρ S h (h.drop i) w w' where
  agree := fun _ _ => rfl
  next := Nat.le_refl _
  hr := HR.congr (S := S) {
    aA := fun j oj hj => by
      rw [U.cK] at hj; split at hj
      . cases hj
      rename_i e; obtain ⟨h1, h2⟩ := hr.aA j oj hj; refine ⟨h1, h2.world (hblk _ fun he => ?_)⟩; by_cases kV : iF oj = true
      . exact e (hr.inj j i oj o hj hi kV ho he)
      have := hr.ro j oj hj (by simpa using kV); have := hr.base i o hi ho; omega
    inj := fun a b oa ob ha hb => by
      rw [U.cK] at ha hb; split at ha
      . cases ha
      split at hb
      . cases hb
      exact hr.inj a b oa ob ha hb
    base := fun j oj hj => by
      rw [U.cK] at hj; split at hj
      . cases hj
      exact hr.base j oj hj
    ro := fun j oj hj => by
      rw [U.cK] at hj; split at hj
      . cases hj
      exact hr.ro j oj hj
    ids := hr.ids
    pos := hr.pos
    drawn := Nat.le_trans hr.drawn hd
    below := ⟨I7.trans hr.below.os, ht.trans hr.below.tape, y8.trans hr.below.output, by rw [dR]; exact hr.below.size, fun k hk => by
      rw [hblk k (fun e => by have := hr.base i o hi ho; omega)]; exact hr.below.block k hk⟩
    size := by rw [dR]; exact hr.size } fun b => (Ext.sE rfl b).symm
  frame := ⟨I7, ht, y8, by rw [dR]; exact Nat.le_refl _, fun k _ o9 => hblk k (Ne.symm (o9 i o hi ho))⟩
  low := Nat.min_le_left _ _
  aV := fun j _ hl => by
    have xI : min h.low i <= i := Nat.min_le_right _ _; have bO : j < min h.low i := hl; rw [U.cK, if_neg (by omega)]
  old := fun j oj hj _ => by
    rw [U.cK] at hj; split at hj
    . cases hj
    exact ⟨oj, hj, rfl⟩
  fresh := fun j oj hj PK => by
    rw [U.cK] at hj; split at hj
    . cases hj
    have := (hr.ids j (hr.aA j oj hj).1).1; have : h.next <= j := PK; omega
def s8 (ρ : Ren) (S : Nat -> Prop) (marks : List Nat) (ds : List Deferred) : Prop := ds = marks.map (fun d => ({ target := .collected (ρ d).block, args := #[] } : Deferred)) /\ ∀ d ∈ marks, S d
theorem s8.mono {marks : List Nat} {ds : List Deferred} (hm : s8 ρ S marks ds) (hs : ∀ b, S b -> S' b /\ bY b = ρ b) : s8 bY S' marks ds := by
  refine ⟨?_, fun d hd => (hs d (hm.2 d hd)).1⟩; rw [hm.1]
  exact List.map_congr_left fun d hd => by rw [(hs d (hm.2 d hd)).2]
theorem Ext.self {b : Nat} (hb : S b) : Ext S h h' b := .inl hb
theorem AV {fn : Func} {tmps : Array Value} {R : Ending -> World -> Prop} {F : Fence} {n : Nat} : ∀ (marks : List Nat) (S : Nat -> Prop) (h : U) (w : World) (ds : List Deferred), HR P ρ S B w0 h w -> s8 ρ S marks ds ->
    iV marks h = some h2 -> (∀ w', aU P B w0 ρ ρ S h h2 w w' -> LeavesInM F n P fn tmps R [] .returning w') -> LeavesInM F n P fn tmps R ds .returning w
  | [], S, h, w, ds, hr, hm, hd, k => by
    simp only [iV, Option.some.injEq] at hd; subst hd; rw [hm.1]
    exact k w (aU.same hr)
  | d :: r, S, h, w, ds, hr, hm, hd, k => by
    simp only [iV] at hd; split at hd
    . rename_i hg; have nE : w.heap[(ρ d).block]? = some (.deferred (some [])) := (hr.aA d _ hg).2; have bO : (ρ d).block < w.heap.size := (Array.getElem?_eq_some_iff.1 nE).1; have m := aU.dropped (w' := w.putObj (ρ d).block (.deferred none)) hr hg rfl rfl rfl rfl World.putObj_size (fun k hk => World.putObj_heap_other hk); rw [hm.1]; simp only [List.map_cons, LeavesInM]; refine ⟨by simp, .inl ⟨(ρ d).block, _, rfl, run_takeDeferred nE, ?_⟩⟩; refine AV r (Ext S h (h.drop d)) (h.drop d) _ _ m.hr ⟨rfl, fun x hx => .inl (hm.2 x (List.mem_cons_of_mem _ hx))⟩ hd fun w' m' => k w' (m.trans m')
    cases hd
def Q9 (tmps : Array Value) : ResultVar -> Sem Value
  | .tmp t => pure (tmps.getD t undef)
  | .cell a t => do loadVar t (<- asAddr (tmps.getD a undef))
theorem T6 (fn : Func) (tmps : Array Value) : results fn tmps = (do
    let vs <- fn.results.mapM (Q9 tmps)
    pure (if h : vs.size = 1 then vs[0] else .tuple vs)) := rfl
theorem X5 {t : Tr} {n : Nat} {tmps : Array Value} {rv : ResultVar} {v : Value} (hr : HR P ρ S B w0 h w) (ht : lE ρ S t n tmps) (hf : sD P t h rv = some v) :
    ∃ v', (Q9 tmps rv).run P w = .ok v' w /\ VR ρ S v v' := by
  have jC : ∀ i, tmps.getD i undef = tmps.toList.getD i undef := fun i => by simp [Array.getD_eq_getD_getElem?, List.getD_eq_getElem?_getD]
  cases rv with
  | tmp i =>
    simp only [sD, Option.some.injEq] at hf; subst hf
    exact ⟨_, rfl, by rw [jC]; exact ht.2.2 i⟩
  | cell a ty =>
    simp only [sD] at hf; have hv := ht.2.2 a; rw [<- jC] at hv; obtain ⟨v', h1, h2⟩ := JM hr hf hv; refine ⟨v', ?_, h2⟩; unfold dD at hf; split at hf
    . rename_i b o hb; rw [hb] at hv; obtain ⟨_, he⟩ := hv.p7; simp only [Q9, he] at h1 ⊢; simpa [Instr.loadAt, Instr.sureAddr, asAddr] using h1
    cases hf
theorem GV {t : Tr} {n : Nat} {tmps : Array Value} (hr : HR P ρ S B w0 h w) (ht : lE ρ S t n tmps) : ∀ (rs : List ResultVar) (vs : List Value), fX P t h rs = some vs ->
    ∃ jD, (rs.mapM (Q9 tmps)).run P w = .ok jD w /\ LR ρ S vs jD
  | [], vs, hf => by
    simp only [fX, Option.some.injEq] at hf; subst hf
    exact ⟨[], rfl, LR.nil⟩
  | r :: rs, vs, hf => by
    simp only [fX] at hf; split at hf
    . rename_i v KG hv w9; simp only [Option.some.injEq] at hf; subst hf; obtain ⟨v', h1, h2⟩ := X5 hr ht hv; obtain ⟨jD, h3, h4⟩ := GV hr ht rs KG w9; refine ⟨v' :: jD, ?_, LR.cons h2 h4⟩; rw [List.mapM_cons]; simp only [Sem.run_bind, h1, Result.andThen_ok, h3, Sem.run_pure]
    cases hf
theorem X6 {vs jD : List Value} (hv : LR ρ S vs jD) : VR ρ S (gS vs) (if h : jD.toArray.size = 1 then jD.toArray[0] else .tuple jD.toArray) := by
  have hl := hv.1
  match vs, jD, hl with
  | [], [], _ => exact VR.undef
  | [v], [v'], _ => exact hv.2 0 (by simp)
  | v1 :: v2 :: r, u1 :: u2 :: r', _ =>
    rw [dif_neg (by simp)]; exact VR.tuple' (by simpa [gS] using hv)
theorem KJ {fn : Func} {t : Tr} {n : Nat} {tmps : Array Value} {vs : List Value} (hr : HR P ρ S B w0 h w) (ht : lE ρ S t n tmps) (hf : fX P t h fn.results.toList = some vs) :
    ∃ v', (results fn tmps).run P w = .ok v' w /\ VR ρ S (gS vs) v' := by
  obtain ⟨jD, h1, h2⟩ := GV hr ht _ _ hf; refine ⟨_, ?_, X6 h2⟩; rw [T6, Array.mapM_eq_mapM_toList]; simp only [Sem.run_bind, Sem.run_map, h1, Result.andThen_ok, Sem.run_pure]
end Go.Fs
namespace Go.Fs
open Go.RowKit (Below)
variable {P : Program} {ρ bY : Ren} {S S' : Nat -> Prop} {B : Nat} {w0 w w' w1 w2 : World} {h h' h1 h2 : U}
def aa1 : Ex -> Exit
  | .normal => .normal
  | .exit id => .exit id
  | .ret => .ret
def wpX (m : Nat) (F : Fence) (n : Nat) (P : Program) (c : Code) (Q : Exit -> Act -> World -> Prop) (a : Act) (w : World) : Prop :=
  match c with
  | .loop b => Code.roundsIn F n P b Q m a w
  | c => c.wpIn F n P Q a w
theorem wpX.wpIn {m : Nat} {F : Fence} {n : Nat} {c : Code} {Q : Exit -> Act -> World -> Prop} {a : Act} {w : World} (h : wpX m F n P c Q a w) : c.wpIn F n P Q a w := by
  cases c with
  | loop b => exact wpIn_loop_rounds m h
  | _ => exact h
def tW (ρ : Ren) (aY : Option Nat) : Fence := sU (aY.map fun l => (ρ l).block)
structure tX (P : Program) (B : Nat) (w0 : World) (ρ bY : Ren) (S : Nat -> Prop) (h : U) (w : World) (jW : Fr) (h' : U) (w' : World) (a' : Act) : Prop where
  cE : aU P B w0 ρ bY S h h' w w'
  tmps : lE bY (Ext S h h') jW.t jW.n a'.tmps
  marks : s8 bY (Ext S h h') jW.marks a'.defers
def pF (P : Program) (B : Nat) (w0 : World) (m : Nat) (rec : Rec) : Prop := ∀ aY c fr h e jW h', codeOk c = true -> rec aY c fr h = some (e, jW, h') ->
  ∀ ρ S w a nn Q, HR P ρ S B w0 h w -> lE ρ S fr.t fr.n a.tmps -> s8 ρ S fr.marks a.defers -> (∀ l, aY = some l -> S l) ->
    (∀ bY w' a', tX P B w0 ρ bY S h w jW h' w' a' -> Q (aa1 e) a' w') -> wpX m (tW ρ aY) nn P c Q a w
theorem T7 {aY : Option Nat} (hs : ∀ l, aY = some l -> S l) (fW : ∀ b, S b -> bY b = ρ b) : tW bY aY = tW ρ aY := by
  cases aY with
  | none => rfl
  | some l => simp [tW, fW l (hs l rfl)]
theorem tX.trans {cS j3 : Ren} {fr1 MW : Fr} {a1 a2 : Act} (p : aU P B w0 ρ cS S h h1 w w1) (q : tX P B w0 cS j3 (Ext S h h1) h1 w1 MW h2 w2 a2) : tX P B w0 ρ j3 S h w MW h2 w2 a2 where
  cE := p.trans q.cE
  tmps := q.tmps.mono fun b hb => ⟨Ext.trans' p.next q.cE.next hb, rfl⟩
  marks := q.marks.mono fun b hb => ⟨Ext.trans' p.next q.cE.next hb, rfl⟩
theorem F8 : ∀ (vs : List Value) (t : Tr) (i : Nat), i + vs.length <= 4000 -> ∀ j, (iI t i vs).get j = if j < i then t.get j else if j < i + vs.length then vs.getD (j - i) undef else t.get j
  | [], t, i, _, j => by simp only [iI, List.length_nil, Nat.add_zero]; split <;> simp_all
  | v :: r, t, i, hl, j => by
    simp only [List.length_cons] at hl; simp only [iI]; rw [F8 r _ (i + 1) (by omega), Tr.cX depth t i v j (by have : 2 ^ depth = 8192 := rfl; omega)]; simp only [List.length_cons]; by_cases h1 : j < i
    . rw [if_pos (by omega), if_neg (by omega), if_pos h1]
    by_cases h2 : j = i
    . subst h2; rw [if_pos (by omega), if_pos rfl, if_neg h1, if_pos (by omega), Nat.sub_self]; rfl
    rw [if_neg (by omega), if_neg h1]; by_cases h3 : j < i + 1 + r.length
    . rw [if_pos h3, if_pos (by omega), show j - i = (j - (i + 1)) + 1 by omega]; rfl
    rw [if_neg h3, if_neg h2, if_neg (by omega)]
theorem abU (i : Nat) : Tr.leaf.get i = undef := rfl
theorem T8 {n : Nat} {args args' : List Value} (hn : n <= 4000) (hl : args.length <= n) (ha : LR ρ S args args') :
    lE ρ S (iI .leaf 0 args) n (args'.toArray ++ Array.replicate (n - args'.toArray.size) undef) := by
  have h0 := ha.1; refine ⟨by simp; omega, hn, fun i => ?_⟩; rw [F8 args .leaf 0 (by omega), if_neg (by omega), abU, Nat.sub_zero, Nat.zero_add]; simp only [Array.toList_append, Array.toList_replicate, List.getD_eq_getElem?_getD, List.getElem?_append]; by_cases hi : i < args.length
  . rw [if_pos hi, if_pos (by omega)]; have := ha.2 i hi
    rwa [List.getD_eq_getElem?_getD, List.getD_eq_getElem?_getD] at this
  rw [if_neg hi, if_neg (by omega), List.getElem?_replicate]; split
  . exact VR.undef
  exact VR.undef
structure lW (P : Program) : Prop where
  mixed : P.follows .mixedOrders = true
  name : ∀ (f : FuncId) (fn : Func), P.funcs[f]? = some fn -> fn.body.isNone = false -> (fn.name == "runtime.NumGoroutine") = false
  code : ∀ (f : FuncId) (fn : Func) (c : Code), P.funcs[f]? = some fn -> fn.body = some c -> codeOk c = true
theorem AW (hP : lW P) {m : Nat} {rec : Rec} {k : Bool} (jP : pF P B w0 m rec) : cY P B w0 (kE P k rec) := by
  intro f args h v h' hf; unfold kE at hf; split at hf
  . rename_i fn kF; split at hf
    . rename_i c hc; refine ⟨⟨fn, kF, by rw [hc]; rfl, hP.name f fn kF (by rw [hc]; rfl)⟩, fun ρ S w args' hr ha n => ?_⟩
      cases hb : (Nat.blt 4000 fn.ntmps || Nat.blt fn.ntmps args.length) with
      | true => rw [hb] at hf; cases hf
      | false =>
        rw [hb] at hf; simp only [cond_false] at hf
        have sR : Nat.blt 4000 fn.ntmps = false /\ Nat.blt fn.ntmps args.length = false := by simpa using hb
        have hn : fn.ntmps <= 4000 := by have := iG sR.1; omega
        have hl : args.length <= fn.ntmps := by have := iG sR.2; omega
        split at hf
        . rename_i e fr h1 eZ; obtain ⟨hgo, dI⟩ := aT hf; clear hf; split at dI
          . rename_i h2 akM; split at dI
            . rename_i vs w9; have hrb : HR P ρ S B w0 { next := h.next, low := h.next, aA := h.aA } w := hr.same (fun _ => rfl) rfl; refine callsIn_of_wp_marks kF hc trivial ?_
              have hw := (jP none c _ _ _ _ _ (hP.code f fn c kF hc) eZ ρ S w { tmps := args'.toArray ++ Array.replicate (fn.ntmps - args'.toArray.size) undef, defers := [] } n
                (bodyPostM Fence.wide n P fn (xM P B w0 ρ S h w v h')) hrb (T8 hn hl ha) ⟨rfl, fun d hd => by cases hd⟩ (fun l hl => by cases hl) fun cS w1 a1 p1 => ?_).wpIn
              . exact hw
              have aa2 : LeavesInM Fence.wide n P fn a1.tmps (xM P B w0 ρ S h w v h') a1.defers .returning w1 := by
                refine AV fr.marks _ h1 w1 a1.defers p1.cE.hr p1.marks akM fun w2 m2 => ?_; have htm := p1.tmps.mono (fun b hb => (⟨Ext.self (h := h1) (h' := h2) hb, rfl⟩ : Ext _ h1 h2 b /\ cS b = cS b)); obtain ⟨v', X7, hv2⟩ := KJ m2.hr htm w9; refine ⟨v', X7, ?_⟩; have m3 := p1.cE.trans m2; have hv3 := hv2.mono (fun b hb => (⟨Ext.trans' p1.cE.next m2.next hb, rfl⟩ : Ext S { next := h.next, low := h.next, aA := h.aA } h2 b /\ cS b = cS b))
                cases hq : (!k && (af (gS vs) && Nat.ble h.next h2.low)) with
                | true =>
                  rw [hq] at dI; simp only [cond_true, Option.some.injEq, Prod.mk.injEq] at dI; obtain ⟨rfl, rfl⟩ := dI; obtain ⟨q1, q2⟩ := aQ (aQ hq).2; have q2 := fY q2; refine ⟨ρ, m3.forget hr q2 (fun _ => rfl) rfl, ?_⟩
                  rw [hv3.dN q1]; exact .mH q1
                | false =>
                  rw [hq] at dI; simp only [cond_false, Option.some.injEq, Prod.mk.injEq] at dI; obtain ⟨rfl, rfl⟩ := dI; exact ⟨cS, m3.akL (fun _ => rfl) rfl (fun _ => rfl) rfl (Nat.min_le_right _ _) (Nat.min_le_left _ _), hv3⟩
              cases e with
              | normal => exact aa2
              | ret => exact aa2
              | exit id => cases hgo
            cases dI
          cases dI
        cases hf
    cases hf
  cases hf
theorem DG (hP : lW P) {m : Nat} {rec : Rec} (jP : pF P B w0 m rec) : cY P B w0 (mG P rec) := AW hP jP
theorem KK {n : Nat} : ∀ (ps : List Tmp) (args args' : List Value) (t t' : Tr) (tmps : Array Value), lE ρ S t n tmps -> LR ρ S args args' -> qO n t (ps.zip args) = some t' ->
    lE ρ S t' n ((ps.zip args').foldl (fun tmps p => tmps.setIfInBounds p.1 p.2) tmps)
  | [], args, args', t, t', tmps, ht, _, hs => by
    simp only [List.zip_nil_left, qO, Option.some.injEq] at hs; subst hs
    simpa using ht
  | p :: ps, [], args', t, t', tmps, ht, ha, hs => by
    have : args' = [] := List.eq_nil_of_length_eq_zero ha.1.symm; subst this; simp only [List.zip_nil_right, qO, Option.some.injEq] at hs; subst hs
    simpa using ht
  | p :: ps, v :: args, [], t, t', tmps, ht, ha, hs => by have := ha.1; simp at this
  | p :: ps, v :: args, v' :: args', t, t', tmps, ht, ha, hs => by
    simp only [List.zip_cons_cons, qO] at hs; split at hs
    . rename_i t1 hp; have hv : VR ρ S v v' := ha.2 0 (by simp); have X8 : LR ρ S args args' := ⟨by have := ha.1; simpa using this, fun i hi => by have := ha.2 (i + 1) (by simp; omega); simpa using this⟩; have h1 := ht.put hp hv []; simp only [List.zip_cons_cons, List.foldl_cons]; exact KK ps args args' t1 t' _ h1 X8 hs
    cases hs
theorem uZ {l : Nat} {st : LoopState} {jump : Option Code} {tmps : Tr} {n d : Nat} {params : Array Tmp} {assign body : Code} (hr : HR P ρ S B w0 h w) (hg : h.get l = some (.dM st jump tmps n params assign body d)) :
    S l /\ S d /\ ∃ fn iX, w.heap[(ρ l).block]? = some (.loop ⟨st, jump, fn, iX, params, assign, body, (ρ d).block⟩) /\ lE ρ S tmps n iX /\ codeOk assign = true /\ codeOk body = true := by
  obtain ⟨h1, h2, fn, iX, h3, h4, h5⟩ := hr.aA l _ hg; exact ⟨h1, h2, fn, iX, h3, h4, (aQ h5).1, (aQ h5).2⟩
theorem F9 {l : Nat} {st st' : LoopState} {jump jump' : Option Code} {tmps : Tr} {n d : Nat} {params : Array Tmp} {assign body : Code} {fn : FuncId} {iX : Array Value} (hr : HR P ρ S B w0 h w)
    (hg : h.get l = some (.dM st jump tmps n params assign body d)) (hw : w.heap[(ρ l).block]? = some (.loop ⟨st, jump, fn, iX, params, assign, body, (ρ d).block⟩)) :
    aU P B w0 ρ ρ S h (h.set l (.dM st' jump' tmps n params assign body d)) w (w.putObj (ρ l).block (.loop ⟨st', jump', fn, iX, params, assign, body, (ρ d).block⟩)) := by
  obtain ⟨h1, h2, fn0, tm0, h3, h4, h5⟩ := hr.aA l _ hg; rw [hw] at h3; simp only [Option.some.injEq, Obj.loop.injEq, Loop.mk.injEq, true_and, and_true] at h3; obtain ⟨rfl, rfl⟩ := h3
  exact aU.set hr hg rfl rfl rfl rfl rfl World.putObj_size (fun k hk => World.putObj_heap_other hk)
    ⟨h2, fn, iX, World.putObj_heap_same (Array.getElem?_eq_some_iff.1 hw).1, h4, h5⟩
theorem DH {m : Nat} {rec : Rec} (jP : pF P B w0 m rec) : gE P B w0 (eK rec) := by
  intro l args h v h' hf ρ S w args' hr ha hl; unfold eK at hf; split at hf
  . rename_i aoF tmps n params assign body d0 hg; obtain ⟨hS, hSd, fn, iX, hw, ht, BI, hcb⟩ := uZ hr hg; obtain ⟨hlen, dI⟩ := aT hf; clear hf; have hlen := bV hlen; split at dI
    . rename_i t xH
      have ae9 : args'.toArray.size = params.size := by have := ha.1; simp; omega
      refine ⟨fn, _, assign, body, run_yield hw ae9, fun nn => roundIn_of_wpIn trivial ?_⟩; have hta := KK params.toList args args' tmps t iX ht ha xH
      have akN : (params.zip args'.toArray).foldl (fun tmps (x : Tmp × Value) => tmps.setIfInBounds x.1 x.2) iX = (params.toList.zip args').foldl (fun tmps p => tmps.setIfInBounds p.1 p.2) iX := by
        rw [<- Array.foldl_toList, Array.toList_zip]
      rw [<- akN] at hta; split at dI
      . rename_i fr h1 akO; split at dI
        . rename_i af8 akP n1 params1 af9 akQ d1 JD; split at dI
          . rename_i e MW h2 WC; split at dI
            . rename_i st2 aoG akR n2 params2 afA akS d2 IE; simp only [Option.some.injEq, Prod.mk.injEq] at dI; obtain ⟨rfl, rfl⟩ := dI; have hF : (Fence.wide.inRound (ρ l).block) = tW ρ (some l) := rfl; rw [hF]; refine (jP (some l) assign _ _ _ _ _ BI akO ρ S w { tmps := (params.zip args'.toArray).foldl (fun tmps (x : Tmp × Value) => tmps.setIfInBounds x.1 x.2) iX, defers := [] } nn _ hr hta ⟨rfl, fun d hd => by cases hd⟩ (fun l' hl' => by cases hl'; exact hS) fun cS w1 a1 p1 => ?_).wpIn; obtain ⟨PU, aoT, fn1, tm1, X9, CK, aoU, aoV⟩ := uZ p1.cE.hr JD
              have AK : (cS l).block = (ρ l).block := by rw [p1.cE.agree l hS]
              refine ⟨_, by rw [<- AK]; exact run_beginRound X9 rfl, ?_⟩; have m2 := F9 (st' := .busy) (jump' := af8) p1.cE.hr JD X9; have amJ : codeOk body = true := hcb
              have hF2 : tW ρ (some l) = tW cS (some l) := by simp [tW, AK]
              rw [hF2]
              refine (jP (some l) body fr _ _ _ _ amJ WC cS (Ext (Ext S h h1) h1 (h1.set l (.dM .busy af8 akP n1 params1 af9 akQ d1))) _ a1 nn (roundPost P (ρ l).block (xM P B w0 ρ S h w _ _)) m2.hr
                (p1.tmps.mono fun b hb => ⟨.inl hb, rfl⟩) (p1.marks.mono fun b hb => ⟨.inl hb, rfl⟩) (fun l' hl' => by cases hl'; exact .inl PU) fun XA w3 a3 p3 => ?_).wpIn
              obtain ⟨hS3, amK, fn3, tm3, QA, ht3, aoW, aoX⟩ := uZ p3.cE.hr IE
              have hb3 : (XA l).block = (ρ l).block := by rw [p3.cE.agree l (.inl PU), AK]
              have fin : ∀ j : Option Code, j = eY e -> ∃ v w4, (Instr.endRound (ρ l).block j).run P w3 = .ok v w4 /\ xM P B w0 ρ S h w (.bool (eY e).isNone) (h2.set l (.dM (bif (eY e).isNone then .ready else .done) (eY e) akR n2 params2 afA akS d2)) (.returned v) w4 := fun j hj => by
                subst hj; refine ⟨_, _, by rw [<- hb3]; exact run_endRound _ QA, XA, ?_, .lit rfl⟩; have m4 := F9 (st' := bif (eY e).isNone then .ready else .done) (jump' := eY e) p3.cE.hr IE QA; have m5 := p1.cE.trans (m2.trans (p3.cE.trans m4))
                have he : (bif (eY e).isNone then LoopState.ready else .done) = if (eY e).isNone then .ready else .done := by cases (eY e).isNone <;> rfl
                rw [<- he]; exact m5
              cases e with
              | normal => exact fin none rfl
              | exit id => exact fin (some (.exit id)) rfl
              | ret => exact fin (some .ret) rfl
            cases dI
          cases dI
        cases dI
      cases dI
    cases dI
  cases hf
theorem afB {aY : Option Nat} {d : Nat} {mark : List Nat} (hr : HR P ρ S B w0 h w) (hs : ∀ l, aY = some l -> S l) (hf : IU aY h = some (d, mark, h1)) (fn : FuncId) (tmps : Array Value) (ps : Array Tmp) (assign body : Code)
    {t : Tr} {n : Nat} (ht : lE ρ S t n tmps) (BI : codeOk assign = true) (hcb : codeOk body = true) :
    ∃ cS lw ms w2, (Instr.enterLoop fn tmps ps assign body (tW ρ aY).round).run P w = .ok (lw, ms) w2 /\ (cS h1.next).block = lw /\ s8 cS (Ext S h (h1.push (.dM .ready none t n ps assign body d))) mark ms /\
      aU P B w0 ρ cS S h (h1.push (.dM .ready none t n ps assign body d)) w w2 /\ Ext S h (h1.push (.dM .ready none t n ps assign body d)) h1.next := by
  -- the record, behind what is there
  have push : ∀ (ρa : Ren) (wa : World), aU P B w0 ρ ρa S h h1 w wa -> Ext S h h1 d -> aU P B w0 ρ (ρa.put h1.next (.clean wa.heap.size 0 0 (0))) S h (h1.push (.dM .ready none t n ps assign body d)) w
      (wa.alloc (.loop ⟨.ready, none, fn, tmps, ps, assign, body, (ρa d).block⟩)) := fun ρa wa ma hd => by
    have hta := ht.mono (fun b hb => (⟨.inl hb, ma.agree b hb⟩ : Ext S h h1 b /\ ρa b = ρ b)); have fW := ma.hr.qQ (.clean wa.heap.size 0 0 (0)) (.dM .ready none t n ps assign body d)
    exact ma.trans (aU.push ma.hr (.dM .ready none t n ps assign body d) (.loop ⟨.ready, none, fn, tmps, ps, assign, body, (ρa d).block⟩) (.clean wa.heap.size 0 0 (0)) rfl rfl
      ⟨(fW d hd).1, fn, tmps, by rw [(fW d hd).2]; exact heap_alloc_new wa _, hta.mono fW, by rw [BI, hcb]; rfl⟩)
  unfold IU at hf; split at hf
  . simp only [Option.some.injEq, Prod.mk.injEq] at hf; obtain ⟨rfl, rfl, rfl⟩ := hf; have m1 : aU P B w0 ρ (ρ.put h.next (.clean w.heap.size 0 0 (0))) S h (h.push .iP) w (w.alloc (.deferred (some []))) := aU.push hr .iP (.deferred (some [])) (.clean w.heap.size 0 0 (0)) rfl rfl (heap_alloc_new w _); have m2 := push _ _ m1 (Ext.lL _)
    have hb : ((ρ.put h.next (.clean w.heap.size 0 0 (0))) h.next).block = w.heap.size := by rw [Ren.fC]
    have cA : h.next ≠ (h.push .iP).next := Nat.ne_of_lt (Nat.lt_succ_self _); refine ⟨_, w.heap.size + 1, _, _, run_enterLoop_outer fn tmps ps assign body, ?_, ⟨?_, ?_⟩, by rw [hb] at m2; exact m2, .inr ⟨Nat.le_succ _, Nat.lt_succ_self _⟩⟩
    . rw [Ren.fC]; simp
    . simp only [List.map_cons, List.map_nil]; rw [Ren.eU cA, hb]
    intro x hx; simp only [List.mem_cons, List.not_mem_nil, or_false] at hx; subst hx; exact .inr ⟨Nat.le_refl _, Nat.lt_succ_of_lt (Nat.lt_succ_self _)⟩
  rename_i l; split at hf
  . rename_i st jump tm n0 ps0 as0 bo0 d0 hg; simp only [Option.some.injEq, Prod.mk.injEq] at hf; obtain ⟨rfl, rfl, rfl⟩ := hf; obtain ⟨hS, hSd, fn0, tm0, hw, _⟩ := uZ hr hg; have m2 := push ρ w (aU.same hr) (.inl hSd); refine ⟨_, w.heap.size, [], _, ?_, by rw [Ren.fC], ⟨rfl, fun x hx => by cases hx⟩, m2, .inr ⟨Nat.le_refl _, Nat.lt_succ_self _⟩⟩; show (Instr.enterLoop fn tmps ps assign body (some (ρ l).block)).run P w = _; unfold Instr.enterLoop; simp only [Sem.run_bind, run_getLoop hw, Result.andThen_ok, Sem.run_pure]; rfl
  cases hf
theorem FA (hP : lW P) {m : Nat} {rec : Rec} (jP : pF P B w0 m rec) {aY : Option Nat} {g : Operand} {ps : Array Tmp} {assign body : Code} {fr jW : Fr} {e : Ex} (BI : codeOk assign = true) (hcb : codeOk body = true)
    (hf : jL P rec aY g ps assign body fr h = some (e, jW, h')) {a : Act} {nn : Nat} {Q : Exit -> Act -> World -> Prop} (hr : HR P ρ S B w0 h w) (ht : lE ρ S fr.t fr.n a.tmps) (hm : s8 ρ S fr.marks a.defers)
    (hs : ∀ l, aY = some l -> S l) (k : ∀ bY w' a', tX P B w0 ρ bY S h w jW h' w' a' -> Q (aa1 e) a' w') : (Code.rangeFunc g ps assign body).wpIn (tW ρ aY) nn P Q a w := by
  unfold jL at hf; split at hf
  . rename_i d mark h1 akT; split at hf
    . rename_i f first captured hg; split at hf
      . rename_i v3 h3 eZ; split at hf
        . rename_i st jump tm n0 ps0 as0 bo0 d0 hg3; have cB := ht.eval a.defers g; rw [hg] at cB; obtain ⟨f1, c1, hef, sS, nQ⟩ := cB.zR; refine wpIn_rangeFunc fun fn _ => ?_; obtain ⟨cS, lw, ms, w2, he, AK, hms, m1, PU⟩ := afB hr hs akT fn a.tmps ps assign body ht BI hcb
          have l7 : LR cS (Ext S h (h1.push (.dM .ready none fr.t fr.n ps assign body d))) (first.toList ++ [.func (.yield h1.next) #[] #[]] ++ captured.toList) (f1.toList ++ [.func (.yield lw) #[] #[]] ++ c1.toList) := by
            have fW : ∀ b, S b -> Ext S h (h1.push (.dM .ready none fr.t fr.n ps assign body d)) b /\ cS b = ρ b := fun b hb => ⟨.inl hb, m1.agree b hb⟩; refine ((sS.mono fW).append ?_).append (nQ.mono fW); refine LR.cons ?_ LR.nil; rw [<- AK]; exact .yield _ PU
          obtain ⟨aeO, EH⟩ := AW hP jP _ _ _ _ _ eZ; have amL : a.eval g = .func (.func f) f1 c1 := hef; have hinv : (invoke (.fn (.func f) c1) (f1 ++ #[Value.func (.yield lw) #[] #[]])).run P w2 = .ok (.enter f ((f1 ++ #[Value.func (.yield lw) #[] #[]]) ++ c1)) w2 := uH aeO _ w2; refine ⟨lw, ms, w2, { target := .fn (.func f) c1, args := f1 ++ #[Value.func (.yield lw) #[] #[]] }, w2, f, (f1 ++ #[Value.func (.yield lw) #[] #[]]) ++ c1, w2, he, ?_, fun _ _ => trivial, hinv, fun hd => (by cases hd), ?_⟩
          . unfold resolve; simp only [rangeCall, List.map_toArray, amL, Deferred.ofValue]; rfl
          have h4 := EH cS _ w2 _ m1.hr l7 (nn - 1)
          have h5 : (f1.toList ++ [Value.func (.yield lw) #[] #[]] ++ c1.toList).toArray = (f1 ++ #[Value.func (.yield lw) #[] #[]]) ++ c1 := by
            apply Array.toList_inj.1; simp
          rw [h5] at h4; refine CallsIn.mono (F := tW ρ aY) h4 fun e3 w3 v7 => ?_
          cases e3 with
          | panicked c => exact v7.elim
          | outgrown => exact v7.elim
          | returned v3' =>
            obtain ⟨XA, m3, _⟩ := v7; obtain ⟨hS3, amK, fn3, tm3, QA, _⟩ := uZ m3.hr hg3
            have hb3 : (XA h1.next).block = lw := by rw [m3.agree _ PU, AK]
            have m13 := m1.trans m3
            have post : st ≠ .busy -> ∀ h4 : U, h4 = h3.set h1.next (.dM .exhausted jump tm n0 ps0 as0 bo0 d0) -> ∃ w4, (Instr.endLoop lw).run P w3 = .ok jump w4 /\
                tX P B w0 ρ XA S h w { t := fr.t, n := fr.n, marks := mark ++ fr.marks } h4 w4 { a with defers := ms ++ a.defers } := fun bT h4 hh4 => by
              subst hh4; have m4 := F9 (st' := .exhausted) (jump' := jump) m3.hr hg3 QA; have m14 := m1.trans (m3.trans m4); refine ⟨_, by rw [<- hb3]; exact run_endLoop QA bT, ⟨m14, ht.mono fun b hb => ⟨.inl hb, m14.agree b hb⟩, ?_, ?_⟩⟩
              . show ms ++ a.defers = (mark ++ fr.marks).map _
                have e1 : ms = mark.map (fun d => ({ target := .collected (XA d).block, args := #[] } : Deferred)) := by
                  rw [hms.1]; refine List.map_congr_left fun x hx => ?_; simp only [m3.agree x (hms.2 x hx)]
                have e2 : a.defers = fr.marks.map (fun d => ({ target := .collected (XA d).block, args := #[] } : Deferred)) := by
                  rw [hm.1]; refine List.map_congr_left fun x hx => ?_; simp only [m14.agree x (hm.2 x hx)]
                rw [List.map_append, e1, e2]
              intro x hx; rcases List.mem_append.1 hx with hx | hx
              . exact Ext.trans' m1.next (Nat.le_trans m3.next m4.next) (.inl (hms.2 x hx))
              exact .inl (hm.2 x hx)
            split at hf
            . cases hf
            rename_i bT; have afC : st ≠ .busy := fun h => bT h; simp only at hf; split at hf
            . simp only [Option.some.injEq, Prod.mk.injEq] at hf; obtain ⟨rfl, rfl, rfl⟩ := hf; obtain ⟨w4, h6, h7⟩ := post afC _ rfl; exact ⟨none, w4, h6, k _ _ _ h7⟩
            . simp only [Option.some.injEq, Prod.mk.injEq] at hf; obtain ⟨rfl, rfl, rfl⟩ := hf; obtain ⟨w4, h6, h7⟩ := post afC _ rfl; exact ⟨some .ret, w4, h6, wpIn_ret (k _ _ _ h7)⟩
            . rename_i id; simp only [Option.some.injEq, Prod.mk.injEq] at hf; obtain ⟨rfl, rfl, rfl⟩ := hf; obtain ⟨w4, h6, h7⟩ := post afC _ rfl; exact ⟨some (.exit id), w4, h6, wpIn_exit (k _ _ _ h7)⟩
            cases hf
        cases hf
      cases hf
    cases hf
  cases hf
end Go.Fs
namespace Go.Fs
variable {P : Program} {orc : FuncId -> List Value -> U -> Option (Value × U)} {aY : Option Nat} {fr : Fr} {h : U} {Q : Ex -> Fr -> U -> Prop}
theorem zS (t : Tr) (d : Nat) (v : Value) (j : Nat) (hd : d < 4000 := by decide) : (t.set depth d v).get j = if j = d then v else t.get j := Tr.cX depth t d v j (by have : 2 ^ depth = 8192 := rfl; omega)
theorem afD (n : Nat) (t : Tr) (d : Nat) (v : Value) : put n t (some d) v = bif Nat.blt d n then some (t.set depth d v) else none := rfl
theorem OD (n : Nat) (t : Tr) (v : Value) : put n t none v = some t := rfl
theorem T9 (lo : Nat) (l : List (Nat × bC)) : bI lo lo l = [] := by unfold bI; rw [Nat.beq_refl]; rfl
theorem aK {t : TypeId} {d : TypeDesc} (h : P.underlying t = some d) : aD P (underlying t) = some d := by
  unfold underlying; rw [aC]; show (some P).bind _ = _; simp only [Option.bind_some, h]; rfl
theorem tY {t : TypeId} {i : TypeInfo} (h : P.info? t = some i) : aD P (typeInfo t) = some i := by
  unfold typeInfo; rw [aC]; show (some P).bind _ = _; simp only [Option.bind_some, h]; rfl
theorem iD {t : TypeId} {i : TypeInfo} (h : P.info? t = some i) : aD P (sizeOf t) = some i.size := by
  unfold sizeOf; rw [aC, tY h]; rfl
structure aoH (P : Program) (T e : TypeId) : Prop where
  sl : P.underlying T = some (.slice e)
  el : P.underlying e = some (.int .i64)
  info : (P.info? e).map (·.size) = some 1
end Go.Fs
namespace Go.Fs
variable {P : Program} {orc : FuncId -> List Value -> U -> Option (Value × U)} {aY : Option Nat} {h : U}
abbrev FL := List (Nat × Value)
section
variable (P orc)
end
variable {ops : Array Oper} {n : Nat} {ms : List Nat} {fl : FL} {Q : Ex -> Fr -> U -> Prop} {K : FL -> U -> Prop} {l : List Oper}
variable {d : Tmp} {ty : TypeId} {pos : String} {after : Array Edge} {op : Op} {v : Value}
section
variable (P orc)
end
variable {i mem : Nat} {bs : List Nat} {segs : List (Nat × Nat × Nat)} {tail : Bool}
end Go.Fs
namespace Go.Fs
variable {P : Program} {orc : FuncId -> List Value -> U -> Option (Value × U)} {aY : Option Nat} {h : U}
end Go.Fs
namespace Go.Fs
variable {P : Program} {orc : FuncId -> List Value -> U -> Option (Value × U)} {aY : Option Nat} {h h' h0 h1 h2 : U}
def nK (h : U) : Prop := ∀ b o, h.get b = some o -> b < h.next
structure eV (h h' : U) : Prop where
  next : h.next <= h'.next
  get : ∀ b, b < h.next -> h'.get b = h.get b
  ok : nK h -> nK h'
  low : ∀ e, e <= h.low -> e <= h.next -> e <= h'.low
theorem eV.refl (h : U) : eV h h := ⟨Nat.le_refl _, fun _ _ => rfl, fun x => x, fun _ x _ => x⟩
theorem eV.trans (a : eV h h1) (b : eV h1 h2) : eV h h2 where
  next := Nat.le_trans a.next b.next
  get := fun i hi => (b.get i (Nat.lt_of_lt_of_le hi a.next)).trans (a.get i hi)
  ok := fun x => b.ok (a.ok x)
  low := fun e h3 h4 => b.low e (a.low e h3 h4) (Nat.le_trans h4 a.next)
theorem eV.push (h : U) (o : bC) : eV h (h.push o) where
  next := Nat.le_succ _
  get := fun b hb => by rw [U.bQ, if_neg (by omega)]
  ok := fun x b o' hg => by
    rw [U.bQ] at hg; split at hg
    . rename_i e; rw [e]; exact Nat.lt_succ_self _
    exact Nat.lt_succ_of_lt (x b o' hg)
  low := fun e h3 _ => h3
def entry (h : U) : U := { next := h.next, low := h.next, aA := h.aA }
end Go.Fs
namespace Go.Fs
variable {P : Program} {h h' h0 : U}
structure SlT (P : Program) (T e : TypeId) (s : Nat) : Prop where
  sl : P.underlying T = some (.slice e)
  info : ∃ i z, P.info? e = some i /\ i.size = s /\ 0 < i.bytes /\ i.bytes <= 4096 /\ i.zero = some z /\ z.cells.size = s /\ z.cells.toList.all eD = true
  pos : 0 < s
def slB (P : Program) (T e : TypeId) (s : Nat) : Bool :=
  match P.underlying T, P.info? e with
  | some (.slice e'), some i => match i.zero with
    | some z => Nat.beq e' e && Nat.beq i.size s && Nat.blt 0 i.bytes && Nat.ble i.bytes 4096 && Nat.beq z.cells.size s && z.cells.toList.all eD && Nat.blt 0 s
    | none => false
  | _, _ => false
theorem ai1 {T e : TypeId} {s : Nat} (h : slB P T e s = true) : SlT P T e s := by
  unfold slB at h; split at h
  . rename_i e' i hu hi; split at h
    . rename_i z hz; obtain ⟨h, h7⟩ := aQ h; obtain ⟨h, h6⟩ := aQ h; obtain ⟨h, h5⟩ := aQ h; obtain ⟨h, h4⟩ := aQ h; obtain ⟨h, h3⟩ := aQ h; obtain ⟨h1, h2⟩ := aQ h; have := bV h1; subst this; exact ⟨hu, ⟨i, z, hi, bV h2, jA h3, fY h4, hz, bV h5, h6⟩, jA h7⟩
    cases h
  cases h
def lM : Nat -> List Value -> List (Nat × Value)
  | _, [] => []
  | k, v :: r => (k, v) :: lM (k + 1) r
end Go.Fs
namespace Go.Fs
variable {P : Program} {orc : FuncId -> List Value -> U -> Option (Value × U)} {h : U} {ops : Array Oper} {n i mem : Nat} {fl : FL} {K : FL -> U -> Prop} {l : List Oper} {bs : List Nat} {segs : List (Nat × Nat × Nat)} {tail : Bool}
  {d : Tmp} {ty : TypeId} {pos : String} {after : Array Edge}
theorem FB {lo hi : Nat} (l : List (Nat × bC)) (b : Nat) (h1 : lo <= b) (h2 : b < hi) : look (bI lo hi l) b = look l b := by
  unfold bI; rw [eE (show lo ≠ hi by omega)]; simp only [cond_false]
  induction l with
  | nil => rfl
  | cons p r ih =>
    obtain ⟨k, o⟩ := p; rw [List.filter_cons]; by_cases hk : k = b
    . subst hk
      have : inside lo hi (k, o) = true := by
        unfold inside
        have e1 : Nat.ble lo k = true := by rw [Nat.ble_eq]; exact h1
        have e2 : Nat.blt k hi = true := by show Nat.ble (k + 1) hi = true; rw [Nat.ble_eq]; omega
        simp only [e1, e2, Bool.and_self]
      rw [if_pos this]; simp [look]
    split
    . simp only [look, eE hk, cond_false, ih]
    simp only [look, eE hk, cond_false, ih]
structure Left (h h' h2 : U) : Prop where
  next : h2.next = h'.next
  low : h2.low = h.low
  old : ∀ b, b < h.next -> h2.get b = h.get b
  new : ∀ b, h.next <= b -> h2.get b = h'.get b
end Go.Fs
namespace Go.Fs
variable {P : Program} {orc : FuncId -> List Value -> U -> Option (Value × U)} {h h' : U} {ops : Array Oper} {n i mem : Nat} {fl : FL} {K : FL -> U -> Prop} {l : List Oper} {bs : List Nat} {segs : List (Nat × Nat × Nat)} {tail : Bool}
  {d : Tmp} {ty : TypeId} {pos : String} {after : Array Edge} {op : Op} {v : Value}
end Go.Fs
namespace Go.Fs
variable {P : Program}
theorem TA {t : TypeId} {a x : Value} {h h' : U} {b o : Nat} (ha : a = .pointer (some ⟨b, o, none⟩)) (hs : jJ P t a x h = some h') (c : Nat) (hc : c ≠ b) : h'.get c = h.get c := by
  subst ha; unfold jJ at hs; simp only at hs; split at hs
  . rename_i e cs more i hg hi; split at hs
    . simp only [Option.some.injEq] at hs; subst hs; rw [U.cX hg, if_neg hc]
    cases hs
  cases hs
theorem yM {e : TypeId} {m : Nat} {news : List Value} {h : U} {v : Value} {h' : U} (hg : grown e m news h = (v, h')) (c : Nat) (hc : c < h.next) : h'.get c = h.get c := by
  unfold grown at hg; simp only [Prod.mk.injEq] at hg; obtain ⟨_, rfl⟩ := hg; rw [U.bQ, if_neg (by omega)]
theorem XB {e : TypeId} {i : TypeInfo} {s : Value} {m n mk b o : Nat} {news : List Value} {h h' : U} {v : Value} (ha : s = .slice (some ⟨b, o, none⟩) n mk) (hs : o7 e i s m news h = some (v, h')) (c : Nat) (hc : c ≠ b) (hn : c < h.next) : h'.get c = h.get c := by
  subst ha; unfold o7 at hs; simp only at hs
  cases h1 : (Nat.beq m 0 && Nat.beq mk 1) with
  | true =>
    rw [h1] at hs; simp only [cond_true, Option.some.injEq, Prod.mk.injEq] at hs
    rw [hs.2]
  | false =>
    rw [h1] at hs; simp only [cond_false] at hs
    cases hg : h.get b with
    | none => rw [hg] at hs; cases hs
    | some ob =>
      rw [hg] at hs
      cases ob with
      | row e' cs own more =>
        simp only at hs; obtain ⟨_, hs⟩ := aT hs
        cases h3 : Nat.beq mk 1 with
        | true =>
          rw [h3] at hs; simp only [cond_true, Option.some.injEq] at hs
          exact yM hs c hn
        | false =>
          rw [h3] at hs; simp only [cond_false] at hs; obtain ⟨_, hs⟩ := aT hs
          cases h5 : Nat.ble (o + (n + m) * i.size) cs.length with
          | true =>
            rw [h5] at hs; simp only [cond_true, Option.some.injEq, Prod.mk.injEq] at hs; rw [<- hs.2]
            cases Nat.beq m 0 with
            | true => rfl
            | false => simp only [cond_false]; rw [U.cX hg, if_neg hc]
          | false =>
            rw [h5] at hs; simp only [cond_false] at hs
            cases more with
            | false =>
              simp only [Bool.not_false, cond_true, Option.some.injEq] at hs
              exact yM hs c hn
            | true =>
              simp only [Bool.not_true, cond_false] at hs; obtain ⟨_, hs⟩ := aT hs; simp only [Option.some.injEq] at hs
              rw [yM hs c hn, U.cK, if_neg hc]
      | _ => cases hs
theorem QB {at_ : Array TypeId} {s x : Value} {n mk b o : Nat} {h h' : U} {v : Value} (ha : s = .slice (some ⟨b, o, none⟩) n mk) (hs : fM P at_ s x h = some (v, h')) (c : Nat) (hc : c ≠ b) (hn : c < h.next) : h'.get c = h.get c := by
  unfold fM at hs; split at hs
  . split at hs
    . split at hs
      . split at hs
        . split at hs
          . obtain ⟨_, hs⟩ := aT hs; exact XB ha hs c hc hn
          cases hs
        cases hs
      cases hs
    cases hs
  cases hs
theorem QE {call : FuncId -> List Value -> U -> Option (Value × U)} {yield : Nat -> List Value -> U -> Option (Value × U)} {o : Oper} {ev : Operand -> Value} {h h' : U} {v : Value} {k : Nat}
    (hs : cP P call yield o ev h = some (v, h')) (ht : rU o.op ev = some k) (c : Nat) (hc : c ≠ k) (hn : c < h.next) : h'.get c = h.get c := by
  unfold rU at ht; split at ht
  . rename_i T a x dU; split at ht
    . rename_i b o' cB; simp only [Option.some.injEq] at ht; subst ht; unfold cP at hs; rw [dU] at hs; simp only at hs; obtain ⟨h2, h3, h4⟩ := Option.map_eq_some_iff.1 hs; simp only [Prod.mk.injEq] at h4; rw [<- h4.2]; exact TA cB h3 c hc
    cases ht
  . rename_i dU; split at ht
    . rename_i b o' n' mk' rest cB; simp only [Option.some.injEq] at ht; subst ht; unfold cP at hs; rw [dU] at hs; simp only at hs; unfold vY at hs; rw [cB] at hs
      cases rest with
      | nil => cases hs
      | cons x rest =>
        cases rest with
        | nil => exact QB rfl hs c hc hn
        | cons y rest => cases hs
    cases ht
  cases ht
section
variable {h0 : U} {ops : Array Oper} {n : Nat} {call : FuncId -> List Value -> U -> Option (Value × U)} {yield : Nat -> List Value -> U -> Option (Value × U)}
structure KL (P : Program) (call : FuncId -> List Value -> U -> Option (Value × U)) (yield : Nat -> List Value -> U -> Option (Value × U)) (ops : Array Oper) (n : Nat) (h0 : U) (rd chg : List Nat) (o : Oper) (i : Nat) (s s' : dT) : Prop where
  bs : s'.bs = s.bs ++ [aM s.bs o]
  EP : AL (cP P call yield) ops n (fun b ob => h0.get b = some ob /\ b < h0.next /\ b ∈ rd) o i s s'
  next : s.h.next <= s'.h.next
  aV : ∀ b, b < s.h.next -> b ∉ chg -> s'.h.get b = s.h.get b
theorem AL.mono {step : Oper -> (Operand -> Value) -> U -> Option (Value × U)} {X X' : Nat -> bC -> Prop} {o : Oper} {i : Nat} {s s' : dT} (h : AL step ops n X o i s s') (hX : ∀ b ob, X b ob -> X' b ob) : AL step ops n X' o i s s' := by
  cases h with
  | skip hw hp hh hs hm ht => exact .skip hw hp hh hs hm ht
  | calm hw hc v h' bT hn hp hh hs hm ht => exact .calm hw hc v h' bT hn hp hh hs hm ht
  | still hw v aA hX0 bT hp hh hs hm ht => exact .still hw v aA (fun b ob hl => hX b ob (hX0 b ob hl)) bT hp hh hs hm ht
  | mem hw hc v h' ord ho lR bT hn hp hm hs gU hk => exact .mem hw hc v h' ord ho lR bT hn hp hm hs gU hk
theorem KL.mono {rd rd' chg DI : List Nat} {o : Oper} {i : Nat} {s s' : dT} (h : KL P call yield ops n h0 rd chg o i s s') (h1 : ∀ b ∈ rd, b ∈ rd') (h2 : ∀ b ∈ chg, b ∈ DI) : KL P call yield ops n h0 rd' DI o i s s' :=
  ⟨h.bs, h.EP.mono fun b ob ⟨a, b1, c⟩ => ⟨a, b1, h1 b c⟩, h.next, fun b hb hn => h.aV b hb fun hm => hn (h2 b hm)⟩
theorem TB {lo hi : Nat} {l aA : List (Nat × bC)} {c : Nat} (hc : c < lo) : look (bI lo hi l ++ aA) c = look aA c := by
  rw [jO]
  cases hl : look (bI lo hi l) c with
  | none => rfl
  | some o => have := (fA _ _ _ hl).1; omega
theorem QG {o : Oper} {i : Nat} {x x' : uT} (hw : bL ops x.1.t o = some true) (hc : calm o.op = false) (hf : p4 P (cP P call yield) ops n o i x = some x') :
    x'.2.1 = x.2.1 /\ (∀ k ∈ x.2.2, k ∈ x'.2.2) /\ KL P call yield ops n h0 x'.2.1 x'.2.2 o i x.1 x'.1 := by
  unfold p4 at hf; simp only at hf; generalize gR : Nat.beq (x.1.mem &&& aM x.1.bs o) x.1.mem = ord at hf
  cases lO : (x.1.tail && !ord) with
  | true => rw [lO] at hf; cases hf
  | false =>
    rw [lO] at hf; simp only [cond_false] at hf
    have lR : x.1.tail = true -> ord = true := fun h => by rw [h] at lO; simpa using lO
    split at hf
    . rename_i v h' bT
      cases bO : Nat.blt h'.next x.1.h.next with
      | true => rw [bO] at hf; cases hf
      | false =>
        rw [bO] at hf; simp only [cond_false] at hf
        have hn : x.1.h.next <= h'.next := by have := iG bO; omega
        split at hf
        . rename_i t hp
          cases dW : Nat.ble x.1.h.next h'.low with
          | true =>
            rw [dW] at hf; simp only [cond_true, Option.some.injEq] at hf; subst hf
            exact ⟨rfl, fun k hk => hk, rfl, .mem hw hc v h' ord gR.symm lR bT hn hp rfl rfl rfl (.inl ⟨fY dW, rfl, rfl, rfl⟩), hn, fun b hb _ => TB hb⟩
          | false =>
            rw [dW] at hf; simp only [cond_false] at hf; obtain ⟨h5, h6⟩ := aT hf; split at h6
            . rename_i k hk; simp only [Option.some.injEq] at h6; subst h6; refine ⟨rfl, fun k' Q4 => List.mem_cons_of_mem _ Q4, rfl, .mem hw hc v h' ord gR.symm lR bT hn hp rfl rfl rfl (.inr ⟨h5, rfl, rfl, rfl⟩), hn, fun b hb hnb => ?_⟩; subst h5; have := QE bT hk b (fun e => hnb (by subst e; exact List.mem_cons_self)) hb; exact this
            cases h6
        cases hf
    cases hf
theorem NA {o : Oper} {i : Nat} {x x' : uT} (hf : fN P h0 (cP P call yield) ops n o i x = some x') :
    (∀ b ∈ x.2.1, b ∈ x'.2.1) /\ (∀ k ∈ x.2.2, k ∈ x'.2.2) /\ KL P call yield ops n h0 x'.2.1 x'.2.2 o i x.1 x'.1 := by
  unfold fN at hf; simp only at hf; split at hf
  . rename_i hw; obtain ⟨t, h1, h2⟩ := Option.map_eq_some_iff.1 hf; subst h2; exact ⟨fun _ h => h, fun _ h => h, rfl, .skip hw h1 rfl rfl rfl rfl, Nat.le_refl _, fun _ _ _ => rfl⟩
  . cases hf
  rename_i hw; split at hf
  . rename_i hc; split at hf
    . rename_i v h' bT; obtain ⟨h3, h4⟩ := aT hf; obtain ⟨t, h1, h2⟩ := Option.map_eq_some_iff.1 h4; subst h2; exact ⟨fun _ h => h, fun _ h => h, rfl, .calm hw hc v h' bT (bV h3) h1 rfl rfl rfl rfl, Nat.le_refl _, fun _ _ _ => rfl⟩
    cases hf
  rename_i hc
  have hc : calm o.op = false := by simpa using hc
  split at hf
  . rename_i v b hq; obtain ⟨t, h1, h2⟩ := Option.map_eq_some_iff.1 hf; subst h2; refine ⟨fun _ h => List.mem_append_right _ h, fun _ h => h, rfl, ?_, Nat.le_refl _, fun _ _ _ => rfl⟩; unfold qP at hq; split at hq
    . rename_i T a dU; split at hq
      . rename_i b' o' cB; split at hq
        . rename_i ob hg; obtain ⟨h3, h4⟩ := aT hq; obtain ⟨v', h5, h6⟩ := Option.map_eq_some_iff.1 h4; simp only [Prod.mk.injEq] at h6; obtain ⟨rfl, rfl⟩ := h6; refine .still hw v' [(b', ob)] (fun c oc hl => ?_) ?_ h1 rfl rfl rfl rfl
          . simp only [look] at hl
            cases BE : Nat.beq b' c with
            | true =>
              rw [BE] at hl; simp only [cond_true, Option.some.injEq] at hl; obtain rfl := bV BE; subst hl
              exact ⟨hg, jA h3, List.mem_append_left _ List.mem_cons_self⟩
            | false => rw [BE] at hl; cases hl
          unfold cP; rw [dU]; simp only [cB, h5, Option.map_some]
        cases hq
      cases hq
    . rename_i dU; split at hq
      . rename_i y l7; obtain ⟨v', h5, h6⟩ := Option.map_eq_some_iff.1 hq; simp only [Prod.mk.injEq] at h6; obtain ⟨rfl, rfl⟩ := h6; refine .still hw v' [] (fun c oc hl => by cases hl) ?_ h1 rfl rfl rfl rfl; unfold cP; rw [dU]; simp only [vY, l7, List.map_cons, List.map_nil, h5, Option.map_some]
      cases hq
    . rename_i T a lo hi mx dU; split at hq
      . rename_i p' mk' cB; obtain ⟨v', h5, h6⟩ := Option.map_eq_some_iff.1 hq; simp only [Prod.mk.injEq] at h6; obtain ⟨rfl, rfl⟩ := h6; refine .still hw v' [] (fun c oc hl => by cases hl) ?_ h1 rfl rfl rfl rfl; unfold cP; rw [dU]; simp only [cB, h5, Option.map_some]
      . rename_i b' o' n' mk' cA cB; split at hq
        . rename_i ob hg; obtain ⟨h3, h4⟩ := aT hq; obtain ⟨v', h5, h6⟩ := Option.map_eq_some_iff.1 h4; simp only [Prod.mk.injEq] at h6; obtain ⟨rfl, rfl⟩ := h6; refine .still hw v' [(b', ob)] (fun c oc hl => ?_) ?_ h1 rfl rfl rfl rfl
          . simp only [look] at hl
            cases BE : Nat.beq b' c with
            | true =>
              rw [BE] at hl; simp only [cond_true, Option.some.injEq] at hl; obtain rfl := bV BE; subst hl
              exact ⟨hg, jA h3, List.mem_append_left _ List.mem_cons_self⟩
            | false => rw [BE] at hl; cases hl
          unfold cP; rw [dU]; simp only [cB, h5, Option.map_some]
        cases hq
      cases hq
    cases hq
  obtain ⟨e1, e2, e3⟩ := QG (h0 := h0) hw hc hf; exact ⟨fun b hb => by rw [e1]; exact hb, e2, e3⟩
theorem GW : ∀ (l : List Oper) (i : Nat) (x x' : uT), iW P h0 (cP P call yield) ops n l i x = some x' -> (∀ b ∈ x.2.1, b ∈ x'.2.1) /\ (∀ k ∈ x.2.2, k ∈ x'.2.2) /\ ∃ st : Nat -> dT, st i = x.1 /\ st (i + l.length) = x'.1 /\
    ∀ j o, l[j]? = some o -> KL P call yield ops n h0 x'.2.1 x'.2.2 o (i + j) (st (i + j)) (st (i + j + 1))
  | [], i, x, x', h => by
    simp only [iW, Option.some.injEq] at h; subst h
    exact ⟨fun _ h => h, fun _ h => h, fun _ => x.1, rfl, rfl, fun j o hj => by simp at hj⟩
  | o :: l, i, x, x', h => by
    simp only [iW] at h; split at h
    . rename_i x1 FC; obtain ⟨a1, a2, a3⟩ := NA FC; obtain ⟨b1, b2, st, h1, h2, h3⟩ := GW l (i + 1) x1 x' h; refine ⟨fun b hb => b1 b (a1 b hb), fun k hk => b2 k (a2 k hk), fun k => if k = i then x.1 else st k, by simp, ?_, fun j o' hj => ?_⟩
      . simp only [List.length_cons]; rw [if_neg (by omega), <- h2]; congr 1; omega
      cases j with
      | zero =>
        simp at hj; subst hj
        simpa [h1] using a3.mono b1 b2
      | succ j =>
        simp only [List.getElem?_cons_succ] at hj; have := h3 j o' hj; rw [show i + 1 + j = i + (j + 1) by omega] at this; simp only; rw [if_neg (by omega), if_neg (by omega)]; exact this
    cases h
theorem XC {t0 : Tr} {s : dT} (h : tS P h0 (cP P call yield) ops n ⟨t0, h0, [], [], 0, false⟩ = some s) : ∃ st, Trace (cP P call yield) ops n st t0 h0 /\ st ops.size = s := by
  unfold tS at h; split at h
  . rename_i x hr; obtain ⟨hl, h⟩ := aT h; simp only [Option.some.injEq] at h; subst h; obtain ⟨_, _, st, h1, h2, h3⟩ := GW _ _ _ _ hr
    have I9 : st ops.size = x.1 := by simpa using h2
    have IF : ∀ i o, ops[i]? = some o -> KL P call yield ops n h0 x.2.1 x.2.2 o i (st i) (st (i + 1)) := fun i o ho => by
      have := h3 i o (by simpa using ho); simpa only [Nat.zero_add] using this
    have pG : ∀ b ∈ x.2.1, b ∉ x.2.2 := fun b hb hk => by
      have := List.all_eq_true.1 (List.all_eq_true.1 hl b hb) b hk; simp at this
    have bT : ∀ q, q <= ops.size -> h0.next <= (st q).h.next /\ ∀ b, b < h0.next -> b ∉ x.2.2 -> (st q).h.get b = h0.get b := fun q => by
      induction q with
      | zero => intro _; rw [h1]; exact ⟨Nat.le_refl _, fun _ _ _ => rfl⟩
      | succ q ih =>
        intro hq; obtain ⟨i1, i2⟩ := ih (by omega); have hd := IF q ops[q] (Array.getElem?_eq_getElem (by omega)); exact ⟨Nat.le_trans i1 hd.next, fun b hb hn => (hd.aV b (by omega) hn).trans (i2 b hb hn)⟩
    refine ⟨st, ⟨h1, fun i o ho => ?_⟩, I9⟩; have hd := IF i o ho; refine ⟨hd.bs, hd.EP.mono fun b ob ⟨a, b1, c⟩ => ⟨a, b1, .inr fun q hq => ?_⟩⟩; rw [(bT q hq).2 b b1 (pG b c)]; exact a
  cases h
end
section
variable {call : FuncId -> List Value -> U -> Option (Value × U)} {yield : Nat -> List Value -> U -> Option (Value × U)} {ops : Array Oper} {n : Nat} {t0 : Tr} {h0 : U} {S : Nat -> Prop} {ρ0 : Ren} {B : Nat} {w0 : World}
theorem XD (iZ : lG P B w0 call) (pW : gE P B w0 yield) (bZ : oJ ops = true) {s : dT} (hf : tS P h0 (cP P call yield) ops n ⟨t0, h0, [], [], 0, false⟩ = some s)
    {w : World} {a : Act} (hr : HR P ρ0 S B w0 h0 w) (ht : lE ρ0 S t0 n a.tmps) {r : Option Nat} {nn : Nat} {Q : Exit -> Act -> World -> Prop}
    (k : ∀ bY w' a', aU P B w0 ρ0 bY S h0 s.h w w' -> lE bY (Ext S h0 s.h) s.t n a'.tmps -> a'.defers = a.defers -> Q .normal a' w') (t : Nat) :
    wpOpsIn (sU r) nn P ops Q (Region.schedule true ops t) a w := wG iZ pW bZ (XC hf) hr ht k t
end
end Go.Fs
