/- Parts of the proof: an evaluator of the model, what it is sound for, and contracts of functions. No condition. -/
import Derived.Test.YtgkcodkgcnbdeaaGreatP1
import Derived.RangeFuncRecord
import Derived.LoopNIn
import Derived.Test.YtgkcodkgcnbdeaaGreatP0
import Derived.KernelRfl
set_option linter.all false
namespace Go.Fs
open Go.RowKit (Below)
variable {P : Program}
section
variable {call : FuncId -> List Value -> aA -> Option (Value × aA)} {yield : Nat -> List Value -> aA -> Option (Value × aA)} {ops : Array Oper} {n : Nat} {st : Nat -> dS} {t0 : Tr} {h0 : aA}
variable {S : Nat -> Prop} {ρ0 : Ren} {B : Nat} {w0 ws : World} {d0 : List Deferred}
theorem HR.empty {ρ : Ren} {S S1 : Nat -> Prop} {H : aA} {w : World} (hr : HR P ρ S B w0 H w) (h1 : ∀ b, S1 b -> S b) {nx : Nat} (j6 : ∀ b, S1 b -> b < nx) (nF : 0 < nx) :
    HR P ρ S1 B w0 { next := nx, low := nx, aB := [] } w where
  aB := fun i o hi => by cases hi
  inj := fun i j oi oj hi => by cases hi
  base := fun i o hi => by cases hi
  ro := fun i o hi => by cases hi
  ids := fun b hb => ⟨j6 b hb, (hr.ids b (h1 b hb)).2⟩
  pos := nF
  below := hr.below
  drawn := hr.drawn
  size := hr.size
theorem aZ.ajW {ρ : Ren} {H : aA} {w : World} {L : Nat} (hr : HR P ρ S B w0 H w) : tW P B w0 ρ ρ S S H H L w w where
  agree := fun _ _ => rfl
  sub := fun _ hb => hb
  hr := hr
  frame := Frame.refl _ _ _
  aW := fun _ _ _ => rfl
  old := fun _ o ho _ => ⟨o, ho, rfl⟩
  fresh := fun i o ho hS => absurd (hr.aB i o ho).1 hS
theorem aaX (alL : HR P ρ0 S B w0 h0 ws) (gW : lG P B w0 call) (pX : gD P B w0 yield) (T : Trace (cQ P call yield) ops n st t0 h0) (nW : nV ops) (pE : G0 ops) (hn : n <= 4000) (W2 : K7 st ops)
    (j9 : ∀ b, S b -> b < h0.next) (IG : ∀ b o, h0.get b = some o -> S b) (adU : 0 < h0.next) {r : Option Nat} {nn : Nat} {Q : Exit -> Act -> World -> Prop}
    (k : ∀ E ρ H w a, (∀ i, i < ops.size -> E i = true) -> Inv P B w0 st ops n t0 h0 S ρ0 ws d0 E ρ H w a -> Q .normal a w) :
    ∀ (E : Nat -> Bool) (l : List Nat), C3 ops E l -> ∀ ρ H w a, Inv P B w0 st ops n t0 h0 S ρ0 ws d0 E ρ H w a -> wpOpsIn (q5 r) nn P ops Q l a w := by
  intro E l hs
  induction hs with
  | nil E jA => intro ρ H w a I; exact k E ρ H w a jA I
  | cons E i o l ho hE he _ ih =>
    intro ρ H w a I; have hi : i < ops.size := (Array.getElem?_eq_some_iff.1 ho).1; have yJ := T.SL nW I.down ho he; have JW := I.tmp.look T nW pE hn W2 I.down ho hE he; have bY := N4 JW
    have Q9 : ∀ b, bJ ops (st i).t o = some b -> Region.wanted o (yielded ops a.tmps) = b := fun b hb => K4 (fun j want d hg hd => by
      refine JW d ?_; unfold Oper.looksAt; refine List.mem_append_right _ ?_; rw [hg]
      simp [hd]) hb
    have Q0 : h0.next <= (st i).h.next := by have := T.next 0 i (by omega) (by omega); rwa [T.zero] at this
    have G4 : ∀ b, SB st ops S i b -> b < (st i).h.next := T.ZB j9 (by omega) (T.PX nW i); simp only [wpOpsIn, ho]; have alM := (T.FX i o ho).2
    cases alM with
    | skip hw hp hh hs hm ht =>
      rw [if_neg (by rw [Q9 _ hw]; simp)]; refine ⟨r6, ?_⟩; have AL : ¬ nK st ops i := fun h => h.2 (by rw [hs])
      exact ih ρ H w _ (I.quiet ho AL hh yJ (fun _ _ => rfl) (aZ.ajW I.cI.hr) (I.tmp.put pE hn I.down (fun _ _ => rfl) ho hE hp VR.undef) (put_defers _ _ _))
    | calm hw hc v h' bR j6 hp hh hs hm ht =>
      rw [if_pos (Q9 _ hw)]; have AL : ¬ nK st ops i := fun h => h.2 (by rw [hs]); have nL : ∀ b, SB st ops S i b -> SE st ops S E b := fun b hb => gP yJ b hb; have sM := I.cI.hr.empty nL G4 (by omega : 0 < (st i).h.next); refine K3 gW pX sM bY bR fun cS w1 v1 m hv => ?_
      have G5 := DQ (H2 := H) (S2 := SE st ops S E) (L := min (st ops.size).h.low h0.next) I.cI.hr nL (fun b o' hg => by cases hg) sM m (fun b h1 h2 => by
          have h3 : (st i).h.next <= b := h1
          omega) (fun b => ⟨.inl, fun h => by
            rcases h with h | ⟨h1, h2⟩
            . exact h
            have h3 : (st i).h.next <= b := h1
            omega⟩) (fun b hb => (I.cI.hr.ids b hb).1) I.cI.hr.pos
        (fun b o' hb hg => absurd (I.cI.hr.aB b o' hg).1 hb) (fun b o' hb hg => .inr ⟨rfl, hg⟩) (fun b o' hb hg => absurd (I.cI.hr.aB b o' hg).1 hb) (fun _ _ _ => rfl)
      have fI : ∀ b, SE st ops S E b -> glue (SE st ops S E) ρ cS b = ρ b := fun b hb => jR hb; refine ih _ H w1 _ (I.quiet ho AL hh yJ fI G5 (I.tmp.put pE hn I.down fI ho hE hp (hv.mono fun b hb => ?_)) (put_defers _ _ _)); rcases hb with hb | ⟨h1, h2⟩
      . exact ⟨gP (fun m hm => .inr hm) b hb, by rw [jR (nL b hb), m.agree b hb]⟩
      have h3 : (st i).h.next <= b := h1
      omega
    | still hw v aB hX bR hp hh hs hm ht =>
      rw [if_pos (Q9 _ hw)]; have AL : ¬ nK st ops i := fun h => h.2 (by rw [hs]); have nL : ∀ b, SB st ops S i b -> SE st ops S E b := fun b hb => gP yJ b hb; have hSb : ∀ b ob, look aB b = some ob -> S b := fun b ob hl => IG b ob (hX b ob hl).1
      have W8 : ∀ b ob, look aB b = some ob -> H.get b = some ob := fun b ob hl => by
        obtain ⟨hX1, hX2, hX3⟩ := hX b ob hl; rcases hX3 with hX3 | hX3
        . rw [I.cI.aW b (hSb b ob hl) (by omega)]; exact hX1
        rcases I.mode with A | ⟨p, Bm⟩
        . rw [A.base b hX2]; exact hX1
        rw [Bm.get b]; exact hX3 p Bm.le
      have sM : HR P ρ (SB st ops S i) B w0 { next := (st i).h.next, low := (st i).h.next, aB := aB } w := {
        aB := fun c oc hc => by
          have hS := hSb c oc hc; refine ⟨.inl hS, ?_⟩; have h1 := (alL.aB c oc (hX c oc hc).1).2; have h2 := (I.cI.hr.aB c oc (W8 c oc hc)).2; have h3 := I.cI.agree c hS; rw [<- h3] at h1; exact (h1.yH h2 I.cI.agree).mono fun c hc => ⟨.inl hc, I.cI.agree c hc⟩
        inj := fun c d oc od hc hd => I.cI.hr.inj c d oc od (W8 c oc hc) (W8 d od hd)
        base := fun c oc hc => I.cI.hr.base c oc (W8 c oc hc)
        ro := fun c oc hc => I.cI.hr.ro c oc (W8 c oc hc)
        ids := fun c hc => ⟨G4 c hc, (I.cI.hr.ids c (nL c hc)).2⟩
        pos := (by omega : 0 < (st i).h.next)
        below := I.cI.hr.below
        drawn := I.cI.hr.drawn
        size := I.cI.hr.size }
      refine K3 gW pX sM bY bR fun cS w1 v1 m hv => ?_
      have G5 := DQ (H2 := H) (S2 := SE st ops S E) (L := min (st ops.size).h.low h0.next) I.cI.hr nL (hm := { next := (st i).h.next, low := (st i).h.next, aB := aB }) W8 sM m (fun b h1 h2 => by
          have h3 : (st i).h.next <= b := h1; have h4 : b < (st i).h.next := h2
          omega) (fun b => ⟨.inl, fun h => by
            rcases h with h | ⟨h1, h2⟩
            . exact h
            have h3 : (st i).h.next <= b := h1; have h4 : b < (st i).h.next := h2
            omega⟩) (fun b hb => (I.cI.hr.ids b hb).1) I.cI.hr.pos
        (fun b o' hb hg => absurd (I.cI.hr.aB b o' hg).1 hb) (fun c oc hc hg => by
          cases hq : look aB c with
          | none => exact .inr ⟨hq, hg⟩
          | some o2 =>
            have h3 := W8 c o2 hq; rw [hg] at h3; injection h3 with h3; subst h3
            exact .inl ⟨by show look aB c ≠ none; rw [hq]; simp, hq⟩) (fun b o' hb hg => absurd (I.cI.hr.aB b o' hg).1 hb) (fun _ _ _ => rfl)
      have fI : ∀ b, SE st ops S E b -> glue (SE st ops S E) ρ cS b = ρ b := fun b hb => jR hb; refine ih _ H w1 _ (I.quiet ho AL hh yJ fI G5 (I.tmp.put pE hn I.down fI ho hE hp (hv.mono fun b hb => ?_)) (put_defers _ _ _)); rcases hb with hb | ⟨h1, h2⟩
      . exact ⟨gP (fun m hm => .inr hm) b hb, by rw [jR (nL b hb), m.agree b hb]⟩
      have h3 : (st i).h.next <= b := h1; have h4 : b < (st i).h.next := h2
      omega
    | mem hw hc v h' ord iW lT bR hnn hp hm hs j6 hk =>
      rw [if_pos (Q9 _ hw)]; have W4 : nK st ops i := ⟨hi, by rw [hs]; simp⟩; obtain ⟨sM, hgo⟩ := I.adT T nW j9 IG adU ho hE W4 yJ iW lT (v := v) j6 hnn hk; refine K3 gW pX sM bY bR fun cS w1 v1 m hv => ?_; obtain ⟨iZ, H2, I2⟩ := hgo cS w1 v1 (a.put o.dst v1) m hv (put_defers _ _ _) fun iZ fI hv2 => I.tmp.put pE hn I.down fI ho hE hp hv2; exact ih iZ H2 w1 _ I2
theorem Inv.end {E : Nat -> Bool} {ρ : Ren} {H : aA} {w : World} {a : Act} {step : Oper -> (Operand -> Value) -> aA -> Option (Value × aA)} (T : Trace step ops n st t0 h0) (pE : G0 ops) (hn : n <= 4000)
    (j9 : ∀ b, S b -> b < h0.next) (IG : ∀ b o, h0.get b = some o -> S b) (I : Inv P B w0 st ops n t0 h0 S ρ0 ws d0 E ρ H w a) (jA : ∀ i, i < ops.size -> E i = true) :
    aZ P B w0 ρ0 ρ S h0 (st ops.size).h ws w /\ lF ρ (Ext S h0 (st ops.size).h) (st ops.size).t n a.tmps := by
  have hM := I.cI; have qG := hM.hr
  have Q0 : h0.next <= (st ops.size).h.next := by have := T.next 0 ops.size (by omega) (by omega); rwa [T.zero] at this
  have hSE : ∀ b, SE st ops S E b -> Ext S h0 (st ops.size).h b := fun b hb => by
    rcases hb with hb | ⟨m, h1, h2, h3⟩
    . exact .inl hb
    refine .inr ⟨T.PY h2 h3, ?_⟩; have := T.next (m + 1) ops.size (by omega) (by omega); exact Nat.lt_of_lt_of_le h3.2 this
  have aiJ : ∀ b, SE st ops S E b -> b < h0.next -> S b := fun b hb bL => by
    rcases hb with hb | ⟨m, h1, h2, h3⟩
    . exact hb
    have := T.PY h2 h3; omega
  -- the same objects
  have jE : ∀ b, (st ops.size).h.get b = H.get b := fun b => by
    rcases I.mode with A | ⟨p, Bm⟩
    . have ht : (st ops.size).tail = false := by
        cases h : (st ops.size).tail with
        | false => rfl
        | true =>
          obtain ⟨k, h1, h2, h3⟩ := T.C6 ops.size (by omega) h; rw [A.calm k (jA k h1) h2] at h3; cases h3
      obtain ⟨sb1, sb2, sb3⟩ := T.PZ (fun b o' hg => j9 b (IG b o' hg)) ops.size (by omega) ht; by_cases h1 : b < h0.next
      . rw [sb1 b h1, A.base b h1]
      by_cases h2 : b < (st ops.size).h.next
      . obtain ⟨m, h3, h4⟩ := T.cover ops.size (by omega) b (by omega) h2; rw [sb2 m h3 b h4, A.news m (jA m h3) h3 b h4]
      have e1 : (st ops.size).h.get b = none := by
        cases hq : (st ops.size).h.get b with
        | none => rfl
        | some o => have := sb3 b o hq; omega
      have e2 : H.get b = none := by
        cases hq : H.get b with
        | none => rfl
        | some o =>
          have h3 := hSE b (qG.aB b o hq).1; rcases h3 with h3 | h3
          . have := j9 b h3; omega
          omega
      rw [e1, e2]
    rw [Bm.get b]
    have hqh : ∀ q, p <= q -> q <= ops.size -> (st q).h = (st p).h := fun q => by
      induction q with
      | zero => intro h1 _; have : p = 0 := by omega
                subst this; rfl
      | succ q ih =>
        intro h1 h2; by_cases hq : p = q + 1
        . subst hq; rfl
        have Q6 : ops[q]? = some ops[q] := Array.getElem?_eq_getElem (by omega); rcases T.wM q _ Q6 with ⟨h3, _⟩ | ⟨_, _, _, h3, _⟩
        . exfalso; have := (Bm.all q h3).1 (jA q (by omega)); omega
        rw [h3]; exact ih (by omega) (by omega)
    rw [hqh ops.size Bm.le (Nat.le_refl _)]
  refine ⟨{
    agree := hM.agree
    next := Q0
    hr := {
      aB := fun i o hi => by
        rw [jE] at hi; obtain ⟨h1, h2⟩ := qG.aB i o hi; exact ⟨hSE i h1, h2.mono fun b hb => ⟨hSE b hb, rfl⟩⟩
      inj := fun i j oi oj hi hj => by rw [jE] at hi hj; exact qG.inj i j oi oj hi hj
      base := fun i o hi => by rw [jE] at hi; exact qG.base i o hi
      ro := fun i o hi => by rw [jE] at hi; exact qG.ro i o hi
      ids := fun b hb => by
        rcases hb with hb | hb
        . have := j9 b hb; exact ⟨by omega, (qG.ids b (hM.sub b hb)).2⟩
        obtain ⟨m, h3, h4⟩ := T.cover ops.size (by omega) b hb.1 hb.2; exact ⟨hb.2, (qG.ids b (.inr ⟨m, jA m h3, h3, h4⟩)).2⟩
      pos := by have := qG.pos; rwa [I.next] at this
      below := qG.below
      drawn := qG.drawn
      size := qG.size }
    frame := hM.frame
    low := by have := T.low 0 ops.size (by omega) (by omega); rwa [T.zero] at this
    aW := fun i hi hl => by
      rw [jE]; by_cases hS : S i
      . exact hM.aW i hS (by omega)
      have e1 : h0.get i = none := by
        cases hq : h0.get i with
        | none => rfl
        | some o => exact absurd (IG i o hq) hS
      have e2 : H.get i = none := by
        cases hq : H.get i with
        | none => rfl
        | some o => exact absurd (aiJ i (qG.aB i o hq).1 hi) hS
      rw [e1, e2]
    old := fun i o hi bL => by
      rw [jE] at hi; exact hM.old i o hi (aiJ i (qG.aB i o hi).1 bL)
    fresh := fun i o hi PK => by
      rw [jE] at hi
      obtain ⟨h1, h2⟩ := hM.fresh i o hi fun hS => by have := j9 i hS; omega
      refine ⟨h1, ?_⟩; rcases h2 with h2 | ⟨j, oj, h3, h4, h5, h6⟩
      . exact .inl h2
      have h7 := j9 j (IG j oj h3)
      exact .inr ⟨j, oj, h3, h4, h5, by omega, h7⟩ }, ?_⟩
  obtain ⟨t1, t2, t3⟩ := I.tmp; refine ⟨t1, hn, fun x => ?_⟩; by_cases hw : ∃ (j : Nat) (oj : Oper), ops[j]? = some oj /\ oj.dst = some x
  . obtain ⟨j, oj, hj, IF⟩ := hw; have N6 : j < ops.size := (Array.getElem?_eq_some_iff.1 hj).1; rw [T.K9 pE hn ops.size (Nat.le_refl _) j oj x N6 hj IF]; exact (t2 j oj x (jA j N6) hj IF).mono fun b hb => ⟨hSE b (Q1 I.down (jA j N6) b hb), rfl⟩
  rw [T.DV hn ops.size (Nat.le_refl _) x fun j oj _ bW KA => hw ⟨j, oj, bW, KA⟩]; exact (t3 x fun j oj _ bW KA => hw ⟨j, oj, bW, KA⟩).mono fun b hb => ⟨.inl hb, rfl⟩
theorem KE {ops : Array Oper} {x : Tmp} {j : Nat} {oj : Oper} (hj : ops[j]? = some oj) (hx : oj.dst = some x) : j ∈ PF ops.toList x := by
  unfold PF; refine List.mem_filterMap.2 ⟨(oj, j), ?_, ?_⟩
  . rw [List.mem_zipIdx_iff_getElem?]; simpa using hj
  simp [hx]
theorem KF {ops : Array Oper} (h : oQ ops = true) : nV ops /\ G0 ops /\
    ∀ (i : Nat) (oi : Oper), ops[i]? = some oi -> ∀ x ∈ oi.looksAt ops, ∀ (j : Nat) (oj : Oper), ops[j]? = some oj -> oj.dst = some x ->
      j = i \/ ((D9 ops.toList []).getD i 0).testBit j = true \/ ((D9 ops.toList []).getD j 0).testBit i = true := by
  have key : ∀ (i : Nat) (o : Oper), ops[i]? = some o -> RU ops ops.toList (D9 ops.toList []) o i = true := fun i o ho => by
    unfold oQ at h; have := List.all_eq_true.1 h (o, i) (by rw [List.mem_zipIdx_iff_getElem?]; simpa using ho); exact this
  refine ⟨fun i o ho e he hb => ?_, fun i j oi oj d hi hj hdi hdj => ?_, fun i oi hi x hx j oj hj IF => ?_⟩
  . have := key i o ho; unfold RU at this; obtain ⟨h1, _⟩ := b6 this; obtain ⟨h2, _⟩ := b6 h1; have := List.all_eq_true.1 h2 e he; rw [hb] at this; exact jP (by simpa using this)
  . have := key i oi hi; unfold RU at this; obtain ⟨h1, _⟩ := b6 this; obtain ⟨_, h2⟩ := b6 h1; rw [hdi] at h2; exact bU (List.all_eq_true.1 h2 j (KE hj hdj))
  have := key i oi hi; unfold RU at this; obtain ⟨_, h1⟩ := b6 this; have h2 := List.all_eq_true.1 (List.all_eq_true.1 h1 x hx) j (KE hj IF); simp only [Bool.or_eq_true] at h2; rcases h2 with (h2 | h2) | h2
  . exact .inl (bU h2)
  . exact .inr (.inl h2)
  exact .inr (.inr h2)
theorem H8 {step : Oper -> (Operand -> Value) -> aA -> Option (Value × aA)} (T : Trace step ops n st t0 h0) : ∀ (l : List Oper) (i : Nat), l = ops.toList.drop i -> i <= ops.size -> D9 l (st i).bs = (st ops.size).bs
  | [], i, hl, hi => by
    have : ops.size <= i := by
      have := congrArg List.length hl; simp at this; omega
    have : i = ops.size := by omega
    subst this; rfl
  | o :: r, i, hl, hi => by
    have bL : i < ops.size := by
      have := congrArg List.length hl; simp at this; omega
    have ho : ops[i]? = some o := by
      have := congrArg (·[0]?) hl; simpa using this.symm
    have hr : r = ops.toList.drop (i + 1) := by
      have := congrArg List.tail hl; simpa using this
    simp only [D9]; rw [<- (T.FX i o ho).1]; exact H8 T r (i + 1) hr (by omega)
theorem wO (gW : lG P B w0 call) (pX : gD P B w0 yield) (bW : oQ ops = true) {s : dS} (hf : ∃ st, Trace (cQ P call yield) ops n st t0 h0 /\ st ops.size = s)
    {w : World} {a : Act} (hr : HR P ρ0 S B w0 h0 w) (ht : lF ρ0 S t0 n a.tmps) {r : Option Nat} {nn : Nat} {Q : Exit -> Act -> World -> Prop}
    (k : ∀ bT w' a', aZ P B w0 ρ0 bT S h0 s.h w w' -> lF bT (Ext S h0 s.h) s.t n a'.tmps -> a'.defers = a.defers -> Q .normal a' w') (t : Nat) :
    wpOpsIn (q5 r) nn P ops Q (Region.schedule true ops t) a w := by
  obtain ⟨nW, pE, alN⟩ := KF bW; obtain ⟨st, T, hs⟩ := hf; have j9 : ∀ b, S b -> b < h0.next := fun b hb => (hr.ids b hb).1; have IG : ∀ b o, h0.get b = some o -> S b := fun b o hg => (hr.aB b o hg).1
  have W9 : D9 ops.toList [] = (st ops.size).bs := by
    have := H8 T ops.toList 0 (by simp) (by omega)
    rwa [T.zero] at this
  have W2 : K7 st ops := fun i oi hi x hx j oj hj IF => by
    have h1 := alN i oi hi x hx j oj hj IF; have dI : i < ops.size := (Array.getElem?_eq_some_iff.1 hi).1; have y6 : j < ops.size := (Array.getElem?_eq_some_iff.1 hj).1; rw [W9, (T.bs ops.size (Nat.le_refl _)).2 i dI, (T.bs ops.size (Nat.le_refl _)).2 j y6] at h1; exact h1
  have alO : SE st ops S (fun _ => false) = S := funext fun b => propext ⟨fun hb => (by
    rcases hb with hb | ⟨m, h1, _⟩
    . exact hb
    cases h1), fun hb => .inl hb⟩
  refine aaX (ρ0 := ρ0) (ws := w) (d0 := a.defers) hr gW pX T nW pE ht.2.1 W2 j9 IG hr.pos (fun E ρ H w' a' jA I => ?_) _ _ (W0 nW t) ρ0 { next := (st ops.size).h.next, low := 0, aB := h0.aB } w a
    ⟨?_, .inl ⟨fun k hk => (by cases hk), fun b _ => rfl, fun k hk => (by cases hk), fun b o hb hg => (hr.aB b o hg).2, fun k hk => (by cases hk)⟩, ⟨ht.1, fun k o d hk => (by cases hk), fun d _ => ht.2.2 d⟩, rfl, rfl, fun k hk => (by cases hk)⟩
  . obtain ⟨h1, h2⟩ := I.end T pE ht.2.1 j9 IG jA; rw [hs] at h1 h2; exact k ρ w' a' h1 h2 I.defers
  have Q0 : h0.next <= (st ops.size).h.next := by have := T.next 0 ops.size (by omega) (by omega); rwa [T.zero] at this
  rw [alO]
  exact {
    agree := fun _ _ => rfl
    sub := fun _ hb => hb
    hr := { aB := hr.aB, inj := hr.inj, base := hr.base, ro := hr.ro, ids := fun b hb => ⟨Nat.lt_of_lt_of_le (hr.ids b hb).1 Q0, (hr.ids b hb).2⟩, pos := Nat.lt_of_lt_of_le hr.pos Q0, below := hr.below, drawn := hr.drawn, size := hr.size }
    frame := Frame.refl _ _ _
    aW := fun _ _ _ => rfl
    old := fun i o ho _ => ⟨o, ho, rfl⟩
    fresh := fun i o ho hS => absurd (hr.aB i o ho).1 hS }
theorem aaY (gW : lG P B w0 call) (pX : gD P B w0 yield) (bW : oQ ops = true) {s : dS} (hf : kJ (cQ P call yield) ops n ops.toList 0 ⟨t0, h0, [], [], 0, false⟩ = some s)
    {w : World} {a : Act} (hr : HR P ρ0 S B w0 h0 w) (ht : lF ρ0 S t0 n a.tmps) {r : Option Nat} {nn : Nat} {Q : Exit -> Act -> World -> Prop}
    (k : ∀ bT w' a', aZ P B w0 ρ0 bT S h0 s.h w w' -> lF bT (Ext S h0 s.h) s.t n a'.tmps -> a'.defers = a.defers -> Q .normal a' w') (t : Nat) :
    wpOpsIn (q5 r) nn P ops Q (Region.schedule true ops t) a w := wO gW pX bW (aaS hf) hr ht k t
theorem WA (gW : lG P B w0 call) (pX : gD P B w0 yield) (bW : oQ ops = true) {s : dS} (hf : IZ P h0 (cQ P call yield) ops n ⟨t0, h0, [], [], 0, false⟩ = some s)
    {w : World} {a : Act} (hr : HR P ρ0 S B w0 h0 w) (ht : lF ρ0 S t0 n a.tmps) {r : Option Nat} {nn : Nat} {Q : Exit -> Act -> World -> Prop}
    (k : ∀ bT w' a', aZ P B w0 ρ0 bT S h0 s.h w w' -> lF bT (Ext S h0 s.h) s.t n a'.tmps -> a'.defers = a.defers -> Q .normal a' w') (t : Nat) :
    wpOpsIn (q5 r) nn P ops Q (Region.schedule true ops t) a w := wO gW pX bW (W1 hf) hr ht k t
end
end Go.Fs
namespace Go.Fs
open Go.RowKit (Below)
variable {P : Program} {ρ bT : Ren} {S S' : Nat -> Prop} {B : Nat} {w0 w w' w1 w2 : World} {h h' h1 h2 : aA}
theorem HR.same (hr : HR P ρ S B w0 h w) (hg : ∀ i, h'.get i = h.get i) (hn : h'.next = h.next) : HR P ρ S B w0 h' w where
  aB := fun i o hi => hr.aB i o (by rw [<- hg]; exact hi)
  inj := fun i j oi oj hi hj => hr.inj i j oi oj (by rw [<- hg]; exact hi) (by rw [<- hg]; exact hj)
  base := fun i o hi => hr.base i o (by rw [<- hg]; exact hi)
  ro := fun i o hi => hr.ro i o (by rw [<- hg]; exact hi)
  ids := fun b hb => by rw [hn]; exact hr.ids b hb
  pos := by rw [hn]; exact hr.pos
  below := hr.below
  drawn := hr.drawn
  size := hr.size
theorem Ext.adX {g g' : aA} (h1 : g.next = h.next) (h2 : g'.next = h'.next) : Ext S g g' = Ext S h h' := by
  funext b; unfold Ext; rw [h1, h2]
theorem aZ.ajX {g g' : aA} (m : aZ P B w0 ρ bT S g g' w w') (hg : ∀ i, h.get i = g.get i) (hn : h.next = g.next) (gX : ∀ i, h'.get i = g'.get i) (hn' : h'.next = g'.next)
    (hl : h'.low <= g'.low) (lS : h'.low <= h.low) : aZ P B w0 ρ bT S h h' w w' where
  agree := m.agree
  next := by rw [hn, hn']; exact m.next
  hr := by
    rw [Ext.adX hn hn']; exact m.hr.same gX hn'
  frame := ⟨m.frame.os, m.frame.tape, m.frame.output, m.frame.size, fun k hk pV => m.frame.block k hk fun i o hi ho => pV i o (by rw [hg]; exact hi) ho⟩
  low := lS
  aW := fun i hi dV => by rw [hg, gX]; exact m.aW i (by omega) (by omega)
  old := fun i o hi bL => by
    obtain ⟨o', h1, h2⟩ := m.old i o (by rw [<- gX]; exact hi) (by omega); exact ⟨o', by rw [hg]; exact h1, h2⟩
  fresh := fun i o hi PK => by
    obtain ⟨h1, hf⟩ := m.fresh i o (by rw [<- gX]; exact hi) (by omega); refine ⟨h1, ?_⟩; rcases hf with hf | ⟨j, oj, h3, h4, h5, h6, h7⟩
    . exact .inl hf
    exact .inr ⟨j, oj, by rw [hg]; exact h3, h4, h5, by omega, by omega⟩
theorem aZ.forget {g : aA} (hr : HR P ρ S B w0 g w) (m : aZ P B w0 ρ bT S h h1 w w') (dV : h.next <= h1.low) (hg : ∀ i, g.get i = h.get i) (hn : g.next = h.next) : aZ P B w0 ρ ρ S g g w w' where
  agree := fun _ _ => rfl
  next := Nat.le_refl _
  hr := HR.congr (S := S) {
    aB := fun i o hi => by
      obtain ⟨h3, h4⟩ := hr.aB i o hi; have bL := (hr.ids i h3).1
      have hk : h1.get i = some o := by rw [m.aW i (by omega) (by omega), <- hg]; exact hi
      have h5 := (m.hr.aB i o hk).2; rw [m.agree i h3] at h5; exact ⟨h3, h4.yH h5 m.agree⟩
    inj := hr.inj
    base := hr.base
    ro := hr.ro
    ids := hr.ids
    pos := hr.pos
    below := m.hr.below
    drawn := m.hr.drawn
    size := m.hr.size } fun b => (Ext.s9 rfl b).symm
  frame := ⟨m.frame.os, m.frame.tape, m.frame.output, m.frame.size, fun k hk pV => m.frame.block k hk fun i o hi ho => pV i o (by rw [hg]; exact hi) ho⟩
  low := Nat.le_refl _
  aW := fun _ _ _ => rfl
  old := fun i o ho _ => ⟨o, ho, rfl⟩
  fresh := fun i o ho hi => by
    have := (hr.ids i (hr.aB i o ho).1).1; omega
theorem aZ.dropped (hr : HR P ρ S B w0 h w) {i : Nat} {o : bB} (hi : h.get i = some o) (ho : iG o = true)
    (IB : w'.os = w.os) (ht : w'.tape = w.tape) (y7 : w'.output = w.output) (dJ : w'.heap.size = w.heap.size) (rL : ∀ k, k ≠ (ρ i).block -> w'.heap[k]? = w.heap[k]?)
    (hd : w.drawn <= w'.drawn := by first | exact Nat.le_refl _ | exact Nat.le_succ _) : aZ P B w0 ρ ρ S h (h.drop i) w w' where
  agree := fun _ _ => rfl
  next := Nat.le_refl _
  hr := HR.congr (S := S) {
    aB := fun j oj hj => by
      rw [aA.cP] at hj; split at hj
      . cases hj
      rename_i e; obtain ⟨h1, h2⟩ := hr.aB j oj hj; refine ⟨h1, h2.world (rL _ fun he => ?_)⟩; by_cases kK : iG oj = true
      . exact e (hr.inj j i oj o hj hi kK ho he)
      have := hr.ro j oj hj (by simpa using kK); have := hr.base i o hi ho; omega
    inj := fun a b oa ob ha hb => by
      rw [aA.cP] at ha hb; split at ha
      . cases ha
      split at hb
      . cases hb
      exact hr.inj a b oa ob ha hb
    base := fun j oj hj => by
      rw [aA.cP] at hj; split at hj
      . cases hj
      exact hr.base j oj hj
    ro := fun j oj hj => by
      rw [aA.cP] at hj; split at hj
      . cases hj
      exact hr.ro j oj hj
    ids := hr.ids
    pos := hr.pos
    drawn := Nat.le_trans hr.drawn hd
    below := ⟨IB.trans hr.below.os, ht.trans hr.below.tape, y7.trans hr.below.output, by rw [dJ]; exact hr.below.size, fun k hk => by
      rw [rL k (fun e => by have := hr.base i o hi ho; omega)]; exact hr.below.block k hk⟩
    size := by rw [dJ]; exact hr.size } fun b => (Ext.s9 rfl b).symm
  frame := ⟨IB, ht, y7, by rw [dJ]; exact Nat.le_refl _, fun k _ pV => rL k (Ne.symm (pV i o hi ho))⟩
  low := Nat.min_le_left _ _
  aW := fun j _ hl => by
    have S3 : min h.low i <= i := Nat.min_le_right _ _; have bL : j < min h.low i := hl; rw [aA.cP, if_neg (by omega)]
  old := fun j oj hj _ => by
    rw [aA.cP] at hj; split at hj
    . cases hj
    exact ⟨oj, hj, rfl⟩
  fresh := fun j oj hj PK => by
    rw [aA.cP] at hj; split at hj
    . cases hj
    have := (hr.ids j (hr.aB j oj hj).1).1; have : h.next <= j := PK; omega
def s5 (ρ : Ren) (S : Nat -> Prop) (marks : List Nat) (ds : List Deferred) : Prop := ds = marks.map (fun d => ({ target := .collected (ρ d).block, args := #[] } : Deferred)) /\ ∀ d ∈ marks, S d
theorem s5.mono {marks : List Nat} {ds : List Deferred} (hm : s5 ρ S marks ds) (hs : ∀ b, S b -> S' b /\ bT b = ρ b) : s5 bT S' marks ds := by
  refine ⟨?_, fun d hd => (hs d (hm.2 d hd)).1⟩; rw [hm.1]
  exact List.map_congr_left fun d hd => by rw [(hs d (hm.2 d hd)).2]
theorem Ext.self {b : Nat} (hb : S b) : Ext S h h' b := .inl hb
theorem BM {fn : Func} {tmps : Array Value} {R : Ending -> World -> Prop} {F : Fence} {n : Nat} : ∀ (marks : List Nat) (S : Nat -> Prop) (h : aA) (w : World) (ds : List Deferred), HR P ρ S B w0 h w -> s5 ρ S marks ds ->
    l4 marks h = some h2 -> (∀ w', aZ P B w0 ρ ρ S h h2 w w' -> LeavesInM F n P fn tmps R [] .returning w') -> LeavesInM F n P fn tmps R ds .returning w
  | [], S, h, w, ds, hr, hm, hd, k => by
    simp only [l4, Option.some.injEq] at hd; subst hd; rw [hm.1]
    exact k w (aZ.same hr)
  | d :: r, S, h, w, ds, hr, hm, hd, k => by
    simp only [l4] at hd; split at hd
    . rename_i hg; have nE : w.heap[(ρ d).block]? = some (.deferred (some [])) := (hr.aB d _ hg).2; have bL : (ρ d).block < w.heap.size := (Array.getElem?_eq_some_iff.1 nE).1; have m := aZ.dropped (w' := w.putObj (ρ d).block (.deferred none)) hr hg rfl rfl rfl rfl World.putObj_size (fun k hk => World.putObj_heap_other hk); rw [hm.1]; simp only [List.map_cons, LeavesInM]; refine ⟨by simp, .inl ⟨(ρ d).block, _, rfl, run_takeDeferred nE, ?_⟩⟩; refine BM r (Ext S h (h.drop d)) (h.drop d) _ _ m.hr ⟨rfl, fun x hx => .inl (hm.2 x (List.mem_cons_of_mem _ hx))⟩ hd fun w' m' => k w' (m.trans m')
    cases hd
def QA (tmps : Array Value) : ResultVar -> Sem Value
  | .tmp t => pure (tmps.getD t undef)
  | .cell a t => do loadVar t (<- asAddr (tmps.getD a undef))
theorem SO (fn : Func) (tmps : Array Value) : results fn tmps = (do
    let vs <- fn.results.mapM (QA tmps)
    pure (if h : vs.size = 1 then vs[0] else .tuple vs)) := rfl
theorem WB {t : Tr} {n : Nat} {tmps : Array Value} {rv : ResultVar} {v : Value} (hr : HR P ρ S B w0 h w) (ht : lF ρ S t n tmps) (hf : vA P t h rv = some v) :
    ∃ v', (QA tmps rv).run P w = .ok v' w /\ VR ρ S v v' := by
  have jE : ∀ i, tmps.getD i undef = tmps.toList.getD i undef := fun i => by simp [Array.getD_eq_getD_getElem?, List.getD_eq_getElem?_getD]
  cases rv with
  | tmp i =>
    simp only [vA, Option.some.injEq] at hf; subst hf
    exact ⟨_, rfl, by rw [jE]; exact ht.2.2 i⟩
  | cell a ty =>
    simp only [vA] at hf; have hv := ht.2.2 a; rw [<- jE] at hv; obtain ⟨v', h1, h2⟩ := JN hr hf hv; refine ⟨v', ?_, h2⟩; unfold eU at hf; split at hf
    . rename_i b o hb; rw [hb] at hv; obtain ⟨_, he⟩ := hv.sI; simp only [QA, he] at h1 ⊢; simpa [Instr.loadAt, Instr.sureAddr, asAddr] using h1
    cases hf
theorem H9 {t : Tr} {n : Nat} {tmps : Array Value} (hr : HR P ρ S B w0 h w) (ht : lF ρ S t n tmps) : ∀ (rs : List ResultVar) (vs : List Value), jX P t h rs = some vs ->
    ∃ gV, (rs.mapM (QA tmps)).run P w = .ok gV w /\ LR ρ S vs gV
  | [], vs, hf => by
    simp only [jX, Option.some.injEq] at hf; subst hf
    exact ⟨[], rfl, LR.nil⟩
  | r :: rs, vs, hf => by
    simp only [jX] at hf; split at hf
    . rename_i v Q8 hv y4; simp only [Option.some.injEq] at hf; subst hf; obtain ⟨v', h1, h2⟩ := WB hr ht hv; obtain ⟨gV, h3, h4⟩ := H9 hr ht rs Q8 y4; refine ⟨v' :: gV, ?_, LR.cons h2 h4⟩; rw [List.mapM_cons]; simp only [Sem.run_bind, h1, Result.andThen_ok, h3, Sem.run_pure]
    cases hf
theorem WC {vs gV : List Value} (hv : LR ρ S vs gV) : VR ρ S (iM vs) (if h : gV.toArray.size = 1 then gV.toArray[0] else .tuple gV.toArray) := by
  have hl := hv.1
  match vs, gV, hl with
  | [], [], _ => exact VR.undef
  | [v], [v'], _ => exact hv.2 0 (by simp)
  | v1 :: v2 :: r, u1 :: u2 :: r', _ =>
    rw [dif_neg (by simp)]; exact VR.tuple' (by simpa [iM] using hv)
theorem KG {fn : Func} {t : Tr} {n : Nat} {tmps : Array Value} {vs : List Value} (hr : HR P ρ S B w0 h w) (ht : lF ρ S t n tmps) (hf : jX P t h fn.results.toList = some vs) :
    ∃ v', (results fn tmps).run P w = .ok v' w /\ VR ρ S (iM vs) v' := by
  obtain ⟨gV, h1, h2⟩ := H9 hr ht _ _ hf; refine ⟨_, ?_, WC h2⟩; rw [SO, Array.mapM_eq_mapM_toList]; simp only [Sem.run_bind, Sem.run_map, h1, Result.andThen_ok, Sem.run_pure]
end Go.Fs
namespace Go.Fs
open Go.RowKit (Below)
variable {P : Program} {ρ bT : Ren} {S S' : Nat -> Prop} {B : Nat} {w0 w w' w1 w2 : World} {h h' h1 h2 : aA}
def ZC : Ex -> Exit
  | .normal => .normal
  | .exit id => .exit id
  | .ret => .ret
def wpX (m : Nat) (F : Fence) (n : Nat) (P : Program) (c : Code) (Q : Exit -> Act -> World -> Prop) (a : Act) (w : World) : Prop :=
  match c with
  | .loop b => Code.roundsIn F n P b Q m a w
  | c => c.wpIn F n P Q a w
theorem wpX.wpIn {m : Nat} {F : Fence} {n : Nat} {c : Code} {Q : Exit -> Act -> World -> Prop} {a : Act} {w : World} (h : wpX m F n P c Q a w) : c.wpIn F n P Q a w := by
  cases c with
  | loop b => exact wpIn_loop_rounds m h
  | _ => exact h
def tX (ρ : Ren) (b7 : Option Nat) : Fence := q5 (b7.map fun l => (ρ l).block)
structure tY (P : Program) (B : Nat) (w0 : World) (ρ bT : Ren) (S : Nat -> Prop) (h : aA) (w : World) (lE : Fr) (h' : aA) (w' : World) (a' : Act) : Prop where
  cI : aZ P B w0 ρ bT S h h' w w'
  tmps : lF bT (Ext S h h') lE.t lE.n a'.tmps
  marks : s5 bT (Ext S h h') lE.marks a'.defers
def pF (P : Program) (B : Nat) (w0 : World) (m : Nat) (rec : Rec) : Prop := ∀ b7 c fr h e lE h', codeOk c = true -> rec b7 c fr h = some (e, lE, h') ->
  ∀ ρ S w a nn Q, HR P ρ S B w0 h w -> lF ρ S fr.t fr.n a.tmps -> s5 ρ S fr.marks a.defers -> (∀ l, b7 = some l -> S l) ->
    (∀ bT w' a', tY P B w0 ρ bT S h w lE h' w' a' -> Q (ZC e) a' w') -> wpX m (tX ρ b7) nn P c Q a w
theorem SP {b7 : Option Nat} (hs : ∀ l, b7 = some l -> S l) (fI : ∀ b, S b -> bT b = ρ b) : tX bT b7 = tX ρ b7 := by
  cases b7 with
  | none => rfl
  | some l => simp [tX, fI l (hs l rfl)]
theorem tY.trans {cS iZ : Ren} {fr1 MR : Fr} {a1 a2 : Act} (p : aZ P B w0 ρ cS S h h1 w w1) (q : tY P B w0 cS iZ (Ext S h h1) h1 w1 MR h2 w2 a2) : tY P B w0 ρ iZ S h w MR h2 w2 a2 where
  cI := p.trans q.cI
  tmps := q.tmps.mono fun b hb => ⟨Ext.trans' p.next q.cI.next hb, rfl⟩
  marks := q.marks.mono fun b hb => ⟨Ext.trans' p.next q.cI.next hb, rfl⟩
theorem G6 : ∀ (vs : List Value) (t : Tr) (i : Nat), i + vs.length <= 4000 -> ∀ j, (kZ t i vs).get j = if j < i then t.get j else if j < i + vs.length then vs.getD (j - i) undef else t.get j
  | [], t, i, _, j => by simp only [kZ, List.length_nil, Nat.add_zero]; split <;> simp_all
  | v :: r, t, i, hl, j => by
    simp only [List.length_cons] at hl; simp only [kZ]; rw [G6 r _ (i + 1) (by omega), Tr.cZ depth t i v j (by have : 2 ^ depth = 8192 := rfl; omega)]; simp only [List.length_cons]; by_cases h1 : j < i
    . rw [if_pos (by omega), if_neg (by omega), if_pos h1]
    by_cases h2 : j = i
    . subst h2; rw [if_pos (by omega), if_pos rfl, if_neg h1, if_pos (by omega), Nat.sub_self]; rfl
    rw [if_neg (by omega), if_neg h1]; by_cases h3 : j < i + 1 + r.length
    . rw [if_pos h3, if_pos (by omega), show j - i = (j - (i + 1)) + 1 by omega]; rfl
    rw [if_neg h3, if_neg h2, if_neg (by omega)]
theorem aaZ (i : Nat) : Tr.leaf.get i = undef := rfl
theorem SQ {n : Nat} {args args' : List Value} (hn : n <= 4000) (hl : args.length <= n) (ha : LR ρ S args args') :
    lF ρ S (kZ .leaf 0 args) n (args'.toArray ++ Array.replicate (n - args'.toArray.size) undef) := by
  have h0 := ha.1; refine ⟨by simp; omega, hn, fun i => ?_⟩; rw [G6 args .leaf 0 (by omega), if_neg (by omega), aaZ, Nat.sub_zero, Nat.zero_add]; simp only [Array.toList_append, Array.toList_replicate, List.getD_eq_getElem?_getD, List.getElem?_append]; by_cases hi : i < args.length
  . rw [if_pos hi, if_pos (by omega)]; have := ha.2 i hi
    rwa [List.getD_eq_getElem?_getD, List.getD_eq_getElem?_getD] at this
  rw [if_neg hi, if_neg (by omega), List.getElem?_replicate]; split
  . exact VR.undef
  exact VR.undef
structure lW (P : Program) : Prop where
  mixed : P.follows .mixedOrders = true
  name : ∀ (f : FuncId) (fn : Func), P.funcs[f]? = some fn -> fn.body.isNone = false -> (fn.name == "runtime.NumGoroutine") = false
  code : ∀ (f : FuncId) (fn : Func) (c : Code), P.funcs[f]? = some fn -> fn.body = some c -> codeOk c = true
theorem BN (hP : lW P) {m : Nat} {rec : Rec} {k : Bool} (jS : pF P B w0 m rec) : eN P B w0 (lL P k rec) := by
  intro f args h v h' hf; unfold lL at hf; split at hf
  . rename_i fn l5; split at hf
    . rename_i c hc; refine ⟨⟨fn, l5, by rw [hc]; rfl, hP.name f fn l5 (by rw [hc]; rfl)⟩, fun ρ S w args' hr ha n => ?_⟩
      cases hb : (Nat.blt 4000 fn.ntmps || Nat.blt fn.ntmps args.length) with
      | true => rw [hb] at hf; cases hf
      | false =>
        rw [hb] at hf; simp only [cond_false] at hf
        have rD : Nat.blt 4000 fn.ntmps = false /\ Nat.blt fn.ntmps args.length = false := by simpa using hb
        have hn : fn.ntmps <= 4000 := by have := j8 rD.1; omega
        have hl : args.length <= fn.ntmps := by have := j8 rD.2; omega
        split at hf
        . rename_i e fr h1 eK; obtain ⟨hgo, dU⟩ := aT hf; clear hf; split at dU
          . rename_i h2 WD; split at dU
            . rename_i vs y4; have G7 : HR P ρ S B w0 { next := h.next, low := h.next, aB := h.aB } w := hr.same (fun _ => rfl) rfl; refine callsIn_of_wp_marks l5 hc trivial ?_
              have hw := (jS none c _ _ _ _ _ (hP.code f fn c l5 hc) eK ρ S w { tmps := args'.toArray ++ Array.replicate (fn.ntmps - args'.toArray.size) undef, defers := [] } n
                (bodyPostM Fence.wide n P fn (xN P B w0 ρ S h w v h')) G7 (SQ hn hl ha) ⟨rfl, fun d hd => by cases hd⟩ (fun l hl => by cases hl) fun cS w1 a1 p1 => ?_).wpIn
              . exact hw
              have ZD : LeavesInM Fence.wide n P fn a1.tmps (xN P B w0 ρ S h w v h') a1.defers .returning w1 := by
                refine BM fr.marks _ h1 w1 a1.defers p1.cI.hr p1.marks WD fun w2 m2 => ?_; have htm := p1.tmps.mono (fun b hb => (⟨Ext.self (h := h1) (h' := h2) hb, rfl⟩ : Ext _ h1 h2 b /\ cS b = cS b)); obtain ⟨v', WE, hv2⟩ := KG m2.hr htm y4; refine ⟨v', WE, ?_⟩; have m3 := p1.cI.trans m2; have hv3 := hv2.mono (fun b hb => (⟨Ext.trans' p1.cI.next m2.next hb, rfl⟩ : Ext S { next := h.next, low := h.next, aB := h.aB } h2 b /\ cS b = cS b))
                cases hq : (!k && (af (iM vs) && Nat.ble h.next h2.low)) with
                | true =>
                  rw [hq] at dU; simp only [cond_true, Option.some.injEq, Prod.mk.injEq] at dU; obtain ⟨rfl, rfl⟩ := dU; obtain ⟨q1, q2⟩ := b6 (b6 hq).2; have q2 := fP q2; refine ⟨ρ, m3.forget hr q2 (fun _ => rfl) rfl, ?_⟩
                  rw [hv3.dR q1]; exact .mJ q1
                | false =>
                  rw [hq] at dU; simp only [cond_false, Option.some.injEq, Prod.mk.injEq] at dU; obtain ⟨rfl, rfl⟩ := dU; exact ⟨cS, m3.ajX (fun _ => rfl) rfl (fun _ => rfl) rfl (Nat.min_le_right _ _) (Nat.min_le_left _ _), hv3⟩
              cases e with
              | normal => exact ZD
              | ret => exact ZD
              | exit id => cases hgo
            cases dU
          cases dU
        cases hf
    cases hf
  cases hf
theorem DZ (hP : lW P) {m : Nat} {rec : Rec} (jS : pF P B w0 m rec) : eN P B w0 (p8 P rec) := BN hP jS
theorem KH {n : Nat} : ∀ (ps : List Tmp) (args args' : List Value) (t t' : Tr) (tmps : Array Value), lF ρ S t n tmps -> LR ρ S args args' -> qR n t (ps.zip args) = some t' ->
    lF ρ S t' n ((ps.zip args').foldl (fun tmps p => tmps.setIfInBounds p.1 p.2) tmps)
  | [], args, args', t, t', tmps, ht, _, hs => by
    simp only [List.zip_nil_left, qR, Option.some.injEq] at hs; subst hs
    simpa using ht
  | p :: ps, [], args', t, t', tmps, ht, ha, hs => by
    have : args' = [] := List.eq_nil_of_length_eq_zero ha.1.symm; subst this; simp only [List.zip_nil_right, qR, Option.some.injEq] at hs; subst hs
    simpa using ht
  | p :: ps, v :: args, [], t, t', tmps, ht, ha, hs => by have := ha.1; simp at this
  | p :: ps, v :: args, v' :: args', t, t', tmps, ht, ha, hs => by
    simp only [List.zip_cons_cons, qR] at hs; split at hs
    . rename_i t1 hp; have hv : VR ρ S v v' := ha.2 0 (by simp); have WG : LR ρ S args args' := ⟨by have := ha.1; simpa using this, fun i hi => by have := ha.2 (i + 1) (by simp; omega); simpa using this⟩; have h1 := ht.put hp hv []; simp only [List.zip_cons_cons, List.foldl_cons]; exact KH ps args args' t1 t' _ h1 WG hs
    cases hs
theorem vE {l : Nat} {st : LoopState} {jump : Option Code} {tmps : Tr} {n d : Nat} {params : Array Tmp} {assign body : Code} (hr : HR P ρ S B w0 h w) (hg : h.get l = some (.dL st jump tmps n params assign body d)) :
    S l /\ S d /\ ∃ fn j7, w.heap[(ρ l).block]? = some (.loop ⟨st, jump, fn, j7, params, assign, body, (ρ d).block⟩) /\ lF ρ S tmps n j7 /\ codeOk assign = true /\ codeOk body = true := by
  obtain ⟨h1, h2, fn, j7, h3, h4, h5⟩ := hr.aB l _ hg; exact ⟨h1, h2, fn, j7, h3, h4, (b6 h5).1, (b6 h5).2⟩
theorem G8 {l : Nat} {st st' : LoopState} {jump jump' : Option Code} {tmps : Tr} {n d : Nat} {params : Array Tmp} {assign body : Code} {fn : FuncId} {j7 : Array Value} (hr : HR P ρ S B w0 h w)
    (hg : h.get l = some (.dL st jump tmps n params assign body d)) (hw : w.heap[(ρ l).block]? = some (.loop ⟨st, jump, fn, j7, params, assign, body, (ρ d).block⟩)) :
    aZ P B w0 ρ ρ S h (h.set l (.dL st' jump' tmps n params assign body d)) w (w.putObj (ρ l).block (.loop ⟨st', jump', fn, j7, params, assign, body, (ρ d).block⟩)) := by
  obtain ⟨h1, h2, fn0, tm0, h3, h4, h5⟩ := hr.aB l _ hg; rw [hw] at h3; simp only [Option.some.injEq, Obj.loop.injEq, Loop.mk.injEq, true_and, and_true] at h3; obtain ⟨rfl, rfl⟩ := h3
  exact aZ.set hr hg rfl rfl rfl rfl rfl World.putObj_size (fun k hk => World.putObj_heap_other hk)
    ⟨h2, fn, j7, World.putObj_heap_same (Array.getElem?_eq_some_iff.1 hw).1, h4, h5⟩
theorem E0 {m : Nat} {rec : Rec} (jS : pF P B w0 m rec) : gD P B w0 (eJ rec) := by
  intro l args h v h' hf ρ S w args' hr ha hl; unfold eJ at hf; split at hf
  . rename_i anM tmps n params assign body d0 hg; obtain ⟨hS, hSd, fn, j7, hw, ht, hca, hcb⟩ := vE hr hg; obtain ⟨hlen, dU⟩ := aT hf; clear hf; have hlen := bU hlen; split at dU
    . rename_i t JF
      have ad7 : args'.toArray.size = params.size := by have := ha.1; simp; omega
      refine ⟨fn, _, assign, body, run_yield hw ad7, fun nn => roundIn_of_wpIn trivial ?_⟩; have hta := KH params.toList args args' tmps t j7 ht ha JF
      have ajY : (params.zip args'.toArray).foldl (fun tmps (x : Tmp × Value) => tmps.setIfInBounds x.1 x.2) j7 = (params.toList.zip args').foldl (fun tmps p => tmps.setIfInBounds p.1 p.2) j7 := by
        rw [<- Array.foldl_toList, Array.toList_zip]
      rw [<- ajY] at hta; split at dU
      . rename_i fr h1 ajZ; split at dU
        . rename_i adY ak0 n1 params1 adZ ak1 d1 JG; split at dU
          . rename_i e MR h2 VJ; split at dU
            . rename_i st2 anN ak2 n2 params2 ae0 ak3 d2 uR; simp only [Option.some.injEq, Prod.mk.injEq] at dU; obtain ⟨rfl, rfl⟩ := dU; have hF : (Fence.wide.inRound (ρ l).block) = tX ρ (some l) := rfl; rw [hF]; refine (jS (some l) assign _ _ _ _ _ hca ajZ ρ S w { tmps := (params.zip args'.toArray).foldl (fun tmps (x : Tmp × Value) => tmps.setIfInBounds x.1 x.2) j7, defers := [] } nn _ hr hta ⟨rfl, fun d hd => by cases hd⟩ (fun l' hl' => by cases hl'; exact hS) fun cS w1 a1 p1 => ?_).wpIn; obtain ⟨PT, anX, fn1, tm1, N7, DP, anY, anZ⟩ := vE p1.cI.hr JG
              have s4 : (cS l).block = (ρ l).block := by rw [p1.cI.agree l hS]
              refine ⟨_, by rw [<- s4]; exact run_beginRound N7 rfl, ?_⟩; have m2 := G8 (st' := .busy) (jump' := adY) p1.cI.hr JG N7; have alP : codeOk body = true := hcb
              have hF2 : tX ρ (some l) = tX cS (some l) := by simp [tX, s4]
              rw [hF2]
              refine (jS (some l) body fr _ _ _ _ alP VJ cS (Ext (Ext S h h1) h1 (h1.set l (.dL .busy adY ak0 n1 params1 adZ ak1 d1))) _ a1 nn (roundPost P (ρ l).block (xN P B w0 ρ S h w _ _)) m2.hr
                (p1.tmps.mono fun b hb => ⟨.inl hb, rfl⟩) (p1.marks.mono fun b hb => ⟨.inl hb, rfl⟩) (fun l' hl' => by cases hl'; exact .inl PT) fun WH w3 a3 p3 => ?_).wpIn
              obtain ⟨hS3, alQ, fn3, tm3, QB, ht3, ao0, ao1⟩ := vE p3.cI.hr uR
              have hb3 : (WH l).block = (ρ l).block := by rw [p3.cI.agree l (.inl PT), s4]
              have fin : ∀ j : Option Code, j = fD e -> ∃ v w4, (Instr.endRound (ρ l).block j).run P w3 = .ok v w4 /\ xN P B w0 ρ S h w (.bool (fD e).isNone) (h2.set l (.dL (bif (fD e).isNone then .ready else .done) (fD e) ak2 n2 params2 ae0 ak3 d2)) (.returned v) w4 := fun j hj => by
                subst hj; refine ⟨_, _, by rw [<- hb3]; exact run_endRound _ QB, WH, ?_, .lit rfl⟩; have m4 := G8 (st' := bif (fD e).isNone then .ready else .done) (jump' := fD e) p3.cI.hr uR QB; have m5 := p1.cI.trans (m2.trans (p3.cI.trans m4))
                have he : (bif (fD e).isNone then LoopState.ready else .done) = if (fD e).isNone then .ready else .done := by cases (fD e).isNone <;> rfl
                rw [<- he]; exact m5
              cases e with
              | normal => exact fin none rfl
              | exit id => exact fin (some (.exit id)) rfl
              | ret => exact fin (some .ret) rfl
            cases dU
          cases dU
        cases dU
      cases dU
    cases dU
  cases hf
theorem ae1 {b7 : Option Nat} {d : Nat} {mark : List Nat} (hr : HR P ρ S B w0 h w) (hs : ∀ l, b7 = some l -> S l) (hf : IV b7 h = some (d, mark, h1)) (fn : FuncId) (tmps : Array Value) (ps : Array Tmp) (assign body : Code)
    {t : Tr} {n : Nat} (ht : lF ρ S t n tmps) (hca : codeOk assign = true) (hcb : codeOk body = true) :
    ∃ cS lw ms w2, (Instr.enterLoop fn tmps ps assign body (tX ρ b7).round).run P w = .ok (lw, ms) w2 /\ (cS h1.next).block = lw /\ s5 cS (Ext S h (h1.push (.dL .ready none t n ps assign body d))) mark ms /\
      aZ P B w0 ρ cS S h (h1.push (.dL .ready none t n ps assign body d)) w w2 /\ Ext S h (h1.push (.dL .ready none t n ps assign body d)) h1.next := by
  -- the record, behind what is there
  have push : ∀ (ρa : Ren) (wa : World), aZ P B w0 ρ ρa S h h1 w wa -> Ext S h h1 d -> aZ P B w0 ρ (ρa.put h1.next (.clean wa.heap.size 0 0 (0))) S h (h1.push (.dL .ready none t n ps assign body d)) w
      (wa.alloc (.loop ⟨.ready, none, fn, tmps, ps, assign, body, (ρa d).block⟩)) := fun ρa wa ma hd => by
    have hta := ht.mono (fun b hb => (⟨.inl hb, ma.agree b hb⟩ : Ext S h h1 b /\ ρa b = ρ b)); have fI := ma.hr.qS (.clean wa.heap.size 0 0 (0)) (.dL .ready none t n ps assign body d)
    exact ma.trans (aZ.push ma.hr (.dL .ready none t n ps assign body d) (.loop ⟨.ready, none, fn, tmps, ps, assign, body, (ρa d).block⟩) (.clean wa.heap.size 0 0 (0)) rfl rfl
      ⟨(fI d hd).1, fn, tmps, by rw [(fI d hd).2]; exact heap_alloc_new wa _, hta.mono fI, by rw [hca, hcb]; rfl⟩)
  unfold IV at hf; split at hf
  . simp only [Option.some.injEq, Prod.mk.injEq] at hf; obtain ⟨rfl, rfl, rfl⟩ := hf; have m1 : aZ P B w0 ρ (ρ.put h.next (.clean w.heap.size 0 0 (0))) S h (h.push .iR) w (w.alloc (.deferred (some []))) := aZ.push hr .iR (.deferred (some [])) (.clean w.heap.size 0 0 (0)) rfl rfl (heap_alloc_new w _); have m2 := push _ _ m1 (Ext.lM _)
    have hb : ((ρ.put h.next (.clean w.heap.size 0 0 (0))) h.next).block = w.heap.size := by rw [Ren.fE]
    have cM : h.next ≠ (h.push .iR).next := Nat.ne_of_lt (Nat.lt_succ_self _); refine ⟨_, w.heap.size + 1, _, _, run_enterLoop_outer fn tmps ps assign body, ?_, ⟨?_, ?_⟩, by rw [hb] at m2; exact m2, .inr ⟨Nat.le_succ _, Nat.lt_succ_self _⟩⟩
    . rw [Ren.fE]; simp
    . simp only [List.map_cons, List.map_nil]; rw [Ren.fB cM, hb]
    intro x hx; simp only [List.mem_cons, List.not_mem_nil, or_false] at hx; subst hx; exact .inr ⟨Nat.le_refl _, Nat.lt_succ_of_lt (Nat.lt_succ_self _)⟩
  rename_i l; split at hf
  . rename_i st jump tm n0 ps0 as0 bo0 d0 hg; simp only [Option.some.injEq, Prod.mk.injEq] at hf; obtain ⟨rfl, rfl, rfl⟩ := hf; obtain ⟨hS, hSd, fn0, tm0, hw, _⟩ := vE hr hg; have m2 := push ρ w (aZ.same hr) (.inl hSd); refine ⟨_, w.heap.size, [], _, ?_, by rw [Ren.fE], ⟨rfl, fun x hx => by cases hx⟩, m2, .inr ⟨Nat.le_refl _, Nat.lt_succ_self _⟩⟩; show (Instr.enterLoop fn tmps ps assign body (some (ρ l).block)).run P w = _; unfold Instr.enterLoop; simp only [Sem.run_bind, run_getLoop hw, Result.andThen_ok, Sem.run_pure]; rfl
  cases hf
theorem G9 (hP : lW P) {m : Nat} {rec : Rec} (jS : pF P B w0 m rec) {b7 : Option Nat} {g : Operand} {ps : Array Tmp} {assign body : Code} {fr lE : Fr} {e : Ex} (hca : codeOk assign = true) (hcb : codeOk body = true)
    (hf : jN P rec b7 g ps assign body fr h = some (e, lE, h')) {a : Act} {nn : Nat} {Q : Exit -> Act -> World -> Prop} (hr : HR P ρ S B w0 h w) (ht : lF ρ S fr.t fr.n a.tmps) (hm : s5 ρ S fr.marks a.defers)
    (hs : ∀ l, b7 = some l -> S l) (k : ∀ bT w' a', tY P B w0 ρ bT S h w lE h' w' a' -> Q (ZC e) a' w') : (Code.rangeFunc g ps assign body).wpIn (tX ρ b7) nn P Q a w := by
  unfold jN at hf; split at hf
  . rename_i d mark h1 ak4; split at hf
    . rename_i f first captured hg; split at hf
      . rename_i v3 h3 eK; split at hf
        . rename_i st jump tm n0 ps0 as0 bo0 d0 hg3; have bY := ht.eval a.defers g; rw [hg] at bY; obtain ⟨f1, c1, hef, rF, lS⟩ := bY.zU; refine wpIn_rangeFunc fun fn _ => ?_; obtain ⟨cS, lw, ms, w2, he, s4, SR, m1, PT⟩ := ae1 hr hs ak4 fn a.tmps ps assign body ht hca hcb
          have mK : LR cS (Ext S h (h1.push (.dL .ready none fr.t fr.n ps assign body d))) (first.toList ++ [.func (.yield h1.next) #[] #[]] ++ captured.toList) (f1.toList ++ [.func (.yield lw) #[] #[]] ++ c1.toList) := by
            have fI : ∀ b, S b -> Ext S h (h1.push (.dL .ready none fr.t fr.n ps assign body d)) b /\ cS b = ρ b := fun b hb => ⟨.inl hb, m1.agree b hb⟩; refine ((rF.mono fI).append ?_).append (lS.mono fI); refine LR.cons ?_ LR.nil; rw [<- s4]; exact .yield _ PT
          obtain ⟨adN, FJ⟩ := BN hP jS _ _ _ _ _ eK; have alR : a.eval g = .func (.func f) f1 c1 := hef; have hinv : (invoke (.fn (.func f) c1) (f1 ++ #[Value.func (.yield lw) #[] #[]])).run P w2 = .ok (.enter f ((f1 ++ #[Value.func (.yield lw) #[] #[]]) ++ c1)) w2 := uP adN _ w2; refine ⟨lw, ms, w2, { target := .fn (.func f) c1, args := f1 ++ #[Value.func (.yield lw) #[] #[]] }, w2, f, (f1 ++ #[Value.func (.yield lw) #[] #[]]) ++ c1, w2, he, ?_, fun _ _ => trivial, hinv, fun hd => (by cases hd), ?_⟩
          . unfold resolve; simp only [rangeCall, List.map_toArray, alR, Deferred.ofValue]; rfl
          have h4 := FJ cS _ w2 _ m1.hr mK (nn - 1)
          have h5 : (f1.toList ++ [Value.func (.yield lw) #[] #[]] ++ c1.toList).toArray = (f1 ++ #[Value.func (.yield lw) #[] #[]]) ++ c1 := by
            apply Array.toList_inj.1; simp
          rw [h5] at h4; refine CallsIn.mono (F := tX ρ b7) h4 fun e3 w3 KI => ?_
          cases e3 with
          | panicked c => exact KI.elim
          | outgrown => exact KI.elim
          | returned v3' =>
            obtain ⟨WH, m3, _⟩ := KI; obtain ⟨hS3, alQ, fn3, tm3, QB, _⟩ := vE m3.hr hg3
            have hb3 : (WH h1.next).block = lw := by rw [m3.agree _ PT, s4]
            have m13 := m1.trans m3
            have post : st ≠ .busy -> ∀ h4 : aA, h4 = h3.set h1.next (.dL .exhausted jump tm n0 ps0 as0 bo0 d0) -> ∃ w4, (Instr.endLoop lw).run P w3 = .ok jump w4 /\
                tY P B w0 ρ WH S h w { t := fr.t, n := fr.n, marks := mark ++ fr.marks } h4 w4 { a with defers := ms ++ a.defers } := fun bR h4 hh4 => by
              subst hh4; have m4 := G8 (st' := .exhausted) (jump' := jump) m3.hr hg3 QB; have m14 := m1.trans (m3.trans m4); refine ⟨_, by rw [<- hb3]; exact run_endLoop QB bR, ⟨m14, ht.mono fun b hb => ⟨.inl hb, m14.agree b hb⟩, ?_, ?_⟩⟩
              . show ms ++ a.defers = (mark ++ fr.marks).map _
                have e1 : ms = mark.map (fun d => ({ target := .collected (WH d).block, args := #[] } : Deferred)) := by
                  rw [SR.1]; refine List.map_congr_left fun x hx => ?_; simp only [m3.agree x (SR.2 x hx)]
                have e2 : a.defers = fr.marks.map (fun d => ({ target := .collected (WH d).block, args := #[] } : Deferred)) := by
                  rw [hm.1]; refine List.map_congr_left fun x hx => ?_; simp only [m14.agree x (hm.2 x hx)]
                rw [List.map_append, e1, e2]
              intro x hx; rcases List.mem_append.1 hx with hx | hx
              . exact Ext.trans' m1.next (Nat.le_trans m3.next m4.next) (.inl (SR.2 x hx))
              exact .inl (hm.2 x hx)
            split at hf
            . cases hf
            rename_i bR; have ae2 : st ≠ .busy := fun h => bR h; simp only at hf; split at hf
            . simp only [Option.some.injEq, Prod.mk.injEq] at hf; obtain ⟨rfl, rfl, rfl⟩ := hf; obtain ⟨w4, h6, h7⟩ := post ae2 _ rfl; exact ⟨none, w4, h6, k _ _ _ h7⟩
            . simp only [Option.some.injEq, Prod.mk.injEq] at hf; obtain ⟨rfl, rfl, rfl⟩ := hf; obtain ⟨w4, h6, h7⟩ := post ae2 _ rfl; exact ⟨some .ret, w4, h6, wpIn_ret (k _ _ _ h7)⟩
            . rename_i id; simp only [Option.some.injEq, Prod.mk.injEq] at hf; obtain ⟨rfl, rfl, rfl⟩ := hf; obtain ⟨w4, h6, h7⟩ := post ae2 _ rfl; exact ⟨some (.exit id), w4, h6, wpIn_exit (k _ _ _ h7)⟩
            cases hf
        cases hf
      cases hf
    cases hf
  cases hf
end Go.Fs
namespace Go.Fs
variable {P : Program} {orc : FuncId -> List Value -> aA -> Option (Value × aA)} {b7 : Option Nat} {fr : Fr} {h : aA} {Q : Ex -> Fr -> aA -> Prop}
theorem zV (t : Tr) (d : Nat) (v : Value) (j : Nat) (hd : d < 4000 := by decide) : (t.set depth d v).get j = if j = d then v else t.get j := Tr.cZ depth t d v j (by have : 2 ^ depth = 8192 := rfl; omega)
theorem ae3 (n : Nat) (t : Tr) (d : Nat) (v : Value) : put n t (some d) v = bif Nat.blt d n then some (t.set depth d v) else none := rfl
theorem O0 (n : Nat) (t : Tr) (v : Value) : put n t none v = some t := rfl
theorem SU (lo : Nat) (l : List (Nat × bB)) : bH lo lo l = [] := by unfold bH; rw [Nat.beq_refl]; rfl
theorem aL {t : TypeId} {d : TypeDesc} (h : P.underlying t = some d) : aE P (underlying t) = some d := by
  unfold underlying; rw [aF]; show (some P).bind _ = _; simp only [Option.bind_some, h]; rfl
theorem tZ {t : TypeId} {i : TypeInfo} (h : P.info? t = some i) : aE P (typeInfo t) = some i := by
  unfold typeInfo; rw [aF]; show (some P).bind _ = _; simp only [Option.bind_some, h]; rfl
theorem eS {t : TypeId} {i : TypeInfo} (h : P.info? t = some i) : aE P (sizeOf t) = some i.size := by
  unfold sizeOf; rw [aF, tZ h]; rfl
structure anO (P : Program) (T e : TypeId) : Prop where
  sl : P.underlying T = some (.slice e)
  el : P.underlying e = some (.int .i64)
  info : (P.info? e).map (·.size) = some 1
end Go.Fs
namespace Go.Fs
variable {P : Program} {orc : FuncId -> List Value -> aA -> Option (Value × aA)} {b7 : Option Nat} {h : aA}
abbrev FL := List (Nat × Value)
section
variable (P orc)
end
variable {ops : Array Oper} {n : Nat} {ms : List Nat} {fl : FL} {Q : Ex -> Fr -> aA -> Prop} {K : FL -> aA -> Prop} {l : List Oper}
variable {d : Tmp} {ty : TypeId} {pos : String} {after : Array Edge} {op : Op} {v : Value}
section
variable (P orc)
end
variable {i mem : Nat} {bs : List Nat} {segs : List (Nat × Nat × Nat)} {tail : Bool}
end Go.Fs
namespace Go.Fs
variable {P : Program} {orc : FuncId -> List Value -> aA -> Option (Value × aA)} {b7 : Option Nat} {h : aA}
end Go.Fs
namespace Go.Fs
variable {P : Program} {orc : FuncId -> List Value -> aA -> Option (Value × aA)} {b7 : Option Nat} {h h' h0 h1 h2 : aA}
def mZ (h : aA) : Prop := ∀ b o, h.get b = some o -> b < h.next
structure eW (h h' : aA) : Prop where
  next : h.next <= h'.next
  get : ∀ b, b < h.next -> h'.get b = h.get b
  ok : mZ h -> mZ h'
  low : ∀ e, e <= h.low -> e <= h.next -> e <= h'.low
theorem eW.refl (h : aA) : eW h h := ⟨Nat.le_refl _, fun _ _ => rfl, fun x => x, fun _ x _ => x⟩
theorem eW.trans (a : eW h h1) (b : eW h1 h2) : eW h h2 where
  next := Nat.le_trans a.next b.next
  get := fun i hi => (b.get i (Nat.lt_of_lt_of_le hi a.next)).trans (a.get i hi)
  ok := fun x => b.ok (a.ok x)
  low := fun e h3 h4 => b.low e (a.low e h3 h4) (Nat.le_trans h4 a.next)
theorem eW.push (h : aA) (o : bB) : eW h (h.push o) where
  next := Nat.le_succ _
  get := fun b hb => by rw [aA.bN, if_neg (by omega)]
  ok := fun x b o' hg => by
    rw [aA.bN] at hg; split at hg
    . rename_i e; rw [e]; exact Nat.lt_succ_self _
    exact Nat.lt_succ_of_lt (x b o' hg)
  low := fun e h3 _ => h3
def entry (h : aA) : aA := { next := h.next, low := h.next, aB := h.aB }
end Go.Fs
namespace Go.Fs
variable {P : Program} {h h' h0 : aA}
structure SlT (P : Program) (T e : TypeId) (s : Nat) : Prop where
  sl : P.underlying T = some (.slice e)
  info : ∃ i z, P.info? e = some i /\ i.size = s /\ 0 < i.bytes /\ i.bytes <= 4096 /\ i.zero = some z /\ z.cells.size = s /\ z.cells.toList.all eF = true
  pos : 0 < s
def slB (P : Program) (T e : TypeId) (s : Nat) : Bool :=
  match P.underlying T, P.info? e with
  | some (.slice e'), some i => match i.zero with
    | some z => Nat.beq e' e && Nat.beq i.size s && Nat.blt 0 i.bytes && Nat.ble i.bytes 4096 && Nat.beq z.cells.size s && z.cells.toList.all eF && Nat.blt 0 s
    | none => false
  | _, _ => false
theorem ah6 {T e : TypeId} {s : Nat} (h : slB P T e s = true) : SlT P T e s := by
  unfold slB at h; split at h
  . rename_i e' i hu hi; split at h
    . rename_i z hz; obtain ⟨h, h7⟩ := b6 h; obtain ⟨h, h6⟩ := b6 h; obtain ⟨h, h5⟩ := b6 h; obtain ⟨h, h4⟩ := b6 h; obtain ⟨h, h3⟩ := b6 h; obtain ⟨h1, h2⟩ := b6 h; have := bU h1; subst this; exact ⟨hu, ⟨i, z, hi, bU h2, jP h3, fP h4, hz, bU h5, h6⟩, jP h7⟩
    cases h
  cases h
def lO : Nat -> List Value -> List (Nat × Value)
  | _, [] => []
  | k, v :: r => (k, v) :: lO (k + 1) r
end Go.Fs
namespace Go.Fs
variable {P : Program} {orc : FuncId -> List Value -> aA -> Option (Value × aA)} {h : aA} {ops : Array Oper} {n i mem : Nat} {fl : FL} {K : FL -> aA -> Prop} {l : List Oper} {bs : List Nat} {segs : List (Nat × Nat × Nat)} {tail : Bool}
  {d : Tmp} {ty : TypeId} {pos : String} {after : Array Edge}
theorem zW {lo hi : Nat} (l : List (Nat × bB)) (b : Nat) (h1 : lo <= b) (h2 : b < hi) : look (bH lo hi l) b = look l b := by
  unfold bH; rw [eD (show lo ≠ hi by omega)]; simp only [cond_false]
  induction l with
  | nil => rfl
  | cons p r ih =>
    obtain ⟨k, o⟩ := p; rw [List.filter_cons]; by_cases hk : k = b
    . subst hk
      have : inside lo hi (k, o) = true := by
        unfold inside
        have e1 : Nat.ble lo k = true := by rw [Nat.ble_eq]; exact h1
        have e2 : Nat.blt k hi = true := by show Nat.ble (k + 1) hi = true; rw [Nat.ble_eq]; omega
        simp only [e1, e2, Bool.and_self]
      rw [if_pos this]; simp [look]
    split
    . simp only [look, eD hk, cond_false, ih]
    simp only [look, eD hk, cond_false, ih]
structure Left (h h' h2 : aA) : Prop where
  next : h2.next = h'.next
  low : h2.low = h.low
  old : ∀ b, b < h.next -> h2.get b = h.get b
  new : ∀ b, h.next <= b -> h2.get b = h'.get b
end Go.Fs
namespace Go.Fs
variable {P : Program} {orc : FuncId -> List Value -> aA -> Option (Value × aA)} {h h' : aA} {ops : Array Oper} {n i mem : Nat} {fl : FL} {K : FL -> aA -> Prop} {l : List Oper} {bs : List Nat} {segs : List (Nat × Nat × Nat)} {tail : Bool}
  {d : Tmp} {ty : TypeId} {pos : String} {after : Array Edge} {op : Op} {v : Value}
end Go.Fs
namespace Go.Fs
variable {P : Program} {h h' h0 h1 h2 : aA} {S S' : List Nat}
inductive Ty where
  | int (k : IntKind)
  | bool
  | str
  | bQ (k : FloatKind)
  | sl (e : Ty)
  | pair (a b : Ty)
  | unit
  | mp (a b : Ty)
  | fn
  | jT
@[reducible] def Ty.den : Ty -> Type
  | .int _ => Int
  | .bool => Bool
  | .str => ByteArray
  | .bQ _ => Nat
  | .sl e => List e.den
  | .pair a b => a.den × b.den
  | .unit => Unit
  | .mp a b => List (a.den × b.den)
  | .fn => Option Nat
  | .jT => Option (Nat × Nat)
def Ty.size : Ty -> Nat
  | .pair a b => a.size + b.size
  | .unit => 0
  | _ => 1
def Ty.agg : Ty -> Bool
  | .pair _ _ | .unit => true
  | _ => false
def SlC (h : aA) (S : List Nat) {α : Type} (s : Nat) (R : List Value -> α -> Prop) (v : Value) (xs : List α) : Prop :=
  (v = .slice none 0 0 /\ xs = []) \/ ∃ b o mk, v = .slice (some ⟨b, o, none⟩) xs.length mk /\
    (xs = [] \/ (b ∉ S /\ ∃ e' rs own more, h.get b = some (.row e' rs own more) /\ o + xs.length * s <= rs.length /\ ∀ i (hi : i < xs.length), R ((rs.drop (o + i * s)).take s) xs[i]))
def WI (h : aA) (S : List Nat) {α β : Type} (K : Value -> α -> Prop) (R : Value -> β -> Prop) (v : Value) (kvs : List (α × β)) : Prop :=
  (v = .map none /\ kvs = []) \/ ∃ b es clock, v = .map (some b) /\ b ∉ S /\ h.get b = some (.nO es clock) /\ es.length = kvs.length /\ ∀ i (hi : i < kvs.length) (hj : i < es.length), K es[i].key kvs[i].1 /\ R es[i].val kvs[i].2
def gI : Value -> Bool
  | .agg _ => true
  | _ => false
def SV : Option Nat -> Value
  | none => .nilFunc
  | some f => .func (.func f) #[] #[]
def E1 : Option (Nat × Nat) -> Value
  | none => .slice none 0 0
  | some (b, n) => .slice (some ⟨b, 0, none⟩) n 0
def cR (h : aA) (S : List Nat) : (τ : Ty) -> List Value -> τ.den -> Prop
  | .int k, cs, x => cs = [.int k x]
  | .bool, cs, x => cs = [.bool x]
  | .str, cs, x => cs = [.string x]
  | .bQ k, cs, x => cs = [.float k x]
  | .sl e, cs, xs => ∃ v, cs = [v] /\ SlC h S e.size (cR h S e) v xs
  | .pair a b, cs, x => cR h S a (cs.take a.size) x.1 /\ cR h S b (cs.drop a.size) x.2
  | .unit, cs, _ => cs = []
  | .mp a b, cs, x => ∃ v, cs = [v] /\ WI h S (fun k y => gI k = a.agg /\ cR h S a k.cells.toList y) (fun u y => gI u = b.agg /\ cR h S b u.cells.toList y) v x
  | .fn, cs, f => cs = [SV f]
  | .jT, cs, f => cs = [E1 f]
def aG (h : aA) (S : List Nat) (τ : Ty) (v : Value) (x : τ.den) : Prop := gI v = τ.agg /\ cR h S τ v.cells.toList x
theorem cells_one {v : Value} (hv : gI v = false) : v.cells = #[v] := by
  cases v with
  | agg cs => cases hv
  | _ => rfl
theorem aG.int {k : IntKind} {v : Value} {x : Int} (hv : aG h S (.int k) v x) : v = .int k x := by
  obtain ⟨h1, h2⟩ := hv; rw [cells_one h1] at h2; simpa [cR] using h2
theorem aG.bool {v : Value} {x : Bool} (hv : aG h S .bool v x) : v = .bool x := by
  obtain ⟨h1, h2⟩ := hv; rw [cells_one h1] at h2; simpa [cR] using h2
theorem aG.str {v : Value} {x : ByteArray} (hv : aG h S .str v x) : v = .string x := by
  obtain ⟨h1, h2⟩ := hv; rw [cells_one h1] at h2; simpa [cR] using h2
theorem aG.bQ {k : FloatKind} {v : Value} {x : Nat} (hv : aG h S (.bQ k) v x) : v = .float k x := by
  obtain ⟨h1, h2⟩ := hv; rw [cells_one h1] at h2; simpa [cR] using h2
theorem aG.ofInt (k : IntKind) (x : Int) : aG h S (.int k) (.int k x) x := ⟨rfl, rfl⟩
theorem aG.ofBool (x : Bool) : aG h S .bool (.bool x) x := ⟨rfl, rfl⟩
theorem aG.ofStr (x : ByteArray) : aG h S .str (.string x) x := ⟨rfl, rfl⟩
theorem aG.CI (k : FloatKind) (x : Nat) : aG h S (.bQ k) (.float k x) x := ⟨rfl, rfl⟩
def mL (h : aA) (S : List Nat) (τ : Ty) (v : Value) (xs : List τ.den) : Prop := SlC h S τ.size (cR h S τ) v xs
theorem aG.sl {τ : Ty} {v : Value} {xs : List τ.den} (hv : aG h S (.sl τ) v xs) : mL h S τ v xs := by
  obtain ⟨h1, h2⟩ := hv; rw [cells_one h1] at h2; obtain ⟨u, h3, h4⟩ := h2; simp only [List.cons.injEq, and_true] at h3; subst h3; exact h4
theorem mL.agg {τ : Ty} {v : Value} {xs : List τ.den} (hv : mL h S τ v xs) : gI v = false := by
  rcases hv with ⟨rfl, _⟩ | ⟨b, o, mk, rfl, _⟩ <;> rfl
theorem mL.rep {τ : Ty} {v : Value} {xs : List τ.den} (hv : mL h S τ v xs) : aG h S (.sl τ) v xs :=
  ⟨hv.agg, by rw [cells_one hv.agg]; exact ⟨v, rfl, hv⟩⟩
theorem mL.nil {τ : Ty} : mL h S τ (.slice none 0 0) [] := .inl ⟨rfl, rfl⟩
def cV (h : aA) (S : List Nat) (h' : aA) (S' : List Nat) : Prop := ∀ b o, h.get b = some o -> b ∉ S -> h'.get b = some o /\ b ∉ S'
theorem cV.trans {S'' : List Nat} (a : cV h S h1 S') (b : cV h1 S' h2 S'') : cV h S h2 S'' := fun i o h1 h2 => let ⟨h3, h4⟩ := a i o h1 h2; b i o h3 h4
theorem cV.less (hs : ∀ b, b ∈ S' -> b ∈ S) : cV h S h S' := fun _ _ h1 h2 => ⟨h1, fun h3 => h2 (hs _ h3)⟩
theorem cV.aB (hg : ∀ b, h'.get b = h.get b) : cV h S h' S := fun b _ h1 h2 => ⟨by rw [hg]; exact h1, h2⟩
theorem eW.nx (a : eW h h') (bW : mZ h) : cV h S h' S := fun b o h1 h2 => ⟨by rw [a.get b (bW b o h1)]; exact h1, h2⟩
theorem SlC.nx {α : Type} {s : Nat} {R R' : List Value -> α -> Prop} (hN : cV h S h' S') (hR : ∀ cs x, R cs x -> R' cs x) {v : Value} {xs : List α} (hv : SlC h S s R v xs) : SlC h' S' s R' v xs := by
  rcases hv with hv | ⟨b, o, mk, h1, h2⟩
  . exact .inl hv
  refine .inr ⟨b, o, mk, h1, ?_⟩; rcases h2 with h2 | ⟨h2, e', rs, own, more, h3, h4, h5⟩
  . exact .inl h2
  obtain ⟨h6, h7⟩ := hN b _ h3 h2; exact .inr ⟨h7, e', rs, own, more, h6, h4, fun i hi => hR _ _ (h5 i hi)⟩
theorem WI.nx {α β : Type} {K K' : Value -> α -> Prop} {R R' : Value -> β -> Prop} (hN : cV h S h' S') (hK : ∀ u x, K u x -> K' u x) (hR : ∀ u x, R u x -> R' u x) {v : Value} {kvs : List (α × β)} (hv : WI h S K R v kvs) : WI h' S' K' R' v kvs := by
  rcases hv with hv | ⟨b, es, c, h1, h2, h3, h4, h5⟩
  . exact .inl hv
  obtain ⟨h6, h7⟩ := hN b _ h3 h2; exact .inr ⟨b, es, c, h1, h7, h6, h4, fun i hi hj => ⟨hK _ _ (h5 i hi hj).1, hR _ _ (h5 i hi hj).2⟩⟩
theorem cR.nx (hN : cV h S h' S') : ∀ {τ : Ty} {cs : List Value} {x : τ.den}, cR h S τ cs x -> cR h' S' τ cs x := by
  intro τ
  induction τ with
  | int k => exact fun hx => hx
  | bool => exact fun hx => hx
  | str => exact fun hx => hx
  | bQ k => exact fun hx => hx
  | unit => exact fun hx => hx
  | pair a b wP wQ => exact fun hx => ⟨wP hx.1, wQ hx.2⟩
  | sl e ih =>
    rintro cs x ⟨v, h1, h2⟩
    exact ⟨v, h1, h2.nx hN fun cs x hx => ih hx⟩
  | fn => exact fun hx => hx
  | jT => exact fun hx => hx
  | mp a b wP wQ =>
    rintro cs x ⟨v, h1, h2⟩; exact ⟨v, h1, h2.nx hN (fun u x hx => ⟨hx.1, wP hx.2⟩) fun u x hx => ⟨hx.1, wQ hx.2⟩⟩
theorem aG.nx {τ : Ty} {v : Value} {x : τ.den} (hv : aG h S τ v x) (hN : cV h S h' S') : aG h' S' τ v x := ⟨hv.1, hv.2.nx hN⟩
theorem cR.len : ∀ {τ : Ty} {cs : List Value} {x : τ.den}, cR h S τ cs x -> cs.length = τ.size := by
  intro τ
  induction τ with
  | int k => rintro cs x rfl; rfl
  | bool => rintro cs x rfl; rfl
  | str => rintro cs x rfl; rfl
  | bQ k => rintro cs x rfl; rfl
  | unit => rintro cs x rfl; rfl
  | sl e ih => rintro cs x ⟨v, rfl, _⟩; rfl
  | fn => rintro cs x rfl; rfl
  | jT => rintro cs x rfl; rfl
  | mp a b _ _ => rintro cs x ⟨v, rfl, _⟩; rfl
  | pair a b wP wQ =>
    rintro cs x ⟨h1, h2⟩; have e1 := wP h1; have e2 := wQ h2; rw [List.length_take] at e1; rw [List.length_drop] at e2; show cs.length = a.size + b.size; omega
def SW (h : aA) (S : List Nat) (a b : Ty) (v : Value) (kvs : List (a.den × b.den)) : Prop := WI h S (aG h S a) (aG h S b) v kvs
theorem WI.agg {α β : Type} {K : Value -> α -> Prop} {R : Value -> β -> Prop} {v : Value} {kvs : List (α × β)} (hv : WI h S K R v kvs) : gI v = false := by
  rcases hv with ⟨rfl, _⟩ | ⟨b, es, c, rfl, _⟩ <;> rfl
theorem aG.mp {a b : Ty} {v : Value} {kvs : List (a.den × b.den)} (hv : aG h S (.mp a b) v kvs) : SW h S a b v kvs := by
  obtain ⟨h1, h2⟩ := hv; rw [cells_one h1] at h2; obtain ⟨u, h3, h4⟩ := h2; simp only [List.cons.injEq, and_true] at h3; subst h3; exact h4
theorem SW.rep {a b : Ty} {v : Value} {kvs : List (a.den × b.den)} (hv : SW h S a b v kvs) : aG h S (.mp a b) v kvs :=
  ⟨hv.agg, by rw [cells_one hv.agg]; exact ⟨v, rfl, hv⟩⟩
theorem SX (f : Option Nat) : gI (SV f) = false := by cases f <;> rfl
theorem O1 (f : Option (Nat × Nat)) : gI (E1 f) = false := by cases f <;> rfl
theorem aG.ak5 (f : Option (Nat × Nat)) : aG h S .jT (E1 f) f := ⟨O1 f, by rw [cells_one (O1 f)]; rfl⟩
theorem aG.ofFn (f : Option Nat) : aG h S .fn (SV f) f := ⟨SX f, by rw [cells_one (SX f)]; rfl⟩
theorem cR.one {τ : Ty} {cs : List Value} {x : τ.den} (ht : τ.agg = false) (hx : cR h S τ cs x) : ∃ v, cs = [v] /\ aG h S τ v x := by
  cases τ with
  | int k => exact ⟨_, hx, rfl, rfl⟩
  | bool => exact ⟨_, hx, rfl, rfl⟩
  | str => exact ⟨_, hx, rfl, rfl⟩
  | bQ k => exact ⟨_, hx, rfl, rfl⟩
  | sl e =>
    obtain ⟨v, h1, h2⟩ := hx
    exact ⟨v, h1, mL.rep h2⟩
  | mp a b =>
    obtain ⟨v, h1, h2⟩ := hx
    exact ⟨v, h1, SW.rep h2⟩
  | fn => exact ⟨_, hx, aG.ofFn _⟩
  | jT => exact ⟨_, hx, aG.ak5 _⟩
  | pair a b => cases ht
  | unit => cases ht
theorem Ty.sB {τ : Ty} (ht : τ.agg = false) : τ.size = 1 := by
  cases τ <;> first | rfl | cases ht
theorem aG.last {a : Ty} {u : Value} {x : a.den} (ht : a.agg = false) (h1 : aG h S a u x) : cR h S a [u] x := by
  have hu := h1.2; rw [cells_one (h1.1.trans ht)] at hu; exact hu
structure eX (P : Program) (T e : TypeId) (τ : Ty) : Prop where
  sl : SlT P T e τ.size
  agg : ∃ d, P.underlying e = some d /\ rS d = τ.agg
def elB (P : Program) (T e : TypeId) (τ : Ty) : Bool := slB P T e τ.size && (match P.underlying e with | some d => rS d == τ.agg | none => false)
theorem pG {T e : TypeId} {τ : Ty} (hb : elB P T e τ = true) : eX P T e τ := by
  unfold elB at hb; obtain ⟨h1, h2⟩ := b6 hb; refine ⟨ah6 h1, ?_⟩; split at h2
  . rename_i d hd; exact ⟨d, hd, by simpa using h2⟩
  cases h2
theorem mL.len {T e : TypeId} {τ : Ty} (hT : eX P T e τ) {v : Value} {xs : List τ.den} (hv : mL h S τ v xs) (h' : aA) : kI P #[T] v h' = some (.int .i64 (xs.length : Nat)) := by
  rcases hv with ⟨rfl, rfl⟩ | ⟨b, o, mk, rfl, _⟩
  . simp [kI, hT.sl.sl]
  simp [kI, hT.sl.sl]
def iO (v : Value) (s j : Nat) : Value :=
  match v with
  | .slice (some ⟨b, o, none⟩) _ _ => .pointer (some ⟨b, o + j * s, none⟩)
  | _ => undef
def nY (h : aA) (S : List Nat) (τ : Ty) (p : Value) (x : τ.den) : Prop :=
  ∃ b o e rs own more, p = .pointer (some ⟨b, o, none⟩) /\ b ∉ S /\ h.get b = some (.row e rs own more) /\ o + τ.size <= rs.length /\ cR h S τ ((rs.drop o).take τ.size) x
theorem nY.nx {τ : Ty} {p : Value} {x : τ.den} (hp : nY h S τ p x) (hN : cV h S h' S') : nY h' S' τ p x := by
  obtain ⟨b, o, e, rs, own, more, h1, h2, h3, h4, h5⟩ := hp; obtain ⟨h6, h7⟩ := hN b _ h3 h2; exact ⟨b, o, e, rs, own, more, h1, h7, h6, h4, h5.nx hN⟩
theorem mL.row {τ : Ty} {v : Value} {xs : List τ.den} (hv : mL h S τ v xs) (hj : 0 < xs.length) : ∃ b o mk e' rs own more, v = .slice (some ⟨b, o, none⟩) xs.length mk /\ b ∉ S /\ h.get b = some (.row e' rs own more) /\ o + xs.length * τ.size <= rs.length /\
    ∀ i (hi : i < xs.length), cR h S τ ((rs.drop (o + i * τ.size)).take τ.size) xs[i] := by
  rcases hv with ⟨rfl, rfl⟩ | ⟨b, o, mk, rfl, h2⟩
  . simp at hj
  rcases h2 with rfl | ⟨h2, e', rs, own, more, h3, h4, h5⟩
  . simp at hj
  exact ⟨b, o, mk, e', rs, own, more, rfl, h2, h3, h4, h5⟩
theorem mL.at {τ : Ty} {v : Value} {xs : List τ.den} (hv : mL h S τ v xs) {j : Nat} (hj : j < xs.length) : nY h S τ (iO v τ.size j) xs[j] := by
  obtain ⟨b, o, mk, e', rs, own, more, rfl, h2, h3, h4, h5⟩ := hv.row (by omega); refine ⟨b, o + j * τ.size, e', rs, own, more, rfl, h2, h3, ?_, h5 j hj⟩; have : (j + 1) * τ.size <= xs.length * τ.size := Nat.mul_le_mul_right _ hj; rw [Nat.add_mul] at this; omega
theorem mL.ix {T e : TypeId} {τ : Ty} (hT : eX P T e τ) {v : Value} {xs : List τ.den} (hv : mL h S τ v xs) {j : Nat} (hj : j < xs.length) : aE P (Instr.indexAt T v (.int .i64 (j : Nat))) = some (iO v τ.size j) := by
  obtain ⟨b, o, mk, e', rs, own, more, rfl, h2, h3, h4, h5⟩ := hv.row (by omega); obtain ⟨i, z, yK, dJ, _⟩ := hT.sl.info; unfold Instr.indexAt
  have h6 : (0 : Int) <= (j : Int) /\ (j : Int) < (xs.length : Nat) := by omega
  simp only [aF, asIntOf, aK, Option.bind_some, aL hT.sl.sl, if_pos h6, eS yK, dJ, oT, Int.toNat_natCast, iO]
structure fL (P : Program) (e : TypeId) (τ : Ty) : Prop where
  info : ∃ i, P.info? e = some i /\ i.size = τ.size
  agg : ∃ d, P.underlying e = some d /\ rS d = τ.agg
def ZE (P : Program) (e : TypeId) (τ : Ty) : Bool := (match P.info? e with | some i => Nat.beq i.size τ.size | none => false) && (match P.underlying e with | some d => rS d == τ.agg | none => false)
theorem dW {e : TypeId} {τ : Ty} (hb : ZE P e τ = true) : fL P e τ := by
  unfold ZE at hb; obtain ⟨h1, h2⟩ := b6 hb; refine ⟨?_, ?_⟩
  . split at h1
    . rename_i i hi; exact ⟨i, hi, bU h1⟩
    cases h1
  split at h2
  . rename_i d hd; exact ⟨d, hd, by simpa using h2⟩
  cases h2
def pH (h : aA) (τ : Ty) (p : Value) : Value :=
  match p with
  | .pointer (some ⟨b, o, none⟩) =>
    match h.get b with
    | some (.row _ rs _ _) => if τ.agg then .agg ((rs.drop o).take τ.size).toArray else rs.getD o undef
    | _ => undef
  | _ => undef
theorem take_one {rs : List Value} {o : Nat} (ho : o < rs.length) : (rs.drop o).take 1 = [rs[o]] := by
  rw [List.drop_eq_getElem_cons ho]; rfl
theorem nY.ae4 {e : TypeId} {τ : Ty} (hT : fL P e τ) {p : Value} {x : τ.den} (hp : nY h S τ p x) : eU P e p h = some (pH h τ p) /\ aG h S τ (pH h τ p) x := by
  obtain ⟨b, o, e', rs, own, more, rfl, h2, h3, h4, h5⟩ := hp; obtain ⟨i, hi, hs⟩ := hT.info; obtain ⟨d, hd, ha⟩ := hT.agg; simp only [eU, pH, h3, hd, hi, ha, hs]
  cases hb : τ.agg with
  | true =>
    simp only [if_true, h4]
    refine ⟨trivial, by simpa [gI] using hb.symm, by simpa [Value.cells] using h5⟩
  | false =>
    have h1 := Ty.sB hb; rw [h1] at h4 h5
    have ho : o < rs.length := by omega
    rw [take_one ho] at h5; obtain ⟨u, hu, hv⟩ := h5.one hb; simp only [List.cons.injEq, and_true] at hu; simp only [Bool.false_eq_true, if_false, List.getD_eq_getElem?_getD, List.getElem?_eq_getElem ho, Option.getD_some]; exact ⟨trivial, by rw [hu]; exact hv⟩
theorem nY.val {τ : Ty} {p : Value} {x : τ.den} (hp : nY h S τ p x) : aG h S τ (pH h τ p) x := by
  obtain ⟨b, o, e', rs, own, more, rfl, h2, h3, h4, h5⟩ := hp; simp only [pH, h3]
  cases hb : τ.agg with
  | true =>
    simp only [if_true]
    refine ⟨by simpa [gI] using hb.symm, by simpa [Value.cells] using h5⟩
  | false =>
    have h1 := Ty.sB hb; rw [h1] at h4 h5
    have ho : o < rs.length := by omega
    rw [take_one ho] at h5; obtain ⟨u, hu, hv⟩ := h5.one hb; simp only [List.cons.injEq, and_true] at hu; simp only [Bool.false_eq_true, if_false, List.getD_eq_getElem?_getD, List.getElem?_eq_getElem ho, Option.getD_some]; rw [hu]; exact hv
def sQ (p : Value) (k : Nat) : Value :=
  match p with
  | .pointer (some ⟨b, o, none⟩) => .pointer (some ⟨b, o + k, none⟩)
  | _ => undef
def O2 (P : Program) (s : TypeId) (f k : Nat) : Bool :=
  match P.underlying s with
  | some (.struct fs) => match fs[f]? with
    | some fd => Nat.beq fd.offset k && (match P.info? fd.type with | some i => Nat.blt 0 i.size | none => false)
    | none => false
  | _ => false
theorem nY.fa {s : TypeId} {f k : Nat} {τ : Ty} {p : Value} {x : τ.den} (hp : nY h S τ p x) (hb : O2 P s f k = true) : aE P (Instr.fieldAt s p f) = some (sQ p k) := by
  obtain ⟨b', o, e', rs, own, more, rfl, h2, h3, h4, h5⟩ := hp; unfold O2 at hb; split at hb
  . rename_i fs hfs; split at hb
    . rename_i fd hfd; obtain ⟨h6, h7⟩ := b6 hb; split at h7
      . rename_i i hi; have h8 := jP h7; have h9 := bU h6; unfold Instr.fieldAt; simp only [aF, aL hfs, Option.bind_some, hfd]; show (aE P (Instr.sureAddr _)).bind _ = _; simp only [Instr.sureAddr, aK, Option.bind_some, aF, fieldPlace, eS hi]; rw [if_neg (by omega)]; simp only [aK, Option.bind_some, oT, h9, sQ]
      cases h7
    cases hb
  cases hb
end Go.Fs
namespace Go.Fs
variable {P : Program} {h h' h0 h1 h2 : aA} {S S' S0 : List Nat}
theorem O3 (off : Nat) : ∀ (us : List Value) (j : Nat) (pre mid post : List Value), pre.length = off + j -> mid.length = us.length ->
    (us.zipIdx j).foldl (fun (cs : Array Value) (p : Value × Nat) => cs.setIfInBounds (off + p.2) p.1) (pre ++ mid ++ post).toArray = (pre ++ us ++ post).toArray
  | [], j, pre, mid, post, _, hm => by
    have : mid = [] := List.eq_nil_of_length_eq_zero hm; subst this
    rfl
  | u :: us, j, pre, [], post, _, hm => by simp at hm
  | u :: us, j, pre, m :: mid, post, hp, hm => by
    simp only [List.zipIdx_cons, List.foldl_cons]
    have h1 : (pre ++ (m :: mid) ++ post).toArray.setIfInBounds (off + j) u = ((pre ++ [u]) ++ mid ++ post).toArray := by
      rw [<- hp]; simp
    rw [h1, O3 off us (j + 1) (pre ++ [u]) mid post (by simp; omega) (by simpa using hm)]; simp
theorem KJ (s off : Nat) (u : Value) (pre mid post : List Value) (hp : pre.length = off) (hm : mid.length = s) (hu : u.cells.size = s) :
    u.cells.zipIdx.foldl (fun (cs : Array Value) (p : Value × Nat) => cs.setIfInBounds (off + p.2) p.1) (pre ++ mid ++ post).toArray = (pre ++ u.cells.toList ++ post).toArray := by
  have := O3 off u.cells.toList 0 pre mid post (by omega) (by simp; omega); rw [<- this, <- Array.foldl_toList, Array.toList_zipIdx]
def flat (vs : List Value) : List Value := vs.flatMap fun v => v.cells.toList
theorem O4 (s : Nat) : ∀ (vs : List Value) (k : Nat) (pre rest : List Value), (∀ v ∈ vs, v.cells.size = s) -> pre.length = k * s -> rest.length = vs.length * s ->
    Instr.fill (fun i => some (i * s, s)) (pre ++ rest).toArray (lO k vs) = some (pre ++ flat vs).toArray
  | [], k, pre, rest, _, _, hr => by
    have : rest = [] := List.eq_nil_of_length_eq_zero (by simpa using hr); subst this
    rfl
  | v :: vs, k, pre, rest, hc, hp, hr => by
    have hv := hc v List.mem_cons_self; simp only [lO, Instr.fill, hv]
    have hr' : rest.length = vs.length * s + s := by rw [hr, List.length_cons, Nat.add_mul]; omega
    have h2 : (decide (s ≠ s) || decide (k * s + s > (pre ++ rest).toArray.size)) = false := by simp; omega
    rw [show (s ≠ s || k * s + s > (pre ++ rest).toArray.size) = false from h2]; simp only [Bool.false_eq_true, if_false]; have h3 := KJ s (k * s) v pre (rest.take s) (rest.drop s) hp (by rw [List.length_take]; omega) hv; rw [List.append_assoc, List.take_append_drop] at h3; have h4 : v.cells.zipIdx.foldl (fun cs (c, j) => cs.setIfInBounds (k * s + j) c) (pre ++ rest).toArray = (pre ++ v.cells.toList ++ rest.drop s).toArray := h3; rw [h4, O4 s vs (k + 1) (pre ++ v.cells.toList) (rest.drop s) (fun u hu => hc u (List.mem_cons_of_mem _ hu)) (by simp [hv, hp, Nat.add_mul]) (by rw [List.length_drop]; omega)]; simp [flat]
theorem aG.sR {τ : Ty} {u : Value} {x : τ.den} (hu : aG h S τ u x) : u.cells.size = τ.size := by simpa using hu.2.len
theorem cR.oC : ∀ {τ : Ty} {cs : List Value} {x : τ.den}, cR h S τ cs x -> cs.all aU = true := by
  intro τ
  induction τ with
  | int k => rintro cs x rfl; rfl
  | bool => rintro cs x rfl; rfl
  | str => rintro cs x rfl; rfl
  | bQ k => rintro cs x rfl; rfl
  | unit => rintro cs x rfl; rfl
  | sl e ih =>
    rintro cs x ⟨v, rfl, h2⟩
    rcases h2 with ⟨rfl, _⟩ | ⟨b, o, mk, rfl, _⟩ <;> rfl
  | fn => rintro cs x rfl; cases x <;> rfl
  | jT => rintro cs x rfl; cases x <;> rfl
  | mp a b _ _ =>
    rintro cs x ⟨v, rfl, h2⟩
    rcases h2 with ⟨rfl, _⟩ | ⟨b, es, c, rfl, _⟩ <;> rfl
  | pair a b wP wQ =>
    rintro cs x ⟨h1, h2⟩; have e1 := wP h1; have e2 := wQ h2; rw [<- List.take_append_drop a.size cs, List.all_append, e1, e2]; rfl
def cE (h : aA) (S : List Nat) (τ : Ty) (rs : List Value) (xs : List τ.den) : Prop := rs.length = xs.length * τ.size /\ ∀ i (hi : i < xs.length), cR h S τ ((rs.drop (i * τ.size)).take τ.size) xs[i]
theorem cE.nx {τ : Ty} {rs : List Value} {xs : List τ.den} (he : cE h S τ rs xs) (hN : cV h S h' S') : cE h' S' τ rs xs := ⟨he.1, fun i hi => (he.2 i hi).nx hN⟩
theorem cE.nil {τ : Ty} : cE h S τ [] [] := ⟨by simp, fun i hi => absurd hi (by simp)⟩
theorem cE.append {τ : Ty} {rs SY : List Value} {xs xs' : List τ.den} (he : cE h S τ rs xs) (lQ : cE h S τ SY xs') : cE h S τ (rs ++ SY) (xs ++ xs') := by
  refine ⟨by rw [List.length_append, List.length_append, he.1, lQ.1, Nat.add_mul], fun i hi => ?_⟩; by_cases h1 : i < xs.length
  . have h2 : (i + 1) * τ.size <= xs.length * τ.size := Nat.mul_le_mul_right _ h1; rw [Nat.add_mul] at h2
    have h3 : i * τ.size <= rs.length := by rw [he.1]; omega
    rw [List.getElem_append_left h1, List.drop_append_of_le_length h3, List.take_append_of_le_length (by rw [List.length_drop, he.1]; omega)]; exact he.2 i h1
  have nR : xs.length <= i := by omega
  have h2 : i - xs.length < xs'.length := by rw [List.length_append] at hi; omega
  rw [List.getElem_append_right nR]
  have h3 : (rs ++ SY).drop (i * τ.size) = SY.drop ((i - xs.length) * τ.size) := by
    have h4 : i * τ.size = rs.length + (i - xs.length) * τ.size := by rw [he.1, <- Nat.add_mul]; congr 1; omega
    rw [h4, List.drop_append, List.drop_eq_nil_of_le (by omega), Nat.add_sub_cancel_left, List.nil_append]
  rw [h3]; exact lQ.2 _ h2
theorem cE.one {τ : Ty} {u : Value} {x : τ.den} (hu : aG h S τ u x) : cE h S τ u.cells.toList [x] := by
  refine ⟨by simpa using hu.sR, fun i hi => ?_⟩
  have : i = 0 := by simpa using hi
  subst this; simp only [Nat.zero_mul, List.drop_zero, List.getElem_cons_zero]; rw [List.take_of_length_le (by rw [Array.length_toList, hu.sR]; exact Nat.le_refl _)]; exact hu.2
theorem cE.oC {τ : Ty} : ∀ (xs : List τ.den) (rs : List Value), cE h S τ rs xs -> rs.all aU = true := by
  intro xs
  induction xs with
  | nil => intro rs he; have := he.1; simp at this; subst this; rfl
  | cons x xs ih =>
    intro rs he; have h1 := he.2 0 (by simp); simp only [Nat.zero_mul, List.drop_zero, List.getElem_cons_zero] at h1
    have h2 : cE h S τ (rs.drop τ.size) xs := by
      refine ⟨by rw [List.length_drop, he.1, List.length_cons, Nat.add_mul]; omega, fun i hi => ?_⟩; have := he.2 (i + 1) (by simpa using hi); rw [List.drop_drop]; rw [Nat.add_mul, Nat.one_mul, List.getElem_cons_succ] at this
      rwa [Nat.add_comm]
    rw [<- List.take_append_drop τ.size rs, List.all_append, h1.oC, ih _ h2]; rfl
theorem cE.slv {τ : Ty} {e' : TypeId} {rs : List Value} {xs : List τ.den} {own more : Bool} {b mk : Nat} (he : cE h S τ rs xs) (hg : h.get b = some (.row e' rs own more)) (hb : b ∉ S) : mL h S τ (.slice (some ⟨b, 0, none⟩) xs.length mk) xs :=
  .inr ⟨b, 0, mk, rfl, .inr ⟨hb, e', rs, own, more, hg, by rw [he.1]; omega, fun i hi => by rw [Nat.zero_add]; exact he.2 i hi⟩⟩
theorem vs1 {τ : Ty} {u : Value} {x : τ.den} (h1 : aG h S τ u x) : ∀ i (hi : i < [u].length) (hx : i < [x].length), aG h S τ [u][i] [x][i] := by
  intro i hi hx
  match i, hi with
  | 0, _ => exact h1
theorem ae5 {T e : TypeId} {τ : Ty} (hT : eX P T e τ) {vs : List Value} {xs : List τ.den} (hl : vs.length = xs.length) (hv : ∀ i (hi : i < vs.length) (hx : i < xs.length), aG h S τ vs[i] xs[i]) (h0 : vs ≠ []) (dJ : vs.length <= 1000) (IJ : τ.size <= 100) (h2 : aA) :
    iS P T vs.length (lO 0 vs).toArray h2 = some (.slice (some ⟨h2.next, 0, none⟩) vs.length 0, h2.push (.row e (flat vs) true false)) := by
  obtain ⟨i, z, h1, IE, _, _, h3, h4, h5⟩ := hT.sl.info; have nF : 0 < vs.length := List.length_pos_iff.2 h0
  have hc : ∀ v ∈ vs, v.cells.size = τ.size /\ v.cells.toList.all aU = true := by
    intro v hm; obtain ⟨k, hk, rfl⟩ := List.getElem_of_mem hm; have := hv k hk (by omega); exact ⟨this.sR, this.2.oC⟩
  unfold iS; have hb : Nat.beq vs.length 0 = false := eD (by omega); simp only [hT.sl.sl, h1, hb, cond_false, h3, IE]
  have jA : ∀ (k : Nat) (l : List Value), (∀ v ∈ l, v.cells.size = τ.size /\ v.cells.toList.all aU = true) -> ((lO k l).all fun p => p.2.cells.toList.all aU) = true := by
    intro k l
    induction l generalizing k with
    | nil => intro _; rfl
    | cons u l ih =>
      intro hl; have hu := hl u List.mem_cons_self; have hr := ih (k + 1) fun w hw => hl w (List.mem_cons_of_mem _ hw); simp only [lO, List.all_cons, hu.2, Bool.true_and]; exact hr
  have QE : (Nat.ble (vs.length * τ.size) 16777216 && Nat.blt 0 τ.size && z.cells.toList.all eF && (lO 0 vs).all fun p => p.2.cells.toList.all aU) = true := by
    have e1 : Nat.ble (vs.length * τ.size) 16777216 = true := by
      rw [Nat.ble_eq]; have := Nat.mul_le_mul dJ IJ; omega
    have e2 : Nat.blt 0 τ.size = true := by show Nat.ble 1 τ.size = true; rw [Nat.ble_eq]; exact hT.sl.pos
    rw [e1, e2, h5, jA 0 vs hc]; rfl
  rw [QE]; simp only [cond_true]; have hf := O4 τ.size vs 0 [] ((Array.range (vs.length * τ.size)).map (z.cells[· % z.cells.size]!)).toList (fun v nJ => (hc v nJ).1) (by simp) (by simp); simp only [List.nil_append, Array.toArray_toList] at hf; rw [hf]
theorem cE.flat {τ : Ty} : ∀ (vs : List Value) (xs : List τ.den), vs.length = xs.length -> (∀ i (hi : i < vs.length) (hx : i < xs.length), aG h S τ vs[i] xs[i]) -> cE h S τ (Fs.flat vs) xs
  | [], [], _, _ => cE.nil
  | v :: vs, x :: xs, hl, hv => by
    have h1 : cE h S τ v.cells.toList [x] := cE.one (hv 0 (by simp) (by simp)); have h2 := cE.flat vs xs (by simpa using hl) fun i hi hx => hv (i + 1) (by simpa using hi) (by simpa using hx)
    exact h1.append h2
  | [], x :: xs, hl, _ => by simp at hl
  | v :: vs, [], hl, _ => by simp at hl
def rH (h : aA) (S : List Nat) (lo : Nat) (e : TypeId) (m : Bool) (τ : Ty) (v : Value) (xs : List τ.den) : Prop :=
  (v = .slice none 0 0 /\ xs = []) \/ ∃ b rs, b ∈ S /\ lo <= b /\ v = .slice (some ⟨b, 0, none⟩) xs.length 0 /\ h.get b = some (.row e rs true m) /\ cE h S τ rs xs
theorem BO {i : TypeInfo} {z : Value} {k b o n m s : Nat} {e e2 : TypeId} {rs news : List Value} {own more : Bool} (his : i.size = s) (hk : k * s ≠ 0) (hb : h.get b = some (.row e rs own more)) (hn : k <= n) (ho : o + k * s <= rs.length) (ak6 : (rs.drop o).take (k * s) = news) (hnk : n = k) :
    fZ i z (isInt (.slice e2)) (.slice (some ⟨b, o, none⟩) n m) h = some (k, news) := by
  subst hnk; simp only [fZ, isInt, cond_false, q4, cellsOf, his, hb]
  have e1 : Nat.ble n n = true := by rw [Nat.ble_eq]; exact Nat.le_refl _
  have e2 : Nat.beq (n * s) 0 = false := eD hk
  have e3 : Nat.ble (o + n * s) rs.length = true := by rw [Nat.ble_eq]; omega
  simp only [e1, cond_true, e2, cond_false, e3, Option.map_some, ak6]
theorem rH.len {lo : Nat} {T e : TypeId} {m : Bool} {τ : Ty} {v : Value} {xs : List τ.den} (hg : rH h S lo e m τ v xs) (hT : eX P T e τ) (h' : aA) : kI P #[T] v h' = some (.int .i64 (xs.length : Nat)) := by
  rcases hg with ⟨rfl, rfl⟩ | ⟨b, rs, h1, h2, rfl, h4, h5⟩
  . simp [kI, hT.sl.sl]
  simp [kI, hT.sl.sl]
end Go.Fs
namespace Go.Fs
variable {P : Program} {orc : FuncId -> List Value -> aA -> Option (Value × aA)} {b7 : Option Nat} {h h' h0 h1 h2 : aA} {ops : Array Oper} {n i mem : Nat} {fl : FL} {K : FL -> aA -> Prop} {l : List Oper} {bs : List Nat} {segs : List (Nat × Nat × Nat)} {tail : Bool}
  {d : Tmp} {ty : TypeId} {pos : String} {after : Array Edge} {op : Op} {v : Value} {S S' S0 : List Nat} {ms : List Nat} {Q : Ex -> Fr -> aA -> Prop}
theorem aG.box {τ : Ty} {e : TypeId} {u : Value} {x : τ.den} (bW : mZ h) (hS : ∀ b ∈ S, b < h.next) (hx : aG h S τ u x) : nY (h.push (.row e u.cells.toList true false)) S τ (.pointer (some ⟨h.next, 0, none⟩)) x := by
  have hN : cV h S (h.push (.row e u.cells.toList true false)) S := (eW.push h _).nx bW; refine ⟨h.next, 0, e, u.cells.toList, true, false, rfl, fun hm => ?_, by rw [aA.bN, if_pos rfl], by rw [Array.length_toList, hx.sR]; omega, ?_⟩
  . have := hS _ hm; omega
  rw [List.drop_zero, List.take_of_length_le (by rw [Array.length_toList, hx.sR]; exact Nat.le_refl _)]; exact hx.2.nx hN
section
variable {fr : Fr} {id xT : Nat} {b : Code} {I : Nat -> FL -> aA -> Prop} {k : Nat}
end
theorem cR.vF : ∀ {τ : Ty} {cs : List Value} {x : τ.den}, cs.all eF = true -> cR h S τ cs x -> cR h' S' τ cs x := by
  intro τ
  induction τ with
  | int k => exact fun _ hx => hx
  | bool => exact fun _ hx => hx
  | str => exact fun _ hx => hx
  | bQ k => exact fun _ hx => hx
  | unit => exact fun _ hx => hx
  | pair a b wP wQ =>
    intro cs x ha hx; rw [<- List.take_append_drop a.size cs, List.all_append] at ha; obtain ⟨h1, h2⟩ := b6 ha
    exact ⟨wP h1 hx.1, wQ h2 hx.2⟩
  | sl e ih =>
    rintro cs x ha ⟨v, rfl, h2⟩; rcases h2 with h2 | ⟨b, o, mk, rfl, _⟩
    . exact ⟨v, rfl, .inl h2⟩
    cases ha
  | fn => exact fun _ hx => hx
  | jT => exact fun _ hx => hx
  | mp a b _ _ =>
    rintro cs x ha ⟨v, rfl, h2⟩; rcases h2 with h2 | ⟨b, es, c, rfl, _⟩
    . exact ⟨v, rfl, .inl h2⟩
    cases ha
theorem aG.vF {τ : Ty} {v : Value} {x : τ.den} (hv : aG h S τ v x) (ha : pU v = true) : aG h' S' τ v x := by
  refine ⟨hv.1, hv.2.vF ?_⟩
  cases v with
  | agg cs => exact ha
  | _ => simpa [Value.cells, pU] using ha
end Go.Fs
namespace Go.Fs
variable {P : Program} {orc : FuncId -> List Value -> aA -> Option (Value × aA)} {b7 : Option Nat} {h h' h0 h1 h2 hs : aA} {ops : Array Oper} {n i mem b : Nat} {fl : FL} {K : FL -> aA -> Prop} {l : List Oper} {bs : List Nat} {segs : List (Nat × Nat × Nat)} {tail : Bool}
  {d : Tmp} {ty : TypeId} {pos : String} {after : Array Edge} {op : Op} {v : Value} {S S' S0 : List Nat}
def lX (hs : aA) (segs : List (Nat × Nat × Nat)) : Prop := ∀ s ∈ segs, hs.next <= s.2.1
theorem lX.nil : lX hs [] := fun _ h => by cases h
theorem lX.cons {lo hi : Nat} (h1 : hs.next <= lo) (h2 : lX hs segs) : lX hs ((i, lo, hi) :: segs) := fun s hm => by
  rcases List.mem_cons.1 hm with rfl | hm
  . exact h1
  exact h2 s hm
theorem n5 {p : Nat × bB -> Bool} {b : Nat} (hp : ∀ o, p (b, o) = true) : ∀ l : List (Nat × bB), look (l.filter p) b = look l b
  | [] => rfl
  | (k, o) :: r => by
    rw [List.filter_cons]; by_cases hk : k = b
    . subst hk; rw [if_pos (hp o)]; simp [look]
    split
    . simp only [look, eD hk, cond_false, n5 hp r]
    simp only [look, eD hk, cond_false, n5 hp r]
theorem O5 {m lo b : Nat} (hb : b < lo) : ∀ (segs : List (Nat × Nat × Nat)) (aB : List (Nat × bB)), (∀ s ∈ segs, lo <= s.2.1) -> look (mask m segs aB) b = look aB b
  | [], _, _ => rfl
  | (k, l, hi) :: segs, aB, hs => by
    simp only [mask]; rw [O5 hb segs _ fun s hm => hs s (List.mem_cons_of_mem _ hm)]; split
    . rfl
    refine n5 (fun o => ?_) aB; have := hs _ List.mem_cons_self; unfold outside; simp only [Bool.not_eq_true', Bool.and_eq_false_iff, decide_eq_false_iff_not]
    left; simp only at this; omega
theorem qH {m b : Nat} {o : bB} : ∀ (segs : List (Nat × Nat × Nat)) (aB : List (Nat × bB)), look (mask m segs aB) b = some o -> look aB b = some o
  | [], _, h => h
  | (k, l, hi) :: segs, aB, h => by
    simp only [mask] at h; have := qH segs _ h; split at this
    . exact this
    exact (pD (outside l hi) (fun b => !(decide (l <= b) && decide (b < hi))) (fun _ _ => rfl) aB b o this).1
def msk (m : Nat) (segs : List (Nat × Nat × Nat)) (h : aA) : aA := { next := h.next, low := h.next, aB := mask m segs h.aB }
theorem WJ {m : Nat} (hA : eW hs h) (KK : lX hs segs) : eW hs (msk m segs h) where
  next := hA.next
  get := fun b hb => (O5 hb segs h.aB KK).trans (hA.get b hb)
  ok := fun bW b o hg => hA.ok bW b o (qH segs h.aB hg)
  low := fun e h1 h2 => Nat.le_trans h2 hA.next
theorem qI (a : Nat) : Nat.ble a a = true := by rw [Nat.ble_eq]; exact Nat.le_refl _
theorem KL (a : Nat) : Nat.blt a a = false := by
  cases hx : Nat.blt a a with
  | false => rfl
  | true => have := jP hx; omega
theorem l6 {a b : Nat} (hl : b <= a) : Nat.blt a b = false := by
  cases hx : Nat.blt a b with
  | false => rfl
  | true => have := jP hx; omega
theorem yL {M : aA} (bW : mZ h) (hM : ∀ b o, M.get b = some o -> h.get b = some o) (hMn : M.next = h.next) (hA : eW M h') (ae6 : mZ M) :
    eW h { next := h'.next, low := h.low, aB := bH h.next h'.next h'.aB ++ h.aB } /\ ∀ S, cV h' S { next := h'.next, low := h.low, aB := bH h.next h'.next h'.aB ++ h.aB } S := by
  have hold : ∀ b, b < h.next -> look (bH h.next h'.next h'.aB ++ h.aB) b = look h.aB b := fun b hb => by
    rw [iN]
    cases hl : look (bH h.next h'.next h'.aB) b with
    | none => rfl
    | some o => have := (eO _ _ _ hl).1; omega
  have jQ : ∀ b o, h.next <= b -> look h'.aB b = some o -> look (bH h.next h'.next h'.aB ++ h.aB) b = some o := fun b o hb hl => by
    rw [iN]; have bL : b < h'.next := hA.ok ae6 b o hl; rw [zW _ _ hb bL, hl]; rfl
  have j6 : h.next <= h'.next := by have := hA.next; omega
  refine ⟨⟨j6, hold, fun _ b o hg => ?_, fun e h1 _ => h1⟩, fun S b o hg hS => ⟨?_, hS⟩⟩
  . by_cases hb : b < h.next
    . exact Nat.lt_of_lt_of_le hb j6
    have gX : look (bH h.next h'.next h'.aB ++ h.aB) b = some o := hg; rw [iN] at gX
    cases hl : look (bH h.next h'.next h'.aB) b with
    | some o' => exact (eO _ _ _ hl).1.2
    | none => rw [hl] at gX; exact absurd (bW b o gX) hb
  by_cases hb : b < h.next
  . have h3 : M.get b = some o := by rw [<- hA.get b (by omega)]; exact hg
    exact (hold b hb).trans (hM b o h3)
  exact jQ b o (by omega) hg
end Go.Fs
namespace Go.Fs
variable {P : Program} {orc : FuncId -> List Value -> aA -> Option (Value × aA)} {b7 : Option Nat} {h h' h0 h1 h2 hs : aA} {ops : Array Oper} {n i mem b : Nat} {fl : FL} {K : FL -> aA -> Prop} {l : List Oper} {bs : List Nat} {segs : List (Nat × Nat × Nat)} {tail : Bool}
  {d : Tmp} {ty : TypeId} {pos : String} {after : Array Edge} {op : Op} {v : Value} {S S' S0 : List Nat} {ms : List Nat} {Q : Ex -> Fr -> aA -> Prop} {c : Code}
theorem wrap64 {n : Int} (h0 : -9223372036854775808 <= n) (h1 : n <= 9223372036854775807) : IntKind.i64.wrap n = n := by
  unfold IntKind.wrap; simp only [IntKind.bits, IntKind.signed, Bool.true_and]
  have e : (2 ^ 64 : Int) = 18446744073709551616 := by decide
  have e' : (2 ^ (64 - 1) : Int) = 9223372036854775808 := by decide
  simp only [e, e', decide_eq_true_eq, ge_iff_le]; split <;> omega
variable {T T' : TypeId} {x y : Operand} {p q : Int}
end Go.Fs
namespace Go.Fs
variable {P : Program} {orc : FuncId -> List Value -> aA -> Option (Value × aA)} {b7 : Option Nat} {h h' h0 h1 h2 hs : aA} {ops : Array Oper} {n i mem b : Nat} {fl : FL} {K : FL -> aA -> Prop} {l : List Oper} {bs : List Nat} {segs : List (Nat × Nat × Nat)} {tail : Bool}
  {d : Tmp} {ty : TypeId} {pos : String} {after : Array Edge} {op : Op} {v : Value} {S S' S0 : List Nat} {ms : List Nat} {Q : Ex -> Fr -> aA -> Prop} {c : Code}
def E2 (h : aA) (lo : Nat) (p : Value) (cs : List Value) : Prop := ∃ b e, p = .pointer (some ⟨b, 0, none⟩) /\ lo <= b /\ h.get b = some (.row e cs true false)
theorem E2.ld1 {lo : Nat} {p u : Value} {e : TypeId} {cs : List Value} {k : Nat} {τ : Ty} (hb : E2 h lo p cs) (hT : fL P e τ) (ha : τ.agg = false) (hk : cs[k]? = some u) : eU P e (sQ p k) h = some u := by
  obtain ⟨b, e', rfl, h2, h3⟩ := hb; obtain ⟨i, hi, hs⟩ := hT.info; obtain ⟨d, hd, fI⟩ := hT.agg; have h4 : h.get b = some (.row e' cs true false) := h3; simp only [eU, sQ, h4, hd, hi, fI, ha, Nat.zero_add, hk]; rfl
theorem E2.N8 {lo : Nat} {p : Value} {e : TypeId} {cs : List Value} {τ : Ty} (hb : E2 h lo p cs) (hT : fL P e τ) (ha : τ.agg = true) (hk : cs.length = τ.size) : eU P e p h = some (.agg cs.toArray) := by
  obtain ⟨b, e', rfl, h2, h3⟩ := hb; obtain ⟨i, hi, hs⟩ := hT.info; obtain ⟨d, hd, fI⟩ := hT.agg; have h4 : h.get b = some (.row e' cs true false) := h3; simp only [eU, h4, hd, hi, fI, ha, hs, if_true]; rw [if_pos (by omega), List.drop_zero, <- hk, List.take_length]
theorem E2.fa {lo : Nat} {p : Value} {cs : List Value} {s : TypeId} {f k : Nat} (hp : E2 h lo p cs) (hb : O2 P s f k = true) : aE P (Instr.fieldAt s p f) = some (sQ p k) := by
  obtain ⟨b', e', rfl, h2, h3⟩ := hp; unfold O2 at hb; split at hb
  . rename_i fs hfs; split at hb
    . rename_i fd hfd; obtain ⟨h6, h7⟩ := b6 hb; split at h7
      . rename_i i hi; have h8 := jP h7; have h9 := bU h6; unfold Instr.fieldAt; simp only [aF, aL hfs, Option.bind_some, hfd]; show (aE P (Instr.sureAddr _)).bind _ = _; simp only [Instr.sureAddr, aK, Option.bind_some, aF, fieldPlace, eS hi]; rw [if_neg (by omega)]; simp only [aK, Option.bind_some, oT, h9, sQ]
      cases h7
    cases hb
  cases hb
end Go.Fs
namespace Go.Fs
variable {P : Program} {h h' : aA} {fl : FL} {S : List Nat}
theorem KM {T : TypeId} {parts : Array (Nat × Value)} {fields : Array Field} {places : Array (Nat × Nat)} {z : Value} (hu : P.underlying T = some (.struct fields)) (hz : aE P (zeroValue T) = some z)
    (hp : aE P (fields.mapM fun f => do pure (f.offset, <- sizeOf f.type)) = some places) {cs : Array Value} (hf : Instr.fill (places[·]?) z.cells parts.toList = some cs) : aE P (Instr.build T parts) = some (.agg cs) := by
  unfold Instr.build; rw [aF, hz]; simp only [Option.bind_some]; rw [aF, aL hu]; simp only [Option.bind_some]; rw [aF, hp]; simp only [Option.bind_some, hf]; rfl
end Go.Fs
namespace Go.Fs
variable {P : Program} {orc : FuncId -> List Value -> aA -> Option (Value × aA)} {b7 : Option Nat} {h h' h0 h1 h2 hs : aA} {ops : Array Oper} {n i mem b : Nat} {fl : FL} {K : FL -> aA -> Prop} {l : List Oper} {bs : List Nat} {segs : List (Nat × Nat × Nat)} {tail : Bool}
  {d : Tmp} {ty : TypeId} {pos : String} {after : Array Edge} {op : Op} {v : Value} {S S' S0 : List Nat} {ms : List Nat} {Q : Ex -> Fr -> aA -> Prop} {c : Code}
theorem SZ {cs us : List Value} (hl : us.length = cs.length) : cU cs 0 us = us := by
  unfold cU; rw [List.take_zero, List.nil_append, Nat.zero_add, hl, List.drop_length, List.append_nil]
theorem WK {τ : Ty} {rs us : List Value} {xs : List τ.den} {x : τ.den} {j : Nat} (he : cE h S τ rs xs) (hj : j < xs.length) (hx : cR h S τ us x) : cE h S τ (cU rs (j * τ.size) us) (xs.set j x) := by
  have hul := hx.len; have CJ := he.1; have N6 : (j + 1) * τ.size <= xs.length * τ.size := Nat.mul_le_mul_right _ hj; rw [Nat.add_mul, Nat.one_mul] at N6
  have rF : (rs.take (j * τ.size)).length = j * τ.size := by rw [List.length_take]; omega
  refine ⟨?_, fun i hi => ?_⟩
  . unfold cU; rw [List.length_append, List.length_append, rF, List.length_drop, List.length_set]; omega
  rw [List.length_set] at hi; have hold := he.2 i hi; unfold cU; rw [List.append_assoc]; by_cases h1 : i < j
  . have h2 : (i + 1) * τ.size <= j * τ.size := Nat.mul_le_mul_right _ h1; rw [Nat.add_mul, Nat.one_mul] at h2; rw [List.getElem_set_ne (by omega), List.drop_append_of_le_length (by omega), List.take_append_of_le_length (by rw [List.length_drop]; omega), List.drop_take, List.take_take, Nat.min_eq_left (by omega)]; exact hold
  by_cases h2 : i = j
  . subst h2
    have e1 : (rs.take (i * τ.size) ++ (us ++ rs.drop (i * τ.size + us.length))).drop (i * τ.size) = us ++ rs.drop (i * τ.size + us.length) := by
      have := List.drop_left' (l₂ := us ++ rs.drop (i * τ.size + us.length)) rF; exact this
    rw [e1, List.getElem_set_self, List.take_left' hul]; exact hx
  have h3 : (j + 1) * τ.size <= i * τ.size := Nat.mul_le_mul_right _ (by omega); rw [Nat.add_mul, Nat.one_mul] at h3
  have e1 : (rs.take (j * τ.size) ++ (us ++ rs.drop (j * τ.size + us.length))).drop (i * τ.size) = rs.drop (i * τ.size) := by
    rw [List.drop_append, List.drop_eq_nil_of_le (by omega), List.nil_append, rF, List.drop_append, List.drop_eq_nil_of_le (by omega), List.nil_append, List.drop_drop]; congr 1; omega
  rw [e1, List.getElem_set_ne (by omega)]; exact hold
theorem rH.own {lo : Nat} {e : TypeId} {m : Bool} {τ : Ty} {v : Value} {xs : List τ.den} (hg : rH h S lo e m τ v xs) (h0 : 0 < xs.length) : ∃ b rs, b ∈ S /\ lo <= b /\ v = .slice (some ⟨b, 0, none⟩) xs.length 0 /\ h.get b = some (.row e rs true m) /\ cE h S τ rs xs := by
  rcases hg with ⟨rfl, rfl⟩ | hg
  . simp at h0
  exact hg
theorem rH.ix {lo : Nat} {T e : TypeId} {m : Bool} {τ : Ty} {v : Value} {xs : List τ.den} (hg : rH h S lo e m τ v xs) (hT : eX P T e τ) {j : Nat} (hj : j < xs.length) : aE P (Instr.indexAt T v (.int .i64 (j : Nat))) = some (iO v τ.size j) := by
  obtain ⟨b, rs, _, _, rfl, _, _⟩ := hg.own (by omega); obtain ⟨i, z, yK, dJ, _⟩ := hT.sl.info; unfold Instr.indexAt
  have h6 : (0 : Int) <= (j : Int) /\ (j : Int) < (xs.length : Nat) := by omega
  simp only [aF, asIntOf, aK, Option.bind_some, aL hT.sl.sl, if_pos h6, eS yK, dJ, oT, Int.toNat_natCast, iO]
theorem rH.ld {lo : Nat} {e : TypeId} {m : Bool} {τ : Ty} {v : Value} {xs : List τ.den} (hg : rH h S lo e m τ v xs) (hT : fL P e τ) {j : Nat} (hj : j < xs.length) : eU P e (iO v τ.size j) h = some (pH h τ (iO v τ.size j)) /\ aG h S τ (pH h τ (iO v τ.size j)) xs[j] := by
  obtain ⟨b, rs, _, _, rfl, h4, h5⟩ := hg.own (by omega); have N6 : (j + 1) * τ.size <= xs.length * τ.size := Nat.mul_le_mul_right _ hj; rw [Nat.add_mul, Nat.one_mul] at N6; have CJ := h5.1; obtain ⟨i, hi, hs⟩ := hT.info; obtain ⟨d, hd, ha⟩ := hT.agg; have hx := h5.2 j hj; simp only [eU, pH, iO, h4, hd, hi, ha, hs, Nat.zero_add]
  cases hb : τ.agg with
  | true =>
    simp only [if_true, show j * τ.size + τ.size <= rs.length by omega]
    exact ⟨trivial, by simpa [gI] using hb.symm, by simpa [Value.cells] using hx⟩
  | false =>
    have h1 := Ty.sB hb; rw [h1] at hx N6 CJ ⊢
    have ho : j * 1 < rs.length := by omega
    rw [take_one ho] at hx; obtain ⟨u, hu, hv⟩ := hx.one hb; simp only [List.cons.injEq, and_true] at hu; simp only [Bool.false_eq_true, if_false, List.getD_eq_getElem?_getD, List.getElem?_eq_getElem ho, Option.getD_some]; exact ⟨trivial, by rw [hu]; exact hv⟩
theorem mL.cut {T e : TypeId} {τ : Ty} (hT : eX P T e τ) {v : Value} {xs : List τ.den} (hv : mL h S τ v xs) {a b : Int} (h0 : 0 <= a /\ a <= b /\ b <= (xs.length : Nat)) :
    ∃ w, (∀ nn ll, dN P T v (some (.int .i64 a)) (some (.int .i64 b)) none { next := nn, low := ll, aB := h.aB } = some w) /\ mL h S τ w ((xs.take b.toNat).drop a.toNat) := by
  obtain ⟨i, z, yK, dJ, _⟩ := hT.sl.info; obtain ⟨a', rfl⟩ := Int.eq_ofNat_of_zero_le h0.1; obtain ⟨b', rfl⟩ := Int.eq_ofNat_of_zero_le (show 0 <= b by omega)
  have hb : b' <= xs.length := by omega
  have uS : a' <= b' := by omega
  simp only [Int.toNat_natCast]; rcases hv with ⟨rfl, rfl⟩ | ⟨bl, o, mk, rfl, h2⟩
  . have : a' = 0 /\ b' = 0 := by simp at hb; omega
    obtain ⟨rfl, rfl⟩ := this; refine ⟨.slice none 0 0, fun nn ll => ?_, .inl ⟨rfl, rfl⟩⟩; simp [dN, hT.sl.sl, eI, yK]
  have e1 : Nat.ble a' b' = true := by rw [Nat.ble_eq]; exact uS
  have e2 : Nat.ble b' xs.length = true := by rw [Nat.ble_eq]; exact hb
  have hl : ((xs.take b').drop a').length = b' - a' := by simp; omega
  by_cases alS : a' < b' \/ a' = 0
  . refine ⟨.slice (some ⟨bl, o + a' * τ.size, none⟩) (b' - a') (bif Nat.beq mk 1 then (bif Nat.beq b' xs.length then 1 else 2) else mX e bl a' mk h), fun nn ll => ?_, ?_⟩
    . have mE : mX e bl a' mk { next := nn, low := ll, aB := h.aB } = mX e bl a' mk h := rfl
      have KN : (Nat.blt a' b' || Nat.beq a' 0) = true := by
        rcases alS with h3 | rfl
        . have : Nat.blt a' b' = true := by show Nat.ble (a' + 1) b' = true; rw [Nat.ble_eq]; exact h3
          rw [this]; rfl
        simp
      simp only [dN, hT.sl.sl, yK, eI, Int.natCast_nonneg, if_true, Int.toNat_natCast, e1, e2, Bool.and_self, cond_true, cutAt, KN, dJ, mE]
    refine .inr ⟨bl, o + a' * τ.size, _, by rw [hl], ?_⟩; by_cases hz : a' = b'
    . left; exact List.eq_nil_of_length_eq_zero (by omega)
    right; rcases h2 with rfl | ⟨h2, e', rs, own, more, h3, h4, h5⟩
    . simp at hb; omega
    have W9 : b' * τ.size <= xs.length * τ.size := Nat.mul_le_mul_right _ hb
    have ao2 : a' * τ.size + (b' - a') * τ.size = b' * τ.size := by rw [<- Nat.add_mul]; congr 1; omega
    refine ⟨h2, e', rs, own, more, h3, by rw [hl]; omega, fun i hi => ?_⟩; rw [hl] at hi; have := h5 (a' + i) (by omega); rw [List.getElem_drop, List.getElem_take]
    rwa [Nat.add_mul, <- Nat.add_assoc] at this
  have alT : a' = b' := by omega
  subst alT; refine ⟨.slice (some ⟨0, 0, none⟩) 0 2, fun nn ll => ?_, .inr ⟨0, 0, 2, by rw [hl]; simp, .inl (List.eq_nil_of_length_eq_zero (by omega))⟩⟩
  have KN : (Nat.blt a' a' || Nat.beq a' 0) = false := by
    rw [KL, eD (by omega)]; rfl
  simp only [dN, hT.sl.sl, yK, eI, Int.natCast_nonneg, if_true, Int.toNat_natCast, e1, e2, Bool.and_self, cond_true, cutAt, KN, cond_false]
end Go.Fs
namespace Go.Fs
variable {P : Program} {fl : FL}
theorem qJ : aE P program = some P := rfl
end Go.Fs
namespace Go.Fs
variable {P : Program} {orc : FuncId -> List Value -> aA -> Option (Value × aA)} {h h' h0 : aA} {fl : FL} {op : Op} {v : Value} {S S' S0 : List Nat} {ops : Array Oper} {n : Nat} {K : FL -> aA -> Prop} {l : List Oper} {d : Tmp} {ty : TypeId} {pos : String} {after : Array Edge}
theorem apart {p q : List Nat} {m : Nat} (hp : ∀ b ∈ p, m <= b) (hq : ∀ b ∈ q, b < m) : ∀ b ∈ p, b ∉ q := fun b h1 h2 => by
  have := hp b h1; have := hq b h2; omega
theorem T0 {T e : TypeId} {τ : Ty} (hT : eX P T e τ) (H : aA) : dN P T (.slice none 0 0) none (some (.int .i64 0)) none H = some (.slice none 0 0) := by
  obtain ⟨i, z, nZ, _⟩ := hT.sl.info; simp [dN, hT.sl.sl, eI, nZ]
theorem T1 {T e : TypeId} {τ : Ty} (hT : eX P T e τ) (H : aA) (b n : Nat) : dN P T (.slice (some ⟨b, 0, none⟩) n 0) none (some (.int .i64 0)) none H = some (.slice (some ⟨b, 0, none⟩) 0 0) := by
  obtain ⟨i, z, nZ, _⟩ := hT.sl.info
  have e1 : Nat.ble 0 n = true := by rw [Nat.ble_eq]; exact Nat.zero_le _
  have e2 : Nat.ble 0 0 = true := rfl; have e3 : Nat.beq 0 1 = false := rfl; simp only [dN, hT.sl.sl, eI, nZ]; simp [e1, e2, e3, cutAt, mX]
theorem CK (z : Value) (n : Nat) : (fG z n).length = n * z.cells.size := by simp [fG]
theorem WL {z : Value} (hz : z.cells.toList.all aU = true) (h0 : 0 < z.cells.size) (n : Nat) : (fG z n).all aU = true := by
  rw [List.all_eq_true]; intro x hx; simp only [fG, List.mem_map, List.mem_range] at hx; obtain ⟨k, _, rfl⟩ := hx; have hk : k % z.cells.size < z.cells.size := Nat.mod_lt _ h0; rw [getElem!_pos z.cells _ hk]; exact List.all_eq_true.1 hz _ (by rw [<- Array.getElem_toList (h := by simpa using hk)]; exact List.getElem_mem _)
theorem E3 {cs : List Value} (hc : cs.all eF = true) : cs.all aU = true := by
  rw [List.all_eq_true] at hc ⊢; intro x hx; have := hc x hx; cases x <;> first | rfl | simp_all [eF, aU]
end Go.Fs
namespace Go.Fs
variable {P : Program} {orc : FuncId -> List Value -> aA -> Option (Value × aA)} {h h' h0 : aA} {fl : FL} {op : Op} {v : Value} {S S' S0 : List Nat} {ops : Array Oper} {n i mem : Nat} {K : FL -> aA -> Prop} {l : List Oper} {d : Tmp} {ty : TypeId} {pos : String} {after : Array Edge} {bs : List Nat} {segs : List (Nat × Nat × Nat)} {tail : Bool}
theorem E4 {n : Int} (h : 0 <= n /\ n < 18446744073709551616) : IntKind.u64.wrap n = n := by
  unfold IntKind.wrap; simp only [IntKind.bits, IntKind.signed, Bool.false_and]
  have e : (2 ^ 64 : Int) = 18446744073709551616 := by decide
  simp only [e]; have := Int.emod_eq_of_lt h.1 h.2; simp [this]
end Go.Fs
namespace Go.Fs
def Ty.fU : Ty -> Bool
  | .sl _ => false
  | .mp _ _ => false
  | .fn => false
  | .jT => false
  | .pair a b => a.fU && b.fU
  | _ => true
def Ty.gQ : (τ : Ty) -> τ.den -> List Value
  | .int k, n => [.int k n]
  | .bool, b => [.bool b]
  | .str, s => [.string s]
  | .bQ k, b => [.float k b]
  | .unit, _ => []
  | .sl _, _ => []
  | .mp _ _, _ => []
  | .fn, _ => []
  | .jT, _ => []
  | .pair a b, x => a.gQ x.1 ++ b.gQ x.2
theorem r7 {h : aA} {S : List Nat} : ∀ {τ : Ty} {cs : List Value} {x : τ.den}, cR h S τ cs x -> τ.fU = true -> cs = τ.gQ x := by
  intro τ
  induction τ with
  | int k => intro cs x hx _; exact hx
  | bool => intro cs x hx _; exact hx
  | str => intro cs x hx _; exact hx
  | bQ k => intro cs x hx _; exact hx
  | unit => intro cs x hx _; exact hx
  | sl e ih => intro cs x _ hf; cases hf
  | fn => intro cs x _ hf; cases hf
  | jT => intro cs x _ hf; cases hf
  | mp a b _ _ => intro cs x _ hf; cases hf
  | pair a b wP wQ =>
    intro cs x hx hf
    have h1 : a.fU = true /\ b.fU = true := by simpa [Ty.fU] using hf
    have e1 := wP hx.1 h1.1; have e2 := wQ hx.2 h1.2; show cs = a.gQ x.1 ++ b.gQ x.2; rw [<- e1, <- e2, List.take_append_drop]
theorem flat_agg {h : aA} {S : List Nat} {τ : Ty} {v : Value} {x : τ.den} (hv : aG h S τ v x) (hf : τ.fU = true) (ha : τ.agg = true) : v = .agg (τ.gQ x).toArray := by
  obtain ⟨h1, h2⟩ := hv; have h3 := r7 h2 hf
  cases v with
  | agg cs =>
    have h4 : cs.toList = τ.gQ x := h3
    rw [<- h4]
  | _ => rw [ha] at h1; cases h1
end Go.Fs
namespace Go.Fs
structure alU where
  n : Nat
  e : TypeId
  τ : Ty
  x : τ.den
def aiK : List alU := []
end Go.Fs
namespace Go.Fs
variable {h h' : aA} {S S' : List Nat}
def GT (h : aA) (S : List Nat) : Prop := ∀ v ∈ aiK, ∃ vs, h.get (v.n + 1) = some (.row v.e vs false true) /\ v.n + 1 ∉ S /\ vs.length = v.τ.size /\ ∀ h' S', cR h' S' v.τ vs v.x
theorem GT.nx (hs : GT h S) (hN : cV h S h' S') : GT h' S' := fun v hv => by
  obtain ⟨vs, h1, h2, h3, h4⟩ := hs v hv; obtain ⟨h5, h6⟩ := hN _ _ h1 h2; exact ⟨vs, h5, h6, h3, h4⟩
def adW (h : aA) : Prop := mZ h /\ GT h []
end Go.Fs
namespace Go.Fs
variable {P : Program} {h h' h0 h1 h2 : aA} {S S' S0 B G : List Nat}
inductive PV where
  | v (τ : Ty) (x : τ.den)
  | p (τ : Ty) (x : τ.den)
  | raw (u : Value)
  | mF (f : FuncId) (a c : List PV)
  | kL (l : List PV)
  | gd (b : Bool) (v : PV)
  | agg (l : List PV)
mutual
def aJ (h : aA) (S : List Nat) : PV -> Value -> Prop
  | .v τ x, u => aG h S τ u x
  | .p τ x, u => nY h S τ u x
  | .raw w, u => u = w
  | .mF f a c, u => ∃ va vc : List Value, u = .func (.func f) va.toArray vc.toArray /\ bA h S a va /\ bA h S c vc
  | .kL l, u => ∃ vs : List Value, u = .tuple vs.toArray /\ bA h S l vs
  | .gd b v, u => (b = true -> aJ h S v u) /\ (b = false -> u = undef)
  | .agg l, u => ∃ vs : List Value, u = .agg vs.toArray /\ bA h S l vs
def bA (h : aA) (S : List Nat) : List PV -> List Value -> Prop
  | [], us => us = []
  | p :: ps, us => ∃ u r, us = u :: r /\ aJ h S p u /\ bA h S ps r
end
def pI (h : aA) (S : List Nat) (h' : aA) (S' : List Nat) : Prop := ∀ b o, h.get b = some o -> o ≠ .iR -> b ∉ S -> h'.get b = some o /\ b ∉ S'
theorem cV.r (hN : cV h S h' S') : pI h S h' S' := fun b _ hg _ hb => hN b _ hg hb
theorem cR.mG (hN : pI h S h' S') : ∀ {τ : Ty} {cs : List Value} {x : τ.den}, cR h S τ cs x -> cR h' S' τ cs x := by
  intro τ
  induction τ with
  | int k => exact fun hx => hx
  | bool => exact fun hx => hx
  | str => exact fun hx => hx
  | bQ k => exact fun hx => hx
  | unit => exact fun hx => hx
  | pair a b wP wQ => exact fun hx => ⟨wP hx.1, wQ hx.2⟩
  | sl e ih =>
    rintro cs x ⟨v, h1, h2⟩; refine ⟨v, h1, ?_⟩; rcases h2 with h2 | ⟨b, o, mk, h2, h3⟩
    . exact .inl h2
    refine .inr ⟨b, o, mk, h2, ?_⟩; rcases h3 with h3 | ⟨h3, e', rs, own, more, h4, h5, h6⟩
    . exact .inl h3
    obtain ⟨h7, h8⟩ := hN b _ h4 (by simp) h3
    exact .inr ⟨h8, e', rs, own, more, h7, h5, fun i hi => ih (h6 i hi)⟩
  | fn => exact fun hx => hx
  | jT => exact fun hx => hx
  | mp a b wP wQ =>
    rintro cs x ⟨v, h1, h2⟩; refine ⟨v, h1, ?_⟩; rcases h2 with h2 | ⟨b, es, c, h2, h3, h4, h5, h6⟩
    . exact .inl h2
    obtain ⟨h7, h8⟩ := hN b _ h4 (by simp) h3; exact .inr ⟨b, es, c, h2, h8, h7, h5, fun i hi hj => ⟨⟨(h6 i hi hj).1.1, wP (h6 i hi hj).1.2⟩, ⟨(h6 i hi hj).2.1, wQ (h6 i hi hj).2.2⟩⟩⟩
theorem nY.mG (hN : pI h S h' S') {τ : Ty} {p : Value} {x : τ.den} (hp : nY h S τ p x) : nY h' S' τ p x := by
  obtain ⟨b, o, e, rs, own, more, h1, h2, h3, h4, h5⟩ := hp; obtain ⟨h6, h7⟩ := hN b _ h3 (by simp) h2; exact ⟨b, o, e, rs, own, more, h1, h7, h6, h4, h5.mG hN⟩
mutual
theorem aJ.mG (hN : pI h S h' S') : ∀ {pv : PV} {u : Value}, aJ h S pv u -> aJ h' S' pv u
  | .v τ x, u, hx => ⟨hx.1, cR.mG hN hx.2⟩
  | .p τ x, u, hx => nY.mG hN hx
  | .raw w, u, hx => hx
  | .mF f a c, u, ⟨va, vc, h1, h2, h3⟩ => ⟨va, vc, h1, bA.mG hN h2, bA.mG hN h3⟩
  | .kL l, u, ⟨vs, h1, h2⟩ => ⟨vs, h1, bA.mG hN h2⟩
  | .gd b v, u, ⟨h1, h2⟩ => ⟨fun e => aJ.mG hN (h1 e), h2⟩
  | .agg l, u, ⟨vs, h1, h2⟩ => ⟨vs, h1, bA.mG hN h2⟩
theorem bA.mG (hN : pI h S h' S') : ∀ {l : List PV} {us : List Value}, bA h S l us -> bA h' S' l us
  | [], us, hx => hx
  | p :: ps, us, ⟨u, r, h1, h2, h3⟩ => ⟨u, r, h1, aJ.mG hN h2, bA.mG hN h3⟩
end
theorem aJ.nx (hN : cV h S h' S') {pv : PV} {u : Value} (hx : aJ h S pv u) : aJ h' S' pv u := hx.mG hN.r
theorem bA.nx (hN : cV h S h' S') {l : List PV} {us : List Value} (hx : bA h S l us) : bA h' S' l us := hx.mG hN.r
theorem bA.len : ∀ {l : List PV} {us : List Value}, bA h S l us -> us.length = l.length
  | [], us, hx => by rw [show us = [] from hx]; rfl
  | p :: ps, us, ⟨u, r, h1, _, h3⟩ => by rw [h1, List.length_cons, List.length_cons, bA.len h3]
theorem bA.append : ∀ {l l' : List PV} {us uT : List Value}, bA h S l us -> bA h S l' uT -> bA h S (l ++ l') (us ++ uT)
  | [], l', us, uT, hx, hy => by rw [show us = [] from hx]; exact hy
  | p :: ps, l', us, uT, ⟨u, r, h1, h2, h3⟩, hy => ⟨u, r ++ uT, by rw [h1]; rfl, h2, bA.append h3 hy⟩
def PV.iP : PV -> Bool
  | .v τ _ => τ.fU
  | .raw u => pU u
  | _ => false
def PV.flat : PV -> Bool
  | .kL l => l.all PV.iP
  | q => q.iP
theorem vG : ∀ (τ : Ty) (x : τ.den), (τ.gQ x).all eF = true
  | .int _, _ => rfl
  | .bool, _ => rfl
  | .str, _ => rfl
  | .bQ _, _ => rfl
  | .unit, _ => rfl
  | .sl _, _ => rfl
  | .mp _ _, _ => rfl
  | .fn, _ => rfl
  | .jT, _ => rfl
  | .pair a b, x => by
    show (a.gQ x.1 ++ b.gQ x.2).all eF = true; rw [List.all_append, vG a, vG b]; rfl
theorem sC {τ : Ty} {u : Value} {x : τ.den} (hf : τ.fU = true) (hx : aG h S τ u x) : pU u = true := by
  have hc := r7 hx.2 hf
  cases ha : gI u with
  | true =>
    cases u with
    | agg cs =>
      show cs.toList.all eF = true; have : cs.toList = τ.gQ x := hc
      rw [this]; exact vG τ x
    | _ => cases ha
  | false =>
    rw [cells_one ha] at hc; have h1 := vG τ x; rw [<- hc] at h1
    have h2 : eF u = true := by simpa using h1
    cases u with
    | agg cs => cases ha
    | _ => exact h2
theorem aJ.iP : ∀ {pv : PV} {u : Value}, pv.iP = true -> aJ h S pv u -> pU u = true /\ ∀ h' S', aJ h' S' pv u
  | .v τ x, u, hf, hx => ⟨sC hf hx, fun h' S' => aG.vF (τ := τ) hx (sC hf hx)⟩
  | .raw w, u, hf, hx => ⟨by rw [show u = w from hx]; exact hf, fun _ _ => hx⟩
  | .p _ _, _, hf, _ => by cases hf
  | .mF _ _ _, _, hf, _ => by cases hf
  | .kL _, _, hf, _ => by cases hf
  | .gd _ _, _, hf, _ => by cases hf
theorem bA.iP : ∀ {l : List PV} {us : List Value}, l.all PV.iP = true -> bA h S l us -> us.all pU = true /\ ∀ h' S', bA h' S' l us
  | [], us, _, hx => ⟨by rw [show us = [] from hx]; rfl, fun _ _ => hx⟩
  | p :: ps, us, hf, ⟨u, r, h1, h2, h3⟩ => by
    rw [List.all_cons] at hf; obtain ⟨f1, f2⟩ := b6 hf; obtain ⟨a1, a2⟩ := h2.iP f1; obtain ⟨b1, b2⟩ := bA.iP f2 h3; exact ⟨by rw [h1, List.all_cons, a1, b1]; rfl, fun h' S' => ⟨u, r, h1, a2 h' S', b2 h' S'⟩⟩
theorem sS {u : Value} (hu : pU u = true) : af u = true := by
  cases u with
  | tuple vs => cases hu
  | _ => exact hu
theorem aJ.flat {pv : PV} {u : Value} (hf : pv.flat = true) (hx : aJ h S pv u) : af u = true /\ ∀ h' S', aJ h' S' pv u := by
  cases pv with
  | kL l =>
    obtain ⟨vs, h1, h2⟩ := hx; obtain ⟨a1, a2⟩ := bA.iP (l := l) hf h2; refine ⟨?_, fun h' S' => ⟨vs, h1, a2 h' S'⟩⟩; rw [h1]; show vs.toArray.toList.all pU = true
    exact a1
  | v τ x => obtain ⟨a1, a2⟩ := aJ.iP (pv := .v τ x) hf hx; exact ⟨sS a1, a2⟩
  | p τ x => cases hf
  | raw w => obtain ⟨a1, a2⟩ := aJ.iP (pv := .raw w) hf hx; exact ⟨sS a1, a2⟩
  | mF f a c => cases hf
  | gd b v => cases hf
  | agg l => cases hf
structure cO (h h' : aA) (B : List Nat) : Prop where
  next : h.next <= h'.next
  get : ∀ b, b < h.next -> b ∉ B -> h'.get b = h.get b
  ok : mZ h -> mZ h'
  low : ∀ e, e <= h.low -> e <= h.next -> (∀ b ∈ B, e <= b) -> e <= h'.low
  chg : ∀ b, b < h.next -> h'.get b = h.get b \/ h'.low <= b
  sT : h'.low <= h.low
theorem cO.refl (h : aA) (B : List Nat) : cO h h B := ⟨Nat.le_refl _, fun _ _ _ => rfl, fun x => x, fun _ x _ _ => x, fun _ _ => .inl rfl, Nat.le_refl _⟩
theorem cO.trans {B' : List Nat} (a : cO h h1 B) (b : cO h1 h2 B') (hB : ∀ i ∈ B', i ∈ B \/ h.next <= i) : cO h h2 B where
  next := Nat.le_trans a.next b.next
  get := fun i hi hn => by
    have := a.next; rw [b.get i (by omega) (fun hm => by rcases hB i hm with h3 | h3; exact hn h3; omega), a.get i hi hn]
  ok := fun x => b.ok (a.ok x)
  low := fun e h3 h4 h5 => b.low e (a.low e h3 h4 h5) (Nat.le_trans h4 a.next) fun i hi => by
    rcases hB i hi with h6 | h6
    . exact h5 i h6
    omega
  chg := fun i hi => by
    have := a.next; have := b.sT; rcases b.chg i (by omega) with h3 | h3
    . rcases a.chg i hi with h4 | h4
      . exact .inl (h3.trans h4)
      exact .inr (by omega)
    exact .inr h3
  sT := Nat.le_trans b.sT a.sT
theorem cO.ZF {B' : List Nat} (a : cO h h1 B) (hB : ∀ i ∈ B, i ∈ B') : cO h h1 B' where
  next := a.next
  get := fun i hi hn => a.get i hi fun hm => hn (hB i hm)
  ok := a.ok
  low := fun e h3 h4 h5 => a.low e h3 h4 fun i hi => h5 i (hB i hi)
  chg := a.chg
  sT := a.sT
theorem cO.after (a : cO h h1 []) : eW h h1 := ⟨a.next, fun b hb => a.get b hb (by simp), a.ok, fun e h3 h4 => a.low e h3 h4 (by simp)⟩
theorem cO.push (h : aA) (o : bB) (B : List Nat) : cO h (h.push o) B where
  next := Nat.le_succ _
  get := fun b hb _ => by rw [aA.bN, if_neg (by omega)]
  ok := (eW.push h o).ok
  low := fun e h3 _ _ => h3
  chg := fun b hb => .inl (by rw [aA.bN, if_neg (by omega)])
  sT := Nat.le_refl _
theorem cO.set {b : Nat} {o o' : bB} (hg : h.get b = some o) (hb : b ∈ B) : cO h (h.set b o') B where
  next := Nat.le_refl _
  get := fun i _ hi => by rw [aA.cZ hg, if_neg (fun e => hi (by subst e; exact hb))]
  ok := fun x i oi hi => by
    rw [aA.cZ hg] at hi; split at hi
    . rename_i e; rw [e]; exact x b o hg
    exact x i oi hi
  low := fun e h3 _ h5 => Nat.le_min.2 ⟨h3, h5 b hb⟩
  chg := fun i hi => by
    by_cases e : i = b
    . exact .inr (by subst e; exact Nat.min_le_right _ _)
    exact .inl (by rw [aA.cZ hg, if_neg e])
  sT := Nat.min_le_left _ _
theorem cO.drop {b : Nat} (hb : b ∈ B) : cO h (h.drop b) B where
  next := Nat.le_refl _
  get := fun i _ hi => by rw [aA.cP, if_neg (fun e => hi (by subst e; exact hb))]
  ok := fun x i oi hi => by
    rw [aA.cP] at hi; split at hi
    . cases hi
    exact x i oi hi
  low := fun e h3 _ h5 => Nat.le_min.2 ⟨h3, h5 b hb⟩
  chg := fun i hi => by
    by_cases e : i = b
    . exact .inr (by subst e; exact Nat.min_le_right _ _)
    exact .inl (by rw [aA.cP, if_neg e])
  sT := Nat.min_le_left _ _
theorem cO.kB (a : cO h h' B) (bW : mZ h) (hB : ∀ b ∈ B, b ∈ S) (hS : ∀ b ∈ S', b ∈ S \/ h.next <= b) : cV h S h' S' := fun b o hg hb => by
  have bL := bW b o hg; refine ⟨by rw [a.get b bL (fun hm => hb (hB b hm))]; exact hg, fun hm => ?_⟩; rcases hS b hm with h3 | h3
  . exact hb h3
  omega
inductive Cell where
  | row (e : TypeId) (τ : Ty) (xs : List τ.den)
  | var (cs : List PV)
  | cap (e : TypeId) (n : Nat) (τ : Ty) (xs : List τ.den)
  | mp (κ ν : Ty) (kvs : List (κ.den × ν.den))
  | it (s : ByteArray) (pos : Nat)
  | loop (st : LoopState) (jump : Option Code) (n : Nat) (fl : List (Nat × PV)) (ps : Array Tmp) (assign body : Code)
  | tP (e : TypeId) (n : Nat) (cs : List PV)
abbrev aX := List (Value × Cell)
def cW : Value -> List Nat
  | .slice (some a) _ _ => [a.block]
  | .pointer (some a) => [a.block]
  | .map (some b) => [b]
  | .func (.yield l) _ _ => [l]
  | _ => []
abbrev VL := List (Nat × PV)
def jG : VL -> Nat -> Option PV
  | [], _ => none
  | (k, v) :: r, i => bif Nat.beq k i then some v else jG r i
theorem GT.mG (hs : GT h S) (hN : pI h S h' S') : GT h' S' := fun v hv => by
  obtain ⟨vs, h1, h2, h3, h4⟩ := hs v hv; obtain ⟨h5, h6⟩ := hN _ _ h1 (by simp) h2; exact ⟨vs, h5, h6, h3, h4⟩
def QG (h : aA) (S : List Nat) : Prop := (∀ b ∈ S, b < h.next) /\ ∀ v ∈ aiK, v.n + 1 < h.next
instance : CoeFun (QG h S) fun _ => ∀ b, b ∈ S -> b < h.next := ⟨fun hs => hs.1⟩
theorem GT.slt (hs : GT h S) (bW : mZ h) (h0 : ∀ b ∈ S0, b < h.next) : QG h S0 := ⟨h0, fun v hv => by
  obtain ⟨vs, h1, _⟩ := hs v hv
  exact bW _ _ h1⟩
theorem GT.seen {hs M : aA} (hG : GT h S) (a1 : eW hs h) (a2 : eW hs M) (hl : QG hs S0) : GT M S := fun v hv => by
  obtain ⟨vs, h1, h2, h3, h4⟩ := hG v hv; have hb := hl.2 v hv; exact ⟨vs, by rw [a2.get _ hb, <- a1.get _ hb]; exact h1, h2, h3, h4⟩
theorem GT.via {hs M : aA} (hG : GT h S) (hl : QG hs S0) (hk : ∀ k o, k < hs.next -> h.get k = some o -> M.get k = some o) : GT M S := fun v hv => by
  obtain ⟨vs, h1, h2, h3, h4⟩ := hG v hv; exact ⟨vs, hk _ _ (hl.2 v hv) h1, h2, h3, h4⟩
def QH (h : aA) (S : List Nat) : Prop := (∀ b ∈ S, b < h.next) /\ GT h S
def eP (h : aA) (S : List Nat) (t : Tr) (fl : VL) : Prop := GT h S /\ ∀ k v, jG fl k = some v -> aJ h S v (t.get k)
theorem eP.nx {t : Tr} {fl : VL} (hs : eP h S t fl) (hN : cV h S h' S') : eP h' S' t fl := ⟨hs.1.nx hN, fun k v hk => (hs.2 k v hk).nx hN⟩
theorem eP.mG {t : Tr} {fl : VL} (hs : eP h S t fl) (hN : pI h S h' S') : eP h' S' t fl := ⟨hs.1.mG hN, fun k v hk => (hs.2 k v hk).mG hN⟩
instance {t : Tr} {fl : VL} : CoeFun (eP h S t fl) fun _ => ∀ k v, jG fl k = some v -> aJ h S v (t.get k) := ⟨fun hs => hs.2⟩
instance : CoeFun (QH h S) fun _ => ∀ b, b ∈ S -> b < h.next := ⟨fun hs => hs.1⟩
def own (σ : aX) : List Nat := σ.flatMap fun c => cW c.1
def bS (h : aA) (S : List Nat) (w : Value) : Cell -> Prop
  | .row e τ xs => (w = .slice none 0 0 /\ xs = []) \/ ∃ b rs m, w = .slice (some ⟨b, 0, none⟩) xs.length 0 /\ b ∈ S /\ h.get b = some (.row e rs true m) /\ cE h S τ rs xs
  | .var cs => ∃ b e vs, w = .pointer (some ⟨b, 0, none⟩) /\ b ∈ S /\ h.get b = some (.row e vs true false) /\ bA h S cs vs /\ vs.all aU = true
  | .cap e n τ xs => ∃ b rs m, w = .slice (some ⟨b, 0, none⟩) xs.length 0 /\ b ∈ S /\ h.get b = some (.row e rs true m) /\ rs.length = n * τ.size /\ xs.length <= n /\ cE h S τ (rs.take (xs.length * τ.size)) xs
  | .mp κ ν kvs => ∃ b es clock, w = .map (some b) /\ b ∈ S /\ h.get b = some (.nO es clock) /\ es.length = kvs.length /\ ∀ i (hi : i < kvs.length) (hj : i < es.length), aG h S κ es[i].key kvs[i].1 /\ aG h S ν es[i].val kvs[i].2
  | .it s pos => ∃ b, w = .pointer (some ⟨b, 0, none⟩) /\ b ∈ S /\ h.get b = some (.iter s pos)
  | .loop st jump n fl ps assign body => ∃ l tmps d, w = .func (.yield l) #[] #[] /\ l ∈ S /\ h.get l = some (.dL st jump tmps n ps assign body d) /\ eP h S tmps fl
  | .tP e n cs => (w = .slice none 0 0 /\ n = 0 /\ cs = []) \/ ∃ b rs m, w = .slice (some ⟨b, 0, none⟩) n 0 /\ b ∈ S /\ h.get b = some (.row e rs true m) /\ bA h S cs rs /\ rs.all aU = true /\ (n = 0 -> m = false)
theorem bS.aW {w : Value} : ∀ {c : Cell}, bS h S w c -> (∀ b ∈ cW w, h'.get b = h.get b) -> cV h S h' S' -> (∀ b ∈ cW w, b ∈ S') -> bS h' S' w c
  | .row e τ xs, hc, hg, hN, hs => by
    rcases hc with hc | ⟨b, rs, m, rfl, h2, h3, h4⟩
    . exact .inl hc
    exact .inr ⟨b, rs, m, rfl, hs b (by simp [cW]), by rw [hg b (by simp [cW])]; exact h3, h4.nx hN⟩
  | .var cs, ⟨b, e, vs, h1, h2, h3, h4, h5⟩, hg, hN, hs => by
    subst h1
    exact ⟨b, e, vs, rfl, hs b (by simp [cW]), by rw [hg b (by simp [cW])]; exact h3, h4.nx hN, h5⟩
  | .cap e n τ xs, ⟨b, rs, m, h1, h2, h3, h4, h5, h6⟩, hg, hN, hs => by
    subst h1
    exact ⟨b, rs, m, rfl, hs b (by simp [cW]), by rw [hg b (by simp [cW])]; exact h3, h4, h5, h6.nx hN⟩
  | .mp κ ν kvs, ⟨b, es, c, h1, h2, h3, h4, h5⟩, hg, hN, hs => by
    subst h1
    exact ⟨b, es, c, rfl, hs b (by simp [cW]), by rw [hg b (by simp [cW])]; exact h3, h4, fun i hi hj => ⟨(h5 i hi hj).1.nx hN, (h5 i hi hj).2.nx hN⟩⟩
  | .it s pos, ⟨b, h1, h2, h3⟩, hg, hN, hs => by
    subst h1
    exact ⟨b, rfl, hs b (by simp [cW]), by rw [hg b (by simp [cW])]; exact h3⟩
  | .loop st jump n fl ps assign body, ⟨l, tmps, d, h1, h2, h3, h4⟩, hg, hN, hs => by
    subst h1
    exact ⟨l, tmps, d, rfl, hs l (by simp [cW]), by rw [hg l (by simp [cW])]; exact h3, h4.nx hN⟩
  | .tP e n cs, hc, hg, hN, hs => by
    rcases hc with hc | ⟨b, rs, m, rfl, h2, h3, h4, h5⟩
    . exact .inl hc
    exact .inr ⟨b, rs, m, rfl, hs b (by simp [cW]), by rw [hg b (by simp [cW])]; exact h3, h4.nx hN, h5⟩
theorem bS.isObj {w : Value} : ∀ {c : Cell}, bS h S w c -> ∀ b ∈ cW w, ∃ o, h.get b = some o /\ o ≠ .iR
  | .row e τ xs, hc, b, hb => by
    rcases hc with ⟨rfl, _⟩ | ⟨b', rs, m, rfl, h2, h3, h4⟩
    . cases hb
    obtain rfl : b = b' := by simpa [cW] using hb
    exact ⟨_, h3, by simp⟩
  | .var cs, ⟨b', e, vs, h1, h2, h3, h4, h5⟩, b, hb => by
    subst h1
    obtain rfl : b = b' := by simpa [cW] using hb
    exact ⟨_, h3, by simp⟩
  | .cap e n τ xs, ⟨b', rs, m, h1, h2, h3, h4, h5, h6⟩, b, hb => by
    subst h1
    obtain rfl : b = b' := by simpa [cW] using hb
    exact ⟨_, h3, by simp⟩
  | .mp κ ν kvs, ⟨b', es, c, h1, h2, h3, h4, h5⟩, b, hb => by
    subst h1
    obtain rfl : b = b' := by simpa [cW] using hb
    exact ⟨_, h3, by simp⟩
  | .it s pos, ⟨b', h1, h2, h3⟩, b, hb => by
    subst h1
    obtain rfl : b = b' := by simpa [cW] using hb
    exact ⟨_, h3, by simp⟩
  | .loop st jump n fl ps assign body, ⟨l, tmps, d, h1, h2, h3, h4⟩, b, hb => by
    subst h1
    obtain rfl : b = l := by simpa [cW] using hb
    exact ⟨_, h3, by simp⟩
  | .tP e n cs, hc, b, hb => by
    rcases hc with ⟨rfl, _⟩ | ⟨b', rs, m, rfl, h2, h3, h4⟩
    . cases hb
    obtain rfl : b = b' := by simpa [cW] using hb
    exact ⟨_, h3, by simp⟩
theorem bS.alV {w : Value} : ∀ {c : Cell}, bS h S w c -> ∀ b ∈ cW w, ∀ e vs, h.get b ≠ some (.row e vs false true)
  | .row e τ xs, hc, b, hb, e', gV, hg => by
    rcases hc with ⟨rfl, _⟩ | ⟨b', rs, m, rfl, h2, h3, h4⟩
    . cases hb
    obtain rfl : b = b' := by simpa [cW] using hb
    rw [h3] at hg; cases hg
  | .var cs, ⟨b', e, vs, h1, h2, h3, h4, h5⟩, b, hb, e', gV, hg => by
    subst h1
    obtain rfl : b = b' := by simpa [cW] using hb
    rw [h3] at hg; cases hg
  | .cap e n τ xs, ⟨b', rs, m, h1, h2, h3, h4, h5, h6⟩, b, hb, e', gV, hg => by
    subst h1
    obtain rfl : b = b' := by simpa [cW] using hb
    rw [h3] at hg; cases hg
  | .mp κ ν kvs, ⟨b', es, c, h1, h2, h3, h4, h5⟩, b, hb, e', gV, hg => by
    subst h1
    obtain rfl : b = b' := by simpa [cW] using hb
    rw [h3] at hg; cases hg
  | .it s pos, ⟨b', h1, h2, h3⟩, b, hb, e', gV, hg => by
    subst h1
    obtain rfl : b = b' := by simpa [cW] using hb
    rw [h3] at hg; cases hg
  | .loop st jump n fl ps assign body, ⟨l, tmps, d, h1, h2, h3, h4⟩, b, hb, e', gV, hg => by
    subst h1
    obtain rfl : b = l := by simpa [cW] using hb
    rw [h3] at hg; cases hg
  | .tP e n cs, hc, b, hb, e', gV, hg => by
    rcases hc with ⟨rfl, _⟩ | ⟨b', rs, m, rfl, h2, h3, h4⟩
    . cases hb
    obtain rfl : b = b' := by simpa [cW] using hb
    rw [h3] at hg; cases hg
theorem GT.own {γ : aX} (hs : GT h S) (hc : ∀ c ∈ γ, bS h S' c.1 c.2) : GT h (Go.Fs.own γ ++ S) := fun v hv => by
  obtain ⟨vs, h1, h2, h3, h4⟩ := hs v hv; refine ⟨vs, h1, fun hb => ?_, h3, h4⟩; rcases List.mem_append.1 hb with hb | hb
  . obtain ⟨c, MV, hb⟩ := List.mem_flatMap.1 hb; exact (hc c MV).alV _ hb _ _ h1
  exact h2 hb
theorem GT.ent {γ : aX} (hs : GT h S) (hc : ∀ c ∈ γ, bS h S' c.1 c.2) : GT (entry h) (Go.Fs.own γ ++ S) := (hs.own hc).nx (cV.aB fun _ => rfl)
theorem eP.set {t : Tr} {fl : VL} (hs : eP h S t fl) {d : Nat} {v : PV} {u : Value} (hu : aJ h S v u) (hd : d < 4000) : eP h S (t.set depth d u) ((d, v) :: fl) := by
  refine ⟨hs.1, ?_⟩; intro k w hk; rw [zV t d u k hd]; simp only [jG] at hk
  cases hb : Nat.beq d k with
  | true => rw [hb] at hk; simp only [cond_true, Option.some.injEq] at hk; subst hk; rw [if_pos (bU hb).symm]; exact hu
  | false => rw [hb] at hk; simp only [cond_false] at hk; rw [if_neg (Ne.symm (gA hb))]; exact hs.2 k w hk
theorem eP.cons {t : Tr} {fl : VL} (hs : eP h S t fl) {d : Nat} {v : PV} (hu : aJ h S v (t.get d)) : eP h S t ((d, v) :: fl) := by
  refine ⟨hs.1, ?_⟩; intro k w hk; simp only [jG] at hk
  cases hb : Nat.beq d k with
  | true => rw [hb] at hk; simp only [cond_true, Option.some.injEq] at hk; subst hk; rw [<- bU hb]; exact hu
  | false => rw [hb] at hk; exact hs.2 k w hk
theorem eP.sub {t : Tr} {fl : VL} (hs : eP h S t fl) (eQ : VL) (hf : ∀ p ∈ eQ, jG fl p.1 = some p.2) : eP h S t eQ := by
  refine ⟨hs.1, ?_⟩; intro k v hk
  have : (k, v) ∈ eQ := by
    clear hf
    induction eQ with
    | nil => cases hk
    | cons p r ih =>
      obtain ⟨i, u⟩ := p; simp only [jG] at hk
      cases hb : Nat.beq i k with
      | true => rw [hb] at hk; simp only [cond_true, Option.some.injEq] at hk; rw [bU hb, hk]; exact List.mem_cons_self
      | false => rw [hb] at hk; exact List.mem_cons_of_mem _ (ih hk)
  exact hs.2 k v (hf _ this)
def QI : Value -> Option PV
  | .int k n => some (.v (.int k) n)
  | .bool b => some (.v .bool b)
  | .string s => some (.v .str s)
  | .float k b => some (.v (.bQ k) b)
  | c => if af c then some (.raw c) else none
def aY (fl : VL) : Operand -> Option PV
  | .tmp i => jG fl i
  | .const c => QI c
  | .global _ => none
  | .func f => some (.mF f [] [])
theorem KO {c : Value} {v : PV} (hc : QI c = some v) : af c = true /\ ∀ h S, aJ h S v c := by
  cases c with
  | int k n => obtain rfl := Option.some.inj hc; exact ⟨rfl, fun _ _ => aG.ofInt _ _⟩
  | bool b => obtain rfl := Option.some.inj hc; exact ⟨rfl, fun _ _ => aG.ofBool _⟩
  | string s => obtain rfl := Option.some.inj hc; exact ⟨rfl, fun _ _ => aG.ofStr _⟩
  | float k b => obtain rfl := Option.some.inj hc; exact ⟨rfl, fun _ _ => aG.CI _ _⟩
  | _ =>
    simp only [QI] at hc; split at hc
    . rename_i ha; obtain rfl := Option.some.inj hc; exact ⟨ha, fun _ _ => rfl⟩
    cases hc
theorem eH {fl : VL} {t : Tr} (hs : eP h S t fl) {x : Operand} {v : PV} (hx : aY fl x = some v) : aJ h S v (aC t x) := by
  cases x with
  | tmp i => exact hs.2 i v hx
  | const c =>
    obtain ⟨h1, h2⟩ := KO hx; show aJ h S v (if af c then c else gY)
    rw [if_pos h1]; exact h2 h S
  | global g => cases hx
  | func f => obtain rfl := Option.some.inj hx; exact ⟨[], [], rfl, rfl, rfl⟩
def mM (fl : VL) : List Operand -> Option (List PV)
  | [] => some []
  | x :: r => match aY fl x, mM fl r with
    | some v, some vs => some (v :: vs)
    | _, _ => none
theorem sU {fl : VL} {t : Tr} (hs : eP h S t fl) : ∀ {l : List Operand} {vs : List PV}, mM fl l = some vs -> bA h S vs (l.map (aC t))
  | [], vs, hx => by obtain rfl := Option.some.inj hx; rfl
  | x :: r, vs, hx => by
    simp only [mM] at hx; split at hx
    . rename_i v Q8 hv y4; obtain rfl := Option.some.inj hx; exact ⟨_, _, rfl, eH hs hv, sU hs y4⟩
    cases hx
structure Iv (h0 : aA) (G S0 : List Nat) (h : aA) (σ : aX) (t : Tr) (ms : List Nat) (fl : VL) : Prop where
  ok : mZ h
  s0 : ∀ b ∈ S0, b < h0.next
  gC : cO h0 h G
  cells : ∀ c ∈ σ, bS h (own σ ++ S0) c.1 c.2
  new : ∀ b ∈ own σ, (b ∈ G \/ h0.next <= b) /\ b ∉ S0
  apart : (own σ).Nodup
  mark : ∀ d ∈ ms, h0.next <= d /\ h.get d = some .iR
  marks : ms.Nodup
  aH : eP h (own σ ++ S0) t fl
variable {σ aQ : aX} {t t' : Tr} {ms : List Nat} {fl : VL}
theorem QJ (hc : ∀ c ∈ σ, bS h S c.1 c.2) (bW : mZ h) : ∀ b ∈ own σ, b < h.next := fun b hb => by
  obtain ⟨c, MV, hb⟩ := List.mem_flatMap.1 hb; obtain ⟨o, hg, _⟩ := (hc c MV).isObj b hb; exact bW b _ hg
theorem Iv.kB (I : Iv h0 G S0 h σ t ms fl) (hB : ∀ b ∈ B, b ∈ own σ) (ha : cO h h' B) (hn : ∀ b ∈ own aQ, b ∈ own σ \/ h.next <= b) : cV h (own σ ++ S0) h' (own aQ ++ S0) :=
  ha.kB I.ok (fun b hb => List.mem_append_left _ (hB b hb)) fun b hb => by
    rcases List.mem_append.1 hb with hb | hb
    . rcases hn b hb with h3 | h3
      . exact .inl (List.mem_append_left _ h3)
      exact .inr h3
    exact .inl (List.mem_append_right _ hb)
theorem Iv.step (I : Iv h0 G S0 h σ t ms fl) (hB : ∀ b ∈ B, b ∈ own σ) (ha : cO h h' B) (hn : ∀ b ∈ own aQ, b ∈ own σ \/ h.next <= b) (hd : (own aQ).Nodup) (hc : ∀ c ∈ aQ, bS h' (own aQ ++ S0) c.1 c.2) : Iv h0 G S0 h' aQ t ms fl where
  ok := ha.ok I.ok
  s0 := I.s0
  gC := I.gC.trans ha fun b hb => (I.new b (hB b hb)).1
  cells := hc
  new := fun b hb => by
    have h1 := I.gC.next; rcases hn b hb with h3 | h3
    . exact I.new b h3
    exact ⟨.inr (by omega), fun hm => by have := I.s0 b hm; omega⟩
  apart := hd
  mark := fun d hdm => by
    obtain ⟨h1, h2⟩ := I.mark d hdm; refine ⟨h1, ?_⟩; rw [ha.get d (I.ok d _ h2) (fun hm => ?_)]
    . exact h2
    obtain ⟨c, MV, hb⟩ := List.mem_flatMap.1 (hB d hm); obtain ⟨o, hg, cM⟩ := (I.cells c MV).isObj d hb; rw [hg] at h2; exact absurd (Option.some.inj h2) cM
  marks := I.marks
  aH := I.aH.nx (I.kB hB ha hn)
theorem Iv.calm (I : Iv h0 G S0 h σ t ms fl) (ha : cO h h' []) : Iv h0 G S0 h' σ t ms fl :=
  I.step (B := []) (fun b hb => by cases hb) ha (fun b hb => .inl hb) I.apart fun c hc => (I.cells c hc).aW
    (fun b hb => ha.get b (by obtain ⟨o, hg, _⟩ := (I.cells c hc).isObj b hb; exact I.ok b _ hg) (by simp)) (I.kB (fun b hb => by cases hb) ha fun b hb => .inl hb) fun b hb => List.mem_append_left _ (List.mem_flatMap.2 ⟨c, hc, hb⟩)
theorem Iv.set (I : Iv h0 G S0 h σ t ms fl) {d : Nat} {v : PV} {u : Value} (hu : aJ h (own σ ++ S0) v u) (hd : d < 4000) : Iv h0 G S0 h σ (t.set depth d u) ms ((d, v) :: fl) := { I with aH := I.aH.set hu hd }
theorem Iv.sub (I : Iv h0 G S0 h σ t ms fl) (eQ : VL) (hf : ∀ p ∈ eQ, jG fl p.1 = some p.2) : Iv h0 G S0 h σ t ms eQ := { I with aH := I.aH.sub eQ hf }
end Go.Fs
namespace Go.Fs
variable {P : Program} {orc : FuncId -> List Value -> aA -> Option (Value × aA)} {b7 : Option Nat} {h h' h0 h1 h2 : aA} {S S' S0 B G : List Nat} {σ aQ : aX} {t t' : Tr} {ms : List Nat} {fl : VL} {ops : Array Oper} {n : Nat} {l : List Oper}
section
variable (P orc)
def U (b7 : Option Nat) (c : Code) (n : Nat) (fl : VL) (σ : aX) (Q : Ex -> VL -> aX -> Prop) : Prop :=
  ∀ (h0 : aA) (G S0 : List Nat) (t : Tr) (h : aA) (ms : List Nat), Iv h0 G S0 h σ t ms fl -> gM P orc b7 c ⟨t, n, ms⟩ h fun e fr h' => fr.n = n /\ ∃ eQ aQ, Iv h0 G S0 h' aQ fr.t fr.marks eQ /\ Q e eQ aQ
def J (ops : Array Oper) (n : Nat) (l : List Oper) (fl : VL) (σ : aX) (K : VL -> aX -> Prop) : Prop :=
  ∀ (h0 : aA) (G S0 : List Nat) (t : Tr) (h : aA) (ms : List Nat), Iv h0 G S0 h σ t ms fl -> mC P orc ops n l t h fun t' h' => ∃ eQ aQ, Iv h0 G S0 h' aQ t' ms eQ /\ K eQ aQ
def KP (b7 : Option Nat) (n : Nat) (b : Code) (Q : Ex -> VL -> aX -> Prop) : Ex -> VL -> aX -> Prop
  | .normal, fl, σ => U P orc b7 b n fl σ Q
  | .exit i, fl, σ => Q (.exit i) fl σ
  | .ret, fl, σ => Q .ret fl σ
end
def O6 (id : Nat) (Q : Ex -> VL -> aX -> Prop) : Ex -> VL -> aX -> Prop
  | .exit i, fl, σ => bif Nat.beq i id then Q .normal fl σ else Q (.exit i) fl σ
  | .normal, fl, σ => Q .normal fl σ
  | .ret, fl, σ => Q .ret fl σ
def T2 (fl : VL) : VL -> Prop
  | [] => True
  | (k, v) :: r => jG fl k = some v /\ T2 fl r
theorem zX {fl : VL} : ∀ {eQ : VL}, T2 fl eQ -> ∀ p ∈ eQ, jG fl p.1 = some p.2
  | [], _, _, hp => by cases hp
  | (k, v) :: r, h, p, hp => by
    rcases List.mem_cons.1 hp with rfl | hp
    . exact h.1
    exact zX h.2 p hp
def ak7 (I : Nat -> VL -> aX -> Prop) (k : Nat) (Q : Ex -> VL -> aX -> Prop) : Ex -> VL -> aX -> Prop
  | .normal, fl, σ => ∃ k' eQ, k' < k /\ T2 fl eQ /\ I k' eQ σ
  | .exit i, fl, σ => Q (.exit i) fl σ
  | .ret, fl, σ => Q .ret fl σ
variable {Q : Ex -> VL -> aX -> Prop} {K : VL -> aX -> Prop}
theorem U.seq {a b : Code} (hx : U P orc b7 a n fl σ (KP P orc b7 n b Q)) : U P orc b7 (.seq a b) n fl σ Q := fun h0 G S0 t h ms I => by
  refine gM.seq ((hx h0 G S0 t h ms I).mono fun e fr h' hq => ?_); obtain ⟨hn, eQ, aQ, I', q⟩ := hq
  cases e with
  | normal =>
    obtain ⟨t', n', ms'⟩ := fr; obtain rfl : n' = n := hn
    exact q h0 G S0 t' h' ms' I'
  | exit i => exact ⟨hn, eQ, aQ, I', q⟩
  | ret => exact ⟨hn, eQ, aQ, I', q⟩
theorem U.block {id : Nat} {b : Code} (hx : U P orc b7 b n fl σ (O6 id Q)) : U P orc b7 (.block id b) n fl σ Q := fun h0 G S0 t h ms I => by
  refine gM.block ((hx h0 G S0 t h ms I).mono fun e fr h' hq => ?_); obtain ⟨hn, eQ, aQ, I', q⟩ := hq
  cases e with
  | normal => exact ⟨hn, eQ, aQ, I', q⟩
  | ret => exact ⟨hn, eQ, aQ, I', q⟩
  | exit i =>
    simp only [O6] at q; simp only [inBlock]; by_cases hi : i = id
    . rw [if_pos hi]; subst hi; rw [Nat.beq_refl] at q; exact ⟨hn, eQ, aQ, I', q⟩
    rw [if_neg hi]; rw [eD hi] at q; exact ⟨hn, eQ, aQ, I', q⟩
theorem U.scope {b : Code} (hx : U P orc b7 b n fl σ Q) : U P orc b7 (.scope b) n fl σ Q := fun h0 G S0 t h ms I => gM.scope (hx h0 G S0 t h ms I)
theorem U.skip (hq : Q .normal fl σ) : U P orc b7 .skip n fl σ Q := fun _ _ _ _ _ _ I => gM.skip ⟨rfl, fl, σ, I, hq⟩
theorem U.label {i : Nat} (hq : Q .normal fl σ) : U P orc b7 (.label i) n fl σ Q := fun _ _ _ _ _ _ I => gM.label ⟨rfl, fl, σ, I, hq⟩
theorem U.exit {i : Nat} (hq : Q (.exit i) fl σ) : U P orc b7 (.exit i) n fl σ Q := fun _ _ _ _ _ _ I => gM.exit ⟨rfl, fl, σ, I, hq⟩
theorem U.ret (hq : Q .ret fl σ) : U P orc b7 .ret n fl σ Q := fun _ _ _ _ _ _ I => gM.ret ⟨rfl, fl, σ, I, hq⟩
theorem U.cond {x : Operand} {a b : Code} {c : Bool} (hc : aY fl x = some (.v .bool c)) (hx : U P orc b7 (if c then a else b) n fl σ Q) : U P orc b7 (.cond x a b) n fl σ Q := fun h0 G S0 t h ms I =>
  gM.cond (eH I.aH hc : aJ _ _ (.v .bool c) _).bool (hx h0 G S0 t h ms I)
theorem U.eE {x : Operand} {a b : Code} {c : Bool} (hc : aY fl x = some (.v .bool c)) (ht : c = true -> U P orc b7 a n fl σ Q) (hf : c = false -> U P orc b7 b n fl σ Q) : U P orc b7 (.cond x a b) n fl σ Q := by
  refine U.cond hc ?_
  cases c with
  | true => exact ht rfl
  | false => exact hf rfl
theorem U.aN {x : Operand} {a b : Code} {p : Prop} {inst : Decidable p} (hc : aY fl x = some (.v .bool (@decide p inst))) (ht : p -> U P orc b7 a n fl σ Q) (hf : ¬ p -> U P orc b7 b n fl σ Q) : U P orc b7 (.cond x a b) n fl σ Q :=
  U.eE hc (fun h => ht (of_decide_eq_true h)) fun h => hf (of_decide_eq_false h)
theorem U.rI {x : Operand} {a b : Code} (hc : aY fl x = some (.v .bool true)) (hx : U P orc b7 a n fl σ Q) : U P orc b7 (.cond x a b) n fl σ Q := U.cond hc hx
theorem U.wR {x : Operand} {a b : Code} (hc : aY fl x = some (.v .bool false)) (hx : U P orc b7 b n fl σ Q) : U P orc b7 (.cond x a b) n fl σ Q := U.cond hc hx
theorem U.aW {c : Code} (eQ : VL) (hs : T2 fl eQ) (hx : U P orc b7 c n eQ σ Q) : U P orc b7 c n fl σ Q := fun h0 G S0 t h ms I => hx h0 G S0 t h ms (I.sub eQ (zX hs))
theorem U.loop {c : Code} {I : Nat -> VL -> aX -> Prop} (hs : ∀ k fl σ, I k fl σ -> U P orc b7 c n fl σ (ak7 I k Q)) : ∀ k fl σ, I k fl σ -> U P orc b7 (.loop c) n fl σ Q := by
  intro k
  induction k using Nat.strongRecOn with
  | ind k ih =>
    intro fl σ hI h0 G S0 t h ms Iv; refine gM.loop ((hs k fl σ hI h0 G S0 t h ms Iv).mono fun e fr h' hq => ?_); obtain ⟨hn, eQ, aQ, I', q⟩ := hq
    cases e with
    | normal =>
      obtain ⟨t', n', ms'⟩ := fr; obtain rfl : n' = n := hn; obtain ⟨k', fl2, hk, iH, hI2⟩ := q
      exact ih k' hk fl2 aQ hI2 h0 G S0 t' h' ms' (I'.sub fl2 (zX iH))
    | exit i => exact ⟨hn, eQ, aQ, I', q⟩
    | ret => exact ⟨hn, eQ, aQ, I', q⟩
theorem U.text {id : Nat} {ops : Array Oper} (hx : J P orc ops n ops.toList fl σ fun eQ aQ => Q .normal eQ aQ) : U P orc b7 (.region id ops false) n fl σ Q := fun h0 G S0 t h ms I =>
  gM.text (by
    obtain ⟨m, t', h', h1, eQ, aQ, h2, h3⟩ := hx h0 G S0 t h ms I
    exact ⟨m, t', h', h1, rfl, eQ, aQ, h2, h3⟩)
theorem J.nil (hk : K fl σ) : J P orc ops n [] fl σ K := fun _ _ _ _ _ _ I => mC.nil ⟨fl, σ, I, hk⟩
theorem GA (hp : σ.Perm aQ) : (own σ).Perm (own aQ) := hp.flatMap_right _
theorem Iv.perm (I : Iv h0 G S0 h σ t ms fl) (hp : σ.Perm aQ) : Iv h0 G S0 h aQ t ms fl := by
  refine I.step (B := []) (fun b hb => by cases hb) (cO.refl h []) (fun b hb => .inl ((GA hp).mem_iff.2 hb)) ((GA hp).nodup_iff.1 I.apart) fun c hc => ?_
  have hN : cV h (own σ ++ S0) h (own aQ ++ S0) := cV.less fun b hb => by
    rcases List.mem_append.1 hb with hb | hb
    . exact List.mem_append_left _ ((GA hp).mem_iff.2 hb)
    exact List.mem_append_right _ hb
  exact (I.cells c (hp.mem_iff.2 hc)).aW (fun _ _ => rfl) hN fun b hb => List.mem_append_left _ (List.mem_flatMap.2 ⟨c, hc, hb⟩)
theorem J.perm (hp : σ.Perm aQ) (hx : J P orc ops n l fl aQ K) : J P orc ops n l fl σ K := fun h0 G S0 t h ms I => hx h0 G S0 t h ms (I.perm hp)
theorem U.perm {c : Code} (hp : σ.Perm aQ) (hx : U P orc b7 c n fl aQ Q) : U P orc b7 c n fl σ Q := fun h0 G S0 t h ms I => hx h0 G S0 t h ms (I.perm hp)
end Go.Fs
namespace Go.Fs
variable {P : Program} {orc : FuncId -> List Value -> aA -> Option (Value × aA)} {b7 : Option Nat} {h h' h0 h1 h2 : aA} {S S' S0 B G : List Nat} {σ aQ : aX} {t t' : Tr} {ms : List Nat} {fl : VL} {ops : Array Oper} {n : Nat} {l : List Oper} {K : VL -> aX -> Prop} {Q : Ex -> VL -> aX -> Prop}
  {d : Tmp} {ty : TypeId} {pos : String} {after : Array Edge} {op : Op} {v : PV} {g : Option (Nat × Bool)}
structure Lc (S0 : List Nat) (h : aA) (σ : aX) (t : Tr) (fl : VL) : Prop where
  ok : mZ h
  s0 : ∀ b ∈ S0, b < h.next
  cells : ∀ c ∈ σ, bS h (own σ ++ S0) c.1 c.2
  sep : ∀ b ∈ own σ, b ∉ S0
  apart : (own σ).Nodup
  aH : eP h (own σ ++ S0) t fl
theorem Iv.lc (I : Iv h0 G S0 h σ t ms fl) : Lc S0 h σ t fl := ⟨I.ok, fun b hb => Nat.lt_of_lt_of_le (I.s0 b hb) I.gC.next, I.cells, fun b hb => (I.new b hb).2, I.apart, I.aH⟩
theorem Lc.aB (L : Lc S0 h σ t fl) (hg : ∀ b, h'.get b = h.get b) (hn : h'.next = h.next) : Lc S0 h' σ t fl :=
  ⟨fun b o hb => by rw [hn]; exact L.ok b o (by rw [<- hg]; exact hb), fun b hb => by rw [hn]; exact L.s0 b hb, fun c hc => (L.cells c hc).aW (fun b _ => hg b) (cV.aB hg) fun b hb => List.mem_append_left _ (List.mem_flatMap.2 ⟨c, hc, hb⟩), L.sep, L.apart, L.aH.nx (cV.aB hg)⟩
theorem Lc.lt (L : Lc S0 h σ t fl) : ∀ b ∈ own σ ++ S0, b < h.next := fun b hb => by
  rcases List.mem_append.1 hb with hb | hb
  . exact QJ L.cells L.ok b hb
  exact L.s0 b hb
theorem GT.less (hs : GT h S) (hb : ∀ b, b ∈ S' -> b ∈ S) : GT h S' := hs.nx (cV.less hb)
theorem Lc.sok (L : Lc S0 h σ t fl) : QH h S0 := ⟨L.s0, L.aH.1.less fun b hb => List.mem_append_right _ hb⟩
theorem Lc.slt (L : Lc S0 h σ t fl) : QG h S0 := L.aH.1.slt L.ok L.s0
theorem Lc.ae7 (L : Lc S0 h σ t fl) : QH h (own σ ++ S0) := ⟨L.lt, L.aH.1⟩
def E5 (h : aA) (S : List Nat) (t : Tr) (fl : VL) (op : Op) : Prop := ∀ x ∈ op.operands.toList, ∀ pv, aY fl x = some pv -> aJ h S pv (aC t x)
theorem eP.r8 (hs : eP h S t fl) : E5 h S t fl op := fun _ _ _ hx => eH hs hx
def aI (P : Program) (fl : VL) (σ : aX) (op : Op) (v : PV) : Prop := calm op = true /\ ∀ (h : aA) (S : List Nat) (t : Tr), E5 h S t fl op -> (∀ c ∈ σ, bS h S c.1 c.2) ->
  ∃ u, aJ h S v u /\ ∀ (d : Option Tmp) (ty : TypeId) (pos : String) (after : Array Edge) (g : Option (Nat × Bool)) (H : aA), fH P ⟨d, op, ty, pos, after, g⟩ (aC t) H = some (u, H)
def dC (P : Program) (fl : VL) (σ : aX) (op : Op) (v : PV) : Prop := calm op = false /\ ∀ (h : aA) (S : List Nat) (t : Tr), E5 h S t fl op -> (∀ c ∈ σ, bS h S c.1 c.2) ->
  ∃ u, aJ h S v u /\ ∀ H : aA, (∀ b o, h.get b = some o -> H.get b = some o) -> ∀ (d : Option Tmp) (ty : TypeId) (pos : String) (after : Array Edge) (g : Option (Nat × Bool)), fH P ⟨d, op, ty, pos, after, g⟩ (aC t) H = some (u, H)
structure Made (S0 : List Nat) (h h' : aA) (σ aQ : aX) : Prop where
  gC : cO h h' (own σ)
  new : ∀ b ∈ own aQ, b ∈ own σ \/ h.next <= b
  apart : (own aQ).Nodup
  cells : ∀ c ∈ aQ, bS h' (own aQ ++ S0) c.1 c.2
theorem Iv.made (I : Iv h0 G S0 h σ t ms fl) (m : Made S0 h h' σ aQ) : Iv h0 G S0 h' aQ t ms fl := I.step (fun _ hb => hb) m.gC m.new m.apart m.cells
def cA (P : Program) (fl : VL) (σ : aX) (op : Op) (T : PV -> aX -> Prop) : Prop := calm op = false /\ ∀ (S0 : List Nat) (h : aA) (t : Tr), Lc S0 h σ t fl ->
  ∃ u h' v aQ, T v aQ /\ Made S0 h h' σ aQ /\ aJ h' (own aQ ++ S0) v u /\ ∀ (d : Option Tmp) (ty : TypeId) (pos : String) (after : Array Edge) (g : Option (Nat × Bool)), fH P ⟨d, op, ty, pos, after, g⟩ (aC t) h = some (u, h')
def KQ : Value -> Bool
  | .tuple ⟨[]⟩ => true
  | _ => false
def cX (ops : Array Oper) (fl : VL) : Option (Nat × Bool) -> Option Bool
  | none => some true
  | some (j, w) => match (ops[j]?).bind (·.dst) with
    | none => some false
    | some d => match jG fl d with
      | some (.v .bool b) => some (b == w)
      | some (.raw u) => bif KQ u then some false else none
      | _ => none
theorem cH (hs : eP h S t fl) {o : Oper} {r : Bool} (hw : cX ops fl o.guard = some r) : bJ ops t o = some r := by
  unfold cX at hw; unfold bJ; split at hw
  . rename_i hg; rw [hg]; exact hw
  rename_i j w hg; rw [hg]; split at hw
  . rename_i hd; simp only [hd]; exact hw
  rename_i d hd; simp only [hd]; split at hw
  . rename_i b hb; have := (hs d _ hb : aJ h S (.v .bool b) _).bool; rw [this]; exact hw
  . rename_i u hb; have h1 : t.get d = u := hs d _ hb; rw [h1]
    cases hu : KQ u with
    | false => rw [hu] at hw; cases hw
    | true =>
      rw [hu] at hw; obtain rfl := Option.some.inj hw; unfold KQ at hu; split at hu
      . rfl
      cases hu
  cases hw
theorem fits (hn : (Nat.blt d n && Nat.ble n 4000) = true) : Nat.blt d n = true /\ d < 4000 := by
  obtain ⟨h1, h2⟩ := b6 hn; exact ⟨h1, Nat.lt_of_lt_of_le (jP h1) (fP h2)⟩
theorem bV (hn : Nat.blt d n = true) (t : Tr) (u : Value) : put n t (some d) u = some (t.set depth d u) := by rw [ae3, hn]; rfl
theorem J.c (hs : aI P fl σ op v) (hk : J P orc ops n l ((d, v) :: fl) σ K) (hw : cX ops fl g = some true := by rfl) (hn : (Nat.blt d n && Nat.ble n 4000) = true := by rfl) : J P orc ops n (⟨some d, op, ty, pos, after, g⟩ :: l) fl σ K := fun h0 G S0 t h ms I => by
  obtain ⟨u, h1, h2⟩ := hs.2 h _ t I.aH.r8 I.cells; obtain ⟨n1, n2⟩ := fits hn; exact mC.op (cH I.aH hw) (h2 _ _ _ _ _ h) (bV n1 t u) (hk h0 G S0 _ h ms (I.set h1 n2))
theorem J.r (hs : dC P fl σ op v) (hk : J P orc ops n l ((d, v) :: fl) σ K) (hw : cX ops fl g = some true := by rfl) (hn : (Nat.blt d n && Nat.ble n 4000) = true := by rfl) : J P orc ops n (⟨some d, op, ty, pos, after, g⟩ :: l) fl σ K := fun h0 G S0 t h ms I => by
  obtain ⟨u, h1, h2⟩ := hs.2 h _ t I.aH.r8 I.cells; obtain ⟨n1, n2⟩ := fits hn; exact mC.op (cH I.aH hw) (h2 h (fun _ _ x => x) _ _ _ _ _) (bV n1 t u) (hk h0 G S0 _ h ms (I.set h1 n2))
theorem J.mk {T : PV -> aX -> Prop} (hs : cA P fl σ op T) (hk : ∀ v aQ, T v aQ -> J P orc ops n l ((d, v) :: fl) aQ K) (hw : cX ops fl g = some true := by rfl) (hn : (Nat.blt d n && Nat.ble n 4000) = true := by rfl) : J P orc ops n (⟨some d, op, ty, pos, after, g⟩ :: l) fl σ K := fun h0 G S0 t h ms I => by
  obtain ⟨u, h', v, aQ, h1, h2, h3, h4⟩ := hs.2 S0 h t I.lc; obtain ⟨n1, n2⟩ := fits hn; exact mC.op (cH I.aH hw) (h4 _ _ _ _ _) (bV n1 t u) (hk v aQ h1 h0 G S0 _ h' ms ((I.made h2).set h3 n2))
theorem J.rJ {T : PV -> aX -> Prop} (hs : cA P fl σ op T) (hk : ∀ v aQ, T v aQ -> J P orc ops n l fl aQ K) (hw : cX ops fl g = some true := by rfl) : J P orc ops n (⟨none, op, ty, pos, after, g⟩ :: l) fl σ K := fun h0 G S0 t h ms I => by
  obtain ⟨u, h', v, aQ, h1, h2, h3, h4⟩ := hs.2 S0 h t I.lc; exact mC.op (cH I.aH hw) (h4 _ _ _ _ _) rfl (hk v aQ h1 h0 G S0 _ h' ms (I.made h2))
theorem J.skip (hk : J P orc ops n l ((d, .raw undef) :: fl) σ K) (hw : cX ops fl g = some false := by rfl) (hn : (Nat.blt d n && Nat.ble n 4000) = true := by rfl) : J P orc ops n (⟨some d, op, ty, pos, after, g⟩ :: l) fl σ K := fun h0 G S0 t h ms I => by
  obtain ⟨n1, n2⟩ := fits hn; exact mC.skip (cH I.aH hw) (bV n1 t undef) (hk h0 G S0 _ h ms (I.set (show aJ _ _ (.raw undef) undef from rfl) n2))
theorem J.zY {x : Tmp} {r : Bool} (hc : jG fl x = some (.v .bool r)) (ht : r = true -> J P orc ops n l ((x, .v .bool true) :: fl) σ K) (hf : r = false -> J P orc ops n l ((x, .v .bool false) :: fl) σ K) : J P orc ops n l fl σ K := fun h0 G S0 t h ms I => by
  have hx : Iv h0 G S0 h σ t ms ((x, .v .bool r) :: fl) := { I with aH := I.aH.cons (I.aH x _ hc) }
  cases r with
  | true => exact ht rfl h0 G S0 t h ms hx
  | false => exact hf rfl h0 G S0 t h ms hx
theorem J.kE {x : Tmp} {p : Prop} {inst : Decidable p} (hc : jG fl x = some (.v .bool (@decide p inst))) (ht : p -> J P orc ops n l ((x, .v .bool true) :: fl) σ K) (hf : ¬ p -> J P orc ops n l ((x, .v .bool false) :: fl) σ K) : J P orc ops n l fl σ K :=
  J.zY hc (fun h => ht (of_decide_eq_true h)) fun h => hf (of_decide_eq_false h)
theorem Iv.oG (I : Iv h0 G S0 h σ t ms fl) (e : TypeId) (τ : Ty) : Iv h0 G S0 h ((.slice none 0 0, .row e τ []) :: σ) t ms fl := by
  have ho : own ((.slice none 0 0, .row e τ []) :: σ) = own σ := rfl; refine I.step (B := []) (fun b hb => by cases hb) (cO.refl h []) (fun b hb => .inl hb) I.apart fun c hc => ?_; rcases List.mem_cons.1 hc with rfl | hc
  . exact .inl ⟨rfl, rfl⟩
  exact I.cells c hc
theorem U.oG {c : Code} (e : TypeId) (τ : Ty) (hx : U P orc b7 c n fl ((.slice none 0 0, .row e τ []) :: σ) Q) : U P orc b7 c n fl σ Q := fun h0 G S0 t h ms I => hx h0 G S0 t h ms (I.oG e τ)
theorem Iv.forget {c : Value × Cell} (I : Iv h0 G S0 h (c :: σ) t ms fl) : Iv h0 G S0 h σ t ms fl := by
  have ho : own (c :: σ) = cW c.1 ++ own σ := rfl
  have iH : ∀ b ∈ own σ, b ∈ own (c :: σ) := fun b hb => by rw [ho]; exact List.mem_append_right _ hb
  refine I.step (B := []) (fun b hb => by cases hb) (cO.refl h []) (fun b hb => .inl (iH b hb)) ?_ fun d hd => ?_
  . have := I.apart; rw [ho] at this; exact (List.nodup_append.1 this).2.1
  refine (I.cells d (List.mem_cons_of_mem _ hd)).aW (fun _ _ => rfl) (cV.less fun b hb => ?_) fun b hb => List.mem_append_left _ (List.mem_flatMap.2 ⟨d, hd, hb⟩); rcases List.mem_append.1 hb with hb | hb
  . exact List.mem_append_left _ (iH b hb)
  exact List.mem_append_right _ hb
def jB : (τ : Ty) -> τ.den -> List PV
  | .pair a b, x => jB a x.1 ++ jB b x.2
  | .unit, _ => []
  | .int k, n => [.v (.int k) n]
  | .bool, b => [.v .bool b]
  | .str, s => [.v .str s]
  | .bQ k, b => [.v (.bQ k) b]
  | .sl e, xs => [.v (.sl e) xs]
  | .mp a b, xs => [.v (.mp a b) xs]
  | .fn, f => [.v .fn f]
  | .jT, f => [.v .jT f]
theorem bA.split : ∀ {l l' : List PV} {us : List Value}, bA h S (l ++ l') us -> ∃ a b, us = a ++ b /\ bA h S l a /\ bA h S l' b
  | [], l', us, hx => ⟨[], us, rfl, rfl, hx⟩
  | p :: ps, l', us, ⟨u, r, h1, h2, h3⟩ => by
    obtain ⟨a, b, rfl, h5, h6⟩ := bA.split h3; exact ⟨u :: a, b, by rw [h1]; rfl, ⟨u, a, rfl, h2, h5⟩, h6⟩
theorem oU {τ : Ty} {x : τ.den} {us : List Value} (ha : τ.agg = false) (hx : bA h S [.v τ x] us) : cR h S τ us x := by
  obtain ⟨u, r, rfl, h2, rfl⟩ := hx; exact aG.last ha h2
theorem oV : ∀ {τ : Ty} {x : τ.den} {us : List Value}, bA h S (jB τ x) us -> cR h S τ us x
  | .pair a b, x, us, hx => by
    obtain ⟨u1, u2, rfl, h1, h2⟩ := bA.split hx; have e1 := oV h1; have e2 := oV h2; have hl := e1.len
    exact ⟨by rw [List.take_left' hl]; exact e1, by rw [List.drop_left' hl]; exact e2⟩
  | .unit, x, us, hx => hx
  | .int k, x, us, hx => oU rfl hx
  | .bool, x, us, hx => oU rfl hx
  | .str, x, us, hx => oU rfl hx
  | .bQ k, x, us, hx => oU rfl hx
  | .sl e, x, us, hx => oU rfl hx
  | .mp a b, x, us, hx => oU rfl hx
  | .fn, x, us, hx => oU rfl hx
  | .jT, x, us, hx => oU rfl hx
theorem oW : ∀ {τ : Ty} {x : τ.den} {us : List Value}, cR h S τ us x -> bA h S (jB τ x) us
  | .pair a b, x, us, hx => by
    have e1 := oW hx.1; have e2 := oW hx.2; have := e1.append e2
    rwa [List.take_append_drop] at this
  | .unit, x, us, hx => hx
  | .int k, x, us, hx => let ⟨u, h1, h2⟩ := hx.one rfl; ⟨u, [], h1, h2, rfl⟩
  | .bool, x, us, hx => let ⟨u, h1, h2⟩ := hx.one rfl; ⟨u, [], h1, h2, rfl⟩
  | .str, x, us, hx => let ⟨u, h1, h2⟩ := hx.one rfl; ⟨u, [], h1, h2, rfl⟩
  | .bQ k, x, us, hx => let ⟨u, h1, h2⟩ := hx.one rfl; ⟨u, [], h1, h2, rfl⟩
  | .sl e, x, us, hx => let ⟨u, h1, h2⟩ := hx.one rfl; ⟨u, [], h1, h2, rfl⟩
  | .mp a b, x, us, hx => let ⟨u, h1, h2⟩ := hx.one rfl; ⟨u, [], h1, h2, rfl⟩
  | .fn, x, us, hx => let ⟨u, h1, h2⟩ := hx.one rfl; ⟨u, [], h1, h2, rfl⟩
  | .jT, x, us, hx => let ⟨u, h1, h2⟩ := hx.one rfl; ⟨u, [], h1, h2, rfl⟩
mutual
/-- What is told of a slot, with own cells told asl data. -/
inductive Co (σ : aX) : PV -> PV -> Prop where
  | same {p : PV} : Co σ p p
  | row {w : Value} {e : TypeId} {τ : Ty} {xs : List τ.den} (hm : (w, Cell.row e τ xs) ∈ σ) : Co σ (.raw w) (.v (.sl τ) xs)
  | nil {τ : Ty} : Co σ (.raw (.slice none 0 0)) (.v (.sl τ) [])
  | cap {w : Value} {e : TypeId} {n : Nat} {τ : Ty} {xs : List τ.den} (hm : (w, Cell.cap e n τ xs) ∈ σ) : Co σ (.raw w) (.v (.sl τ) xs)
  | alW {κ ν : Ty} : Co σ (.raw (.map none)) (.v (.mp κ ν) [])
  | mp {w : Value} {κ ν : Ty} {kvs : List (κ.den × ν.den)} (hm : (w, Cell.mp κ ν kvs) ∈ σ) : Co σ (.raw w) (.v (.mp κ ν) kvs)
  | var {p : Value} {cs : List PV} {τ : Ty} {x : τ.den} (hm : (p, Cell.var cs) ∈ σ) (hc : uU σ cs (jB τ x)) : Co σ (.raw p) (.p τ x)
  | mF {f : FuncId} {a a' c c' : List PV} (ha : uU σ a a') (hc : uU σ c c') : Co σ (.mF f a c) (.mF f a' c')
  | kL {l l' : List PV} (hl : uU σ l l') : Co σ (.kL l) (.kL l')
  | sem {p p' : PV} (hs : ∀ (h : aA) (S0 : List Nat) (u : Value), (∀ c ∈ σ, bS h (own σ ++ S0) c.1 c.2) -> (∀ b ∈ own σ, b ∉ S0) -> aJ h (own σ ++ S0) p u -> aJ h S0 p' u) : Co σ p p'
  | tP {w : Value} {e : TypeId} {n : Nat} {cs : List PV} {τ : Ty} {xs : List τ.den} (hm : (w, Cell.tP e n cs) ∈ σ) (hn : n = xs.length) (hc : uU σ cs (xs.flatMap (jB τ))) : Co σ (.raw w) (.v (.sl τ) xs)
inductive uU (σ : aX) : List PV -> List PV -> Prop where
  | nil : uU σ [] []
  | cons {p p' : PV} {l l' : List PV} (hp : Co σ p p') (hl : uU σ l l') : uU σ (p :: l) (p' :: l')
end
theorem uU.refl : ∀ {l : List PV}, uU σ l l
  | [] => .nil
  | _ :: _ => .cons .same uU.refl
theorem ab0 {w : Value} {e : TypeId} {τ : Ty} {xs : List τ.den} (hc : bS h (S ++ S0) w (.row e τ xs)) (hs : ∀ b ∈ cW w, b ∉ S0) : mL h S0 τ w xs := by
  rcases hc with ⟨rfl, rfl⟩ | ⟨b, rs, m, rfl, h2, h3, h4⟩
  . exact .inl ⟨rfl, rfl⟩
  exact (h4.nx (cV.less fun c hc => List.mem_append_right _ hc)).slv h3 (hs b (by simp [cW]))
theorem ab1 {w : Value} {e : TypeId} {n : Nat} {τ : Ty} {xs : List τ.den} (hc : bS h (S ++ S0) w (.cap e n τ xs)) (hs : ∀ b ∈ cW w, b ∉ S0) : mL h S0 τ w xs := by
  obtain ⟨b, rs, m, rfl, h2, h4, h5, h6, h7⟩ := hc; have hb : b ∉ S0 := hs b (by simp [cW]); have hle : xs.length * τ.size <= n * τ.size := Nat.mul_le_mul_right _ h6; refine .inr ⟨b, 0, 0, rfl, .inr ⟨hb, e, rs, true, m, h4, by omega, fun i hi => ?_⟩⟩; have h8 := (h7.nx (cV.less (S' := S0) fun c hc => List.mem_append_right _ hc)).2 i hi; have h9 : (i + 1) * τ.size <= xs.length * τ.size := Nat.mul_le_mul_right _ hi; rw [Nat.add_mul, Nat.one_mul] at h9; rw [List.drop_take, List.take_take, Nat.min_eq_left (by omega)] at h8; rw [Nat.zero_add]; exact h8
theorem ae8 {w : Value} {κ ν : Ty} {kvs : List (κ.den × ν.den)} (hc : bS h (S ++ S0) w (.mp κ ν kvs)) (hs : ∀ b ∈ cW w, b ∉ S0) : SW h S0 κ ν w kvs := by
  obtain ⟨b, es, c, rfl, h2, h3, h4, h5⟩ := hc; have hN : cV h (S ++ S0) h S0 := cV.less fun c hc => List.mem_append_right _ hc; exact .inr ⟨b, es, c, rfl, hs b (by simp [cW]), h3, h4, fun i hi hj => ⟨(h5 i hi hj).1.nx hN, (h5 i hi hj).2.nx hN⟩⟩
theorem E6 {τ : Ty} : ∀ {xs : List τ.den} {rs : List Value}, bA h S (xs.flatMap (jB τ)) rs -> cE h S τ rs xs
  | [], rs, hx => by
    obtain rfl : rs = [] := hx
    exact ⟨by simp, fun i hi => absurd hi (by simp)⟩
  | x :: xs, rs, hx => by
    rw [List.flatMap_cons] at hx; obtain ⟨a, b, rfl, h1, h2⟩ := bA.split hx; have e1 := oV h1; have e2 := E6 (xs := xs) h2; have hl := e1.len; refine ⟨by rw [List.length_append, hl, e2.1, List.length_cons, Nat.add_mul, Nat.one_mul, Nat.add_comm], fun i hi => ?_⟩
    cases i with
    | zero =>
      rw [Nat.zero_mul, List.drop_zero, List.take_left' hl]
      exact e1
    | succ i =>
      have h3 := e2.2 i (by simpa using hi); rw [show (i + 1) * τ.size = a.length + i * τ.size by rw [hl, Nat.add_mul, Nat.one_mul, Nat.add_comm], List.drop_append, List.drop_eq_nil_of_le (by omega), List.nil_append, Nat.add_sub_cancel_left]; exact h3
mutual
theorem Co.ok (hc : ∀ c ∈ σ, bS h (own σ ++ S0) c.1 c.2) (hs : ∀ b ∈ own σ, b ∉ S0) : ∀ {p p' : PV} {u : Value}, Co σ p p' -> aJ h (own σ ++ S0) p u -> aJ h S0 p' u
  | _, _, u, .same, hu => hu.nx (cV.less fun b hb => List.mem_append_right _ hb)
  | _, _, u, .row hm, hu => by
    obtain rfl := hu
    exact (ab0 (hc _ hm) fun b hb => hs b (List.mem_flatMap.2 ⟨_, hm, hb⟩)).rep
  | _, _, u, .nil, hu => by obtain rfl := hu; exact mL.nil.rep
  | _, _, u, .alW, hu => by obtain rfl := hu; exact SW.rep (.inl ⟨rfl, rfl⟩)
  | _, _, u, .cap hm, hu => by
    obtain rfl := hu
    exact (ab1 (hc _ hm) fun b hb => hs b (List.mem_flatMap.2 ⟨_, hm, hb⟩)).rep
  | _, _, u, .mp hm, hu => by
    obtain rfl := hu
    exact (ae8 (hc _ hm) fun b hb => hs b (List.mem_flatMap.2 ⟨_, hm, hb⟩)).rep
  | _, _, u, .var hm hl, hu => by
    obtain rfl := hu; obtain ⟨b, e, vs, h1, h2, h3, h4, h5⟩ := hc _ hm; have hr := oV (uU.ok hc hs hl h4); have hlen := hr.len; refine ⟨b, 0, e, vs, true, false, h1, hs b (List.mem_flatMap.2 ⟨_, hm, by rw [show u = _ from h1]; simp [cW]⟩), h3, by omega, ?_⟩; rw [List.drop_zero, List.take_of_length_le (by omega)]
    exact hr
  | _, _, u, .mF ha QE, ⟨va, vc, h1, h2, h3⟩ => ⟨va, vc, h1, uU.ok hc hs ha h2, uU.ok hc hs QE h3⟩
  | _, _, u, .kL hl, ⟨vs, h1, h2⟩ => ⟨vs, h1, uU.ok hc hs hl h2⟩
  | _, _, u, .sem hq, hu => hq _ _ _ hc hs hu
  | _, _, u, .tP hm hn hl, hu => by
    obtain rfl := hu; have W9 := fun b hb => hs b (List.mem_flatMap.2 ⟨_, hm, hb⟩); rcases hc _ hm with ⟨h1, h2, h3⟩ | ⟨b, rs, m, h1, h2, h3, h4, h5⟩
    . have hx := List.length_eq_zero_iff.1 (hn.symm.trans h2); subst hx; have nR : u = _ := h1; rw [nR]; exact mL.nil.rep
    have hr := E6 (uU.ok hc hs hl h4); have nR : u = _ := h1; subst nR; rw [hn]; exact (hr.slv h3 (W9 b (by simp [cW]))).rep
theorem uU.ok (hc : ∀ c ∈ σ, bS h (own σ ++ S0) c.1 c.2) (hs : ∀ b ∈ own σ, b ∉ S0) : ∀ {l l' : List PV} {us : List Value}, uU σ l l' -> bA h (own σ ++ S0) l us -> bA h S0 l' us
  | _, _, us, .nil, hu => hu
  | _, _, us, .cons hp hl, ⟨u, r, h1, h2, h3⟩ => ⟨u, r, h1, Co.ok hc hs hp h2, uU.ok hc hs hl h3⟩
end
inductive O7 (fl : VL) (c : Value × Cell) : VL -> Prop where
  | nil : O7 fl c []
  | cons {k : Nat} {p p' : PV} {r : VL} (hk : jG fl k = some p) (hc : Co [c] p p') (hr : O7 fl c r) : O7 fl c ((k, p') :: r)
theorem Iv.shut {c : Value × Cell} {nw : VL} (I : Iv h0 G S0 h (c :: σ) t ms fl) (hs : O7 fl c nw) : Iv h0 G S0 h σ t ms (nw ++ fl) := by
  have I' := I.forget; have ho : own (c :: σ) = cW c.1 ++ own σ := rfl
  have WM : own [c] = cW c.1 := by show cW c.1 ++ [] = _; rw [List.append_nil]
  have E7 : eP h (own σ ++ S0) t (nw ++ fl) := by
    clear I'
    induction hs with
    | nil => exact I.forget.aH
    | cons hk hc hr ih =>
      refine ih.cons (Co.ok (σ := [c]) (S0 := own σ ++ S0) (fun d hd => ?_) (fun b hb => ?_) hc ?_)
      . obtain rfl := List.mem_singleton.1 hd; have := I.cells d List.mem_cons_self; rw [WM, <- List.append_assoc, <- ho]; exact this
      . rw [WM] at hb; have h1 := I.apart; rw [ho] at h1; intro hm; rcases List.mem_append.1 hm with hm | hm
        . exact (List.nodup_append.1 h1).2.2 b hb b hm rfl
        exact (I.new b (by rw [ho]; exact List.mem_append_left _ hb)).2 hm
      rw [WM, <- List.append_assoc, <- ho]; exact I.aH _ _ hk
  exact { I' with aH := E7 }
theorem J.shut {c : Value × Cell} (nw : VL) (hs : O7 fl c nw) (hx : J P orc ops n l (nw ++ fl) σ K) : J P orc ops n l fl (c :: σ) K := fun h0 G S0 t h ms I => hx h0 G S0 t h ms (I.shut hs)
end Go.Fs
namespace Go.Fs
variable {P : Program} {orc : FuncId -> List Value -> aA -> Option (Value × aA)} {b7 : Option Nat} {h h' h0 h1 h2 : aA} {S S' S0 B G : List Nat} {σ aQ : aX} {t t' : Tr} {ms : List Nat} {fl : VL} {ops : Array Oper} {n : Nat} {l : List Oper} {K : VL -> aX -> Prop} {Q : Ex -> VL -> aX -> Prop}
  {d : Tmp} {ty : TypeId} {pos : String} {after : Array Edge} {op : Op} {v : PV} {g : Option (Nat × Bool)}
section
variable (P orc)
def VF (f : FuncId) (args : List PV) (r : PV) : Prop := ∀ (h : aA) (S : List Nat) (us : List Value), mZ h -> QH h S -> bA h S args us -> rC P orc f us h fun u h' => cO h h' [] /\ aJ h' S r u /\ (r.flat = true -> h' = h)
def l7 (F : PV) (args : List PV) (r : PV) : Prop := ∃ f a c, F = .mF f a c /\ VF P orc f (a ++ args ++ c) r
end
theorem VF.call {f : FuncId} {args : List PV} {r : PV} (hf : VF P orc f args r) : l7 P orc (.mF f [] []) args r := ⟨f, [], [], rfl, by simpa using hf⟩
theorem VF.mF {f : FuncId} {a args c : List PV} {r : PV} (hf : VF P orc f (a ++ (args ++ c)) r) : l7 P orc (.mF f a c) args r := ⟨f, a, c, rfl, by rw [List.append_assoc]; exact hf⟩
theorem l7.ev {F : PV} {args : List PV} {r : PV} (hc : l7 P orc F args r) {u : Value} {us : List Value} (bW : mZ h) (hS : QH h S) (hF : aJ h S F u) (ha : bA h S args us) :
    ∃ f a c, u = .func (.func f) a c /\ rC P orc f (a.toList ++ us ++ c.toList) h fun u h' => cO h h' [] /\ aJ h' S r u /\ (r.flat = true -> h' = h) := by
  obtain ⟨f, a, c, rfl, hv⟩ := hc; obtain ⟨va, vc, rfl, h1, h2⟩ := hF; exact ⟨f, va.toArray, vc.toArray, rfl, hv h S _ bW hS ((h1.append ha).append h2)⟩
theorem J.call {f : Operand} {args : Array Operand} {r3 : Array TypeId} {F r : PV} {asl : List PV} (hf : aY fl f = some F) (ha : mM fl args.toList = some asl) (hc : l7 P orc F asl r) (hk : J P orc ops n l ((d, r) :: fl) σ K)
    (hw : cX ops fl g = some true := by rfl) (hn : (Nat.blt d n && Nat.ble n 4000) = true := by rfl) : J P orc ops n (⟨some d, .call { callee := .value f, args := args, argTypes := r3 }, ty, pos, after, g⟩ :: l) fl σ K := fun h0 G S0 t h ms I => by
  obtain ⟨n1, n2⟩ := fits hn; obtain ⟨WN, a, c, h1, h2⟩ := hc.ev I.ok (Lc.ae7 I.lc) (eH I.aH hf) (sU I.aH ha); refine mC.call (cH I.aH hw) rfl rfl h1 (h2.mono fun u h' hq => ?_); obtain ⟨q1, q2, _⟩ := hq; exact ⟨_, bV n1 t u, hk h0 G S0 _ h' ms ((I.calm q1).set q2 n2)⟩
def pJ : Nat -> List PV -> VL
  | _, [] => []
  | i, v :: r => (i, v) :: pJ (i + 1) r
theorem oX : ∀ {l : List PV} {us : List Value} {i : Nat} {t : Tr}, GT h S -> bA h S l us -> i + us.length <= 4000 -> eP h S (kZ t i us) (pJ i l)
  | [], us, i, t, hG, hx, _ => ⟨hG, fun k v hk => by cases hk⟩
  | p :: ps, us, i, t, hG, ⟨u, r, h1, h2, h3⟩, hl => by
    subst h1; rw [List.length_cons] at hl; show eP h S (kZ (t.set depth i u) (i + 1) r) ((i, p) :: pJ (i + 1) ps); refine (oX hG h3 (by omega)).cons ?_; rw [G6 r (t.set depth i u) (i + 1) (by omega), if_pos (by omega), zV t i u i (by omega), if_pos rfl]; exact h2
theorem alX {us : List Value} (h : us.all eF = true) : us.all pU = true := List.all_eq_true.2 fun u hu => by
  have h1 := List.all_eq_true.1 h u hu; cases u <;> first | exact h1 | cases h1
mutual
theorem aJ.HA : ∀ {pv : PV} {u : Value}, pU u = true -> aJ h S pv u -> aJ h' S' pv u
  | .v τ x, u, ha, hx => aG.vF (τ := τ) hx ha
  | .raw w, u, _, hx => hx
  | .p τ x, u, ha, hx => by
    obtain ⟨b, o, e, rs, own, more, rfl, _⟩ := hx
    cases ha
  | .mF f a c, u, ha, hx => by
    obtain ⟨va, vc, rfl, _⟩ := hx
    cases ha
  | .kL l, u, ha, hx => by
    obtain ⟨vs, rfl, _⟩ := hx
    cases ha
  | .gd b v, u, ha, hx => ⟨fun e => aJ.HA ha (hx.1 e), hx.2⟩
  | .agg l, u, ha, hx => by
    obtain ⟨vs, rfl, h2⟩ := hx; exact ⟨vs, rfl, bA.HA (alX ha) h2⟩
theorem bA.HA : ∀ {l : List PV} {us : List Value}, us.all pU = true -> bA h S l us -> bA h' S' l us
  | [], us, _, hx => hx
  | p :: ps, us, ha, ⟨u, r, h1, h2, h3⟩ => by
    subst h1; rw [List.all_cons] at ha; obtain ⟨a1, a2⟩ := b6 ha; exact ⟨u, r, rfl, aJ.HA a1 h2, bA.HA a2 h3⟩
end
theorem KR {vs : Array Value} {τ : Ty} {x : τ.den} (hx : aG h S τ (.tuple vs) x) : False := by
  have h1 := hx.1; have h2 := hx.2
  cases IJ : τ.agg with
  | true => rw [IJ] at h1; cases h1
  | false =>
    cases τ with
    | sl e => obtain ⟨v, h3, h4⟩ := h2; simp [Value.cells] at h3; subst h3; rcases h4 with ⟨h4, _⟩ | ⟨_, _, _, h4, _⟩ <;> cases h4
    | pair a b => cases IJ
    | unit => cases IJ
    | mp a b => obtain ⟨v, h3, h4⟩ := h2; simp [Value.cells] at h3; subst h3; rcases h4 with ⟨h4, _⟩ | ⟨_, _, _, h4, _⟩ <;> cases h4
    | fn => cases x <;> simp [cR, Value.cells, SV] at h2
    | jT => cases x <;> simp [cR, Value.cells, E1] at h2
    | int k => simp [cR, Value.cells] at h2
    | bool => simp [cR, Value.cells] at h2
    | str => simp [cR, Value.cells] at h2
    | bQ k => simp [cR, Value.cells] at h2
theorem aJ.KS : ∀ {pv : PV} {u : Value}, af u = true -> aJ h S pv u -> aJ h' S' pv u
  | .kL l, u, ha, hx => by
    obtain ⟨vs, rfl, h2⟩ := hx
    exact ⟨vs, rfl, h2.HA ha⟩
  | .v τ x, u, ha, hx => by
    cases u with
    | tuple vs => exact (KR hx).elim
    | _ => exact aJ.HA (pv := .v τ x) ha hx
  | .p τ x, u, ha, hx => by
    obtain ⟨b, o, e, rs, own, more, rfl, _⟩ := hx
    cases ha
  | .raw w, u, ha, hx => hx
  | .mF f a c, u, ha, hx => by
    obtain ⟨va, vc, rfl, _⟩ := hx
    cases ha
  | .gd b v, u, ha, hx => ⟨fun e => aJ.KS ha (hx.1 e), hx.2⟩
  | .agg l, u, ha, hx => by
    have h1 := hx; obtain ⟨vs, rfl, _⟩ := hx; exact aJ.HA (pv := .agg l) ha h1
theorem sD : ∀ {ms : List Nat} {h : aA}, ms.Nodup -> (∀ d ∈ ms, h.get d = some .iR) -> ∃ h2, l4 ms h = some h2 /\ cO h h2 ms /\ (∀ b, b ∉ ms -> h2.get b = h.get b)
  | [], h, _, _ => ⟨h, rfl, cO.refl _ _, fun _ _ => rfl⟩
  | d :: ms, h, hn, hd => by
    obtain ⟨SM, tO⟩ := List.nodup_cons.1 hn
    have hg : ∀ i ∈ ms, (h.drop d).get i = some .iR := fun i hi => by
      rw [aA.cP, if_neg (fun e => SM (by subst e; exact hi))]; exact hd i (List.mem_cons_of_mem _ hi)
    obtain ⟨h2, e1, e2, e3⟩ := sD tO hg; refine ⟨h2, ?_, (cO.drop List.mem_cons_self).trans e2 fun i hi => .inl (List.mem_cons_of_mem _ hi), fun b hb => ?_⟩
    . simp only [l4, hd d List.mem_cons_self]; exact e1
    rw [List.mem_cons, not_or] at hb; rw [e3 b hb.2, aA.cP, if_neg hb.1]
inductive sV (P : Program) (fl : VL) (σ : aX) : ResultVar -> PV -> Prop where
  | tmp {i : Nat} {p p' : PV} (hi : jG fl i = some p) (hc : Co σ p p') : sV P fl σ (.tmp i) p'
  | cell {a : Nat} {ty : TypeId} {p : Value} {cs : List PV} {τ : Ty} {x : τ.den} (ha : jG fl a = some (.raw p)) (hm : (p, Cell.var cs) ∈ σ) (hT : fL P ty τ) (hc : uU σ cs (jB τ x)) : sV P fl σ (.cell a ty) (.v τ x)
inductive HB (P : Program) (fl : VL) (σ : aX) : List ResultVar -> List PV -> Prop where
  | nil : HB P fl σ [] []
  | cons {r : ResultVar} {p : PV} {rs : List ResultVar} {ps : List PV} (hr : sV P fl σ r p) (hs : HB P fl σ rs ps) : HB P fl σ (r :: rs) (p :: ps)
def O8 : List PV -> PV
  | [p] => p
  | l => .kL l
def aS (P : Program) (fn : Func) (r : PV) : Ex -> VL -> aX -> Prop := fun e fl σ => e.kB = true /\ ∃ ps, HB P fl σ fn.results.toList ps /\ O8 ps = r
theorem sV.ok (L : Lc S0 h σ t fl) (hg : ∀ b o, h.get b = some o -> o ≠ .iR -> h2.get b = some o) (hN : pI h S0 h2 S0) {r : ResultVar} {p : PV} (he : sV P fl σ r p) : ∃ u, vA P t h2 r = some u /\ aJ h2 S0 p u := by
  cases he with
  | tmp hi hc => exact ⟨_, rfl, (hc.ok L.cells L.sep (L.aH _ _ hi)).mG hN⟩
  | @cell a ty p cs τ x ha hm hT hc =>
    have hp : t.get a = p := L.aH _ _ ha; have hr : aJ h S0 (.p τ x) p := Co.ok L.cells L.sep (.var hm hc) (show aJ h _ (.raw p) p from rfl); have jZ := (hr.mG hN : nY h2 S0 τ p x); obtain ⟨e1, e2⟩ := jZ.ae4 hT; exact ⟨_, by show eU P ty (t.get a) h2 = _; rw [hp]; exact e1, e2⟩
theorem HB.ok (L : Lc S0 h σ t fl) (hg : ∀ b o, h.get b = some o -> o ≠ .iR -> h2.get b = some o) (hN : pI h S0 h2 S0) : ∀ {rs : List ResultVar} {ps : List PV}, HB P fl σ rs ps -> ∃ us, jX P t h2 rs = some us /\ bA h2 S0 ps us
  | _, _, .nil => ⟨[], rfl, rfl⟩
  | _, _, .cons hr hs => by
    obtain ⟨u, e1, e2⟩ := hr.ok L hg hN; obtain ⟨us, e3, e4⟩ := HB.ok L hg hN hs; exact ⟨u :: us, by simp only [jX, e1, e3], u, us, rfl, e2, e4⟩
theorem KT : ∀ {ps : List PV} {us : List Value}, bA h S ps us -> aJ h S (O8 ps) (iM us)
  | [], us, hx => ⟨[], by rw [show us = [] from hx]; rfl, rfl⟩
  | [p], us, ⟨u, r, h1, h2, h3⟩ => by
    obtain rfl : r = [] := h3
    subst h1; exact h2
  | p :: q :: ps, us, hx => by
    obtain ⟨u, r, h1, h2, u2, r2, h3, h4, h5⟩ := hx; subst h1 h3; exact ⟨_, rfl, u, _, rfl, h2, u2, _, rfl, h4, h5⟩
theorem VF.enter {f : FuncId} {args : List PV} {fn : Func} {c : Code} {r : PV} (l5 : P.funcs[f]? = some fn) (hc : fn.body = some c) (ho : ∀ us h, orc f us h = none) (hn : (Nat.blt 4000 fn.ntmps || Nat.blt fn.ntmps args.length) = false)
    (hb : U P orc none c fn.ntmps (pJ 0 args) [] (aS P fn r)) : VF P orc f args r := fun h S us bW hS ha => by
  have hl := ha.len
  have tO : Nat.blt 4000 fn.ntmps = false /\ Nat.blt fn.ntmps args.length = false := by simpa using hn
  have n3 := j8 tO.1; have n4 := j8 tO.2; have mI : bA (entry h) S args us := bA.nx (h := h) (h' := entry h) (cV.aB fun _ => rfl) ha
  have I0 : Iv (entry h) [] S (entry h) [] (kZ .leaf 0 us) [] (pJ 0 args) := {
    ok := bW
    s0 := hS.1
    gC := cO.refl _ _
    cells := fun c hc => by cases hc
    new := fun b hb => by cases hb
    apart := List.nodup_nil
    mark := fun d hd => by cases hd
    marks := List.nodup_nil
    aH := oX (hS.2.nx (cV.aB fun _ => rfl)) mI (by omega) }
  refine rC.enter l5 hc (ho us h) (by rw [hl]; exact hn) ((hb (entry h) [] S _ (entry h) [] I0).mono fun e fr h1 hq => ?_); obtain ⟨_, eQ, aQ, I, he, ps, GB, rfl⟩ := hq; obtain ⟨h2, d1, d2, d3⟩ := sD I.marks fun d hd => (I.mark d hd).2
  have jU : ∀ b o, h1.get b = some o -> o ≠ .iR -> h2.get b = some o := fun b o hg cM => by
    rw [d3 b (fun hm => cM (by have := (I.mark b hm).2; rw [hg] at this; exact Option.some.inj this))]; exact hg
  have a2 : cO (entry h) h2 [] := I.gC.trans d2 fun i hi => .inr (I.mark i hi).1; have hN : pI h1 S h2 S := fun b _ hg cM sN => ⟨jU b _ hg cM, sN⟩; obtain ⟨uT, e1, e2⟩ := GB.ok I.lc jU hN; have nG := KT e2; have dV : h.next <= h2.low := a2.low h.next (Nat.le_refl _) (Nat.le_refl _) (by simp); refine ⟨he, h2, uT, d1, e1, ?_⟩; unfold leftOf
  have alY : Nat.ble h.next h2.low = true := by rw [Nat.ble_eq]; exact dV
  cases pW : af (iM uT) with
  | true =>
    rw [alY]
    exact ⟨cO.refl _ _, nG.KS pW, fun _ => rfl⟩
  | false =>
    refine ⟨⟨a2.next, fun b hb _ => a2.get b hb (by simp), fun x => a2.ok x, fun e h3 h4 _ => Nat.le_min.2 ⟨h3, Nat.le_trans h4 dV⟩, fun b hb => .inl (a2.get b hb (by simp)), Nat.min_le_left _ _⟩, aJ.nx (h := h2) (h' := { next := h2.next, low := min h.low h2.low, aB := h2.aB }) (fun _ _ a b => ⟨a, b⟩) nG, fun hf => ?_⟩; rw [(nG.flat hf).1] at pW; cases pW
end Go.Fs
