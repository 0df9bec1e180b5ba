/- Parts of the proof: an evaluator of the model, what it is sound for, and contracts of functions. No condition. -/
import Derived.Test.YteooaaiacpcfoaaGreatDoorP1
import Derived.RangeFuncRecord
import Derived.LoopNIn
import Derived.Test.YteooaaiacpcfoaaGreatDoorP0
import Derived.KernelRfl
set_option linter.all false
namespace Go.Fs
open Go.RowKit (Below)
variable {P : Program}
section
variable {call : FuncId -> List Value -> Heap -> Option (Value × Heap)} {yield : Nat -> List Value -> Heap -> Option (Value × Heap)} {ops : Array Oper} {n : Nat} {st : Nat -> cM} {t0 : Tr} {h0 : Heap}
variable {S : Nat -> Prop} {ρ0 : Ren} {B : Nat} {w0 ws : World} {d0 : List Deferred}
theorem HR.empty {ρ : Ren} {S S1 : Nat -> Prop} {H : Heap} {w : World} (hr : HR P ρ S B w0 H w) (h1 : ∀ b, S1 b -> S b) {nx : Nat} (fH : ∀ b, S1 b -> b < nx) (tA : 0 < nx) :
    HR P ρ S1 B w0 { next := nx, low := nx, aB := [] } w where
  aB := fun i o hi => by cases hi
  inj := fun i j oi oj hi => by cases hi
  base := fun i o hi => by cases hi
  ro := fun i o hi => by cases hi
  ids := fun b hb => ⟨fH b hb, (hr.ids b (h1 b hb)).2⟩
  pos := tA
  below := hr.below
  drawn := hr.drawn
  size := hr.size
theorem aO.anN {ρ : Ren} {H : Heap} {w : World} {L : Nat} (hr : HR P ρ S B w0 H w) : tY P B w0 ρ ρ S S H H L w w where
  agree := fun _ _ => rfl
  sub := fun _ hb => hb
  hr := hr
  frame := Frame.refl _ _ _
  aV := fun _ _ _ => rfl
  old := fun _ o ho _ => ⟨o, ho, rfl⟩
  fresh := fun i o ho hS => absurd (hr.aB i o ho).1 hS
theorem acF (aqQ : HR P ρ0 S B w0 h0 ws) (gX : lF P B w0 call) (p7 : fT P B w0 yield) (T : Trace (bQ P call yield) ops n st t0 h0) (nV : nU ops) (pM : EJ ops) (hn : n <= 4000) (Y0 : JH st ops)
    (iW : ∀ b, S b -> b < h0.next) (HV : ∀ b o, h0.get b = some o -> S b) (afT : 0 < h0.next) {r : Option Nat} {nn : Nat} {Q : Exit -> Act -> World -> Prop}
    (k : ∀ E ρ H w a, (∀ i, i < ops.size -> E i = true) -> Inv P B w0 st ops n t0 h0 S ρ0 ws d0 E ρ H w a -> Q .normal a w) :
    ∀ (E : Nat -> Bool) (l : List Nat), B6 ops E l -> ∀ ρ H w a, Inv P B w0 st ops n t0 h0 S ρ0 ws d0 E ρ H w a -> wpOpsIn (lE r) nn P ops Q l a w := by
  intro E l hs
  induction hs with
  | nil E iX => intro ρ H w a I; exact k E ρ H w a iX I
  | cons E i o l ho hE he _ ih =>
    intro ρ H w a I; have hi : i < ops.size := (Array.getElem?_eq_some_iff.1 ho).1; have uR := T.TK nV I.down ho he; have J8 := I.tmp.look T nV pM hn Y0 I.down ho hE he; have bI := NF J8
    have QZ : ∀ b, b9 ops (st i).t o = some b -> Region.wanted o (yielded ops a.tmps) = b := fun b hb => JF (fun j want d hg hd => by
      refine J8 d ?_; unfold Oper.looksAt; refine List.mem_append_right _ ?_; rw [hg]
      simp [hd]) hb
    have QR : h0.next <= (st i).h.next := by have := T.next 0 i (by omega) (by omega); rwa [T.zero] at this
    have EN : ∀ b, SB st ops S i b -> b < (st i).h.next := T.ab1 iW (by omega) (T.QN nV i); simp only [wpOpsIn, ho]; have aqR := (T.EG i o ho).2
    cases aqR with
    | skip hw hp hh hs hm ht =>
      rw [if_neg (by rw [QZ _ hw]; simp)]; refine ⟨oS, ?_⟩; have wR : ¬ nI st ops i := fun h => h.2 (by rw [hs])
      exact ih ρ H w _ (I.quiet ho wR hh uR (fun _ _ => rfl) (aO.anN I.cC.hr) (I.tmp.put pM hn I.down (fun _ _ => rfl) ho hE hp VR.undef) (put_defers _ _ _))
    | calm hw hc v h' cO fH hp hh hs hm ht =>
      rw [if_pos (QZ _ hw)]; have wR : ¬ nI st ops i := fun h => h.2 (by rw [hs]); have nJ : ∀ b, SB st ops S i b -> SE st ops S E b := fun b hb => gJ uR b hb; have sZ := I.cC.hr.empty nJ EN (by omega : 0 < (st i).h.next); refine JE gX p7 sZ bI cO fun cP w1 v1 m hv => ?_
      have JO := CI (H2 := H) (S2 := SE st ops S E) (L := min (st ops.size).h.low h0.next) I.cC.hr nJ (fun b o' hg => by cases hg) sZ m (fun b h1 h2 => by
          have h3 : (st i).h.next <= b := h1
          omega) (fun b => ⟨.inl, fun h => by
            rcases h with h | ⟨h1, h2⟩
            . exact h
            have h3 : (st i).h.next <= b := h1
            omega⟩) (fun b hb => (I.cC.hr.ids b hb).1) I.cC.hr.pos
        (fun b o' hb hg => absurd (I.cC.hr.aB b o' hg).1 hb) (fun b o' hb hg => .inr ⟨rfl, hg⟩) (fun b o' hb hg => absurd (I.cC.hr.aB b o' hg).1 hb) (fun _ _ _ => rfl)
      have fR : ∀ b, SE st ops S E b -> glue (SE st ops S E) ρ cP b = ρ b := fun b hb => jJ hb; refine ih _ H w1 _ (I.quiet ho wR hh uR fR JO (I.tmp.put pM hn I.down fR ho hE hp (hv.mono fun b hb => ?_)) (put_defers _ _ _)); rcases hb with hb | ⟨h1, h2⟩
      . exact ⟨gJ (fun m hm => .inr hm) b hb, by rw [jJ (nJ b hb), m.agree b hb]⟩
      have h3 : (st i).h.next <= b := h1
      omega
    | still hw v aB hX cO hp hh hs hm ht =>
      rw [if_pos (QZ _ hw)]; have wR : ¬ nI st ops i := fun h => h.2 (by rw [hs]); have nJ : ∀ b, SB st ops S i b -> SE st ops S E b := fun b hb => gJ uR b hb; have hSb : ∀ b ob, look aB b = some ob -> S b := fun b ob hl => HV b ob (hX b ob hl).1
      have Y6 : ∀ b ob, look aB b = some ob -> H.get b = some ob := fun b ob hl => by
        obtain ⟨hX1, hX2, hX3⟩ := hX b ob hl; rcases hX3 with hX3 | hX3
        . rw [I.cC.aV b (hSb b ob hl) (by omega)]; exact hX1
        rcases I.mode with A | ⟨p, Bm⟩
        . rw [A.base b hX2]; exact hX1
        rw [Bm.get b]; exact hX3 p Bm.le
      have sZ : HR P ρ (SB st ops S i) B w0 { next := (st i).h.next, low := (st i).h.next, aB := aB } w := {
        aB := fun c oc hc => by
          have hS := hSb c oc hc; refine ⟨.inl hS, ?_⟩; have h1 := (aqQ.aB c oc (hX c oc hc).1).2; have h2 := (I.cC.hr.aB c oc (Y6 c oc hc)).2; have h3 := I.cC.agree c hS; rw [<- h3] at h1; exact (h1.yF h2 I.cC.agree).mono fun c hc => ⟨.inl hc, I.cC.agree c hc⟩
        inj := fun c d oc od hc hd => I.cC.hr.inj c d oc od (Y6 c oc hc) (Y6 d od hd)
        base := fun c oc hc => I.cC.hr.base c oc (Y6 c oc hc)
        ro := fun c oc hc => I.cC.hr.ro c oc (Y6 c oc hc)
        ids := fun c hc => ⟨EN c hc, (I.cC.hr.ids c (nJ c hc)).2⟩
        pos := (by omega : 0 < (st i).h.next)
        below := I.cC.hr.below
        drawn := I.cC.hr.drawn
        size := I.cC.hr.size }
      refine JE gX p7 sZ bI cO fun cP w1 v1 m hv => ?_
      have JO := CI (H2 := H) (S2 := SE st ops S E) (L := min (st ops.size).h.low h0.next) I.cC.hr nJ (hm := { next := (st i).h.next, low := (st i).h.next, aB := aB }) Y6 sZ m (fun b h1 h2 => by
          have h3 : (st i).h.next <= b := h1; have h4 : b < (st i).h.next := h2
          omega) (fun b => ⟨.inl, fun h => by
            rcases h with h | ⟨h1, h2⟩
            . exact h
            have h3 : (st i).h.next <= b := h1; have h4 : b < (st i).h.next := h2
            omega⟩) (fun b hb => (I.cC.hr.ids b hb).1) I.cC.hr.pos
        (fun b o' hb hg => absurd (I.cC.hr.aB b o' hg).1 hb) (fun c oc hc hg => by
          cases hq : look aB c with
          | none => exact .inr ⟨hq, hg⟩
          | some o2 =>
            have h3 := Y6 c o2 hq; rw [hg] at h3; injection h3 with h3; subst h3
            exact .inl ⟨by show look aB c ≠ none; rw [hq]; simp, hq⟩) (fun b o' hb hg => absurd (I.cC.hr.aB b o' hg).1 hb) (fun _ _ _ => rfl)
      have fR : ∀ b, SE st ops S E b -> glue (SE st ops S E) ρ cP b = ρ b := fun b hb => jJ hb; refine ih _ H w1 _ (I.quiet ho wR hh uR fR JO (I.tmp.put pM hn I.down fR ho hE hp (hv.mono fun b hb => ?_)) (put_defers _ _ _)); rcases hb with hb | ⟨h1, h2⟩
      . exact ⟨gJ (fun m hm => .inr hm) b hb, by rw [jJ (nJ b hb), m.agree b hb]⟩
      have h3 : (st i).h.next <= b := h1; have h4 : b < (st i).h.next := h2
      omega
    | mem hw hc v h' ord fU lX cO TM hp hm hs fH hk =>
      rw [if_pos (QZ _ hw)]; have Y2 : nI st ops i := ⟨hi, by rw [hs]; simp⟩; obtain ⟨sZ, hgo⟩ := I.afS T nV iW HV afT ho hE Y2 uR fU lX (v := v) fH TM hk; refine JE gX p7 sZ bI cO fun cP w1 v1 m hv => ?_; obtain ⟨iS, H2, I2⟩ := hgo cP w1 v1 (a.put o.dst v1) m hv (put_defers _ _ _) fun iS fR R0 => I.tmp.put pM hn I.down fR ho hE hp R0; exact ih iS H2 w1 _ I2
theorem Inv.end {E : Nat -> Bool} {ρ : Ren} {H : Heap} {w : World} {a : Act} {step : Oper -> (Operand -> Value) -> Heap -> Option (Value × Heap)} (T : Trace step ops n st t0 h0) (pM : EJ ops) (hn : n <= 4000)
    (iW : ∀ b, S b -> b < h0.next) (HV : ∀ b o, h0.get b = some o -> S b) (I : Inv P B w0 st ops n t0 h0 S ρ0 ws d0 E ρ H w a) (iX : ∀ i, i < ops.size -> E i = true) :
    aO P B w0 ρ0 ρ S h0 (st ops.size).h ws w /\ kL ρ (Ext S h0 (st ops.size).h) (st ops.size).t n a.tmps := by
  have hM := I.cC; have qM := hM.hr
  have QR : h0.next <= (st ops.size).h.next := by have := T.next 0 ops.size (by omega) (by omega); rwa [T.zero] at this
  have hSE : ∀ b, SE st ops S E b -> Ext S h0 (st ops.size).h b := fun b hb => by
    rcases hb with hb | ⟨m, h1, h2, h3⟩
    . exact .inl hb
    refine .inr ⟨T.QP h2 h3, ?_⟩; have := T.next (m + 1) ops.size (by omega) (by omega); exact Nat.lt_of_lt_of_le h3.2 this
  have amC : ∀ b, SE st ops S E b -> b < h0.next -> S b := fun b hb bX => by
    rcases hb with hb | ⟨m, h1, h2, h3⟩
    . exact hb
    have := T.QP h2 h3; omega
  -- the same objects
  have fK : ∀ b, (st ops.size).h.get b = H.get b := fun b => by
    rcases I.mode with A | ⟨p, Bm⟩
    . have ht : (st ops.size).tail = false := by
        cases h : (st ops.size).tail with
        | false => rfl
        | true =>
          obtain ⟨k, h1, h2, h3⟩ := T.B8 ops.size (by omega) h; rw [A.calm k (iX k h1) h2] at h3; cases h3
      obtain ⟨sb1, sb2, sb3⟩ := T.QQ (fun b o' hg => iW b (HV b o' hg)) ops.size (by omega) ht; by_cases h1 : b < h0.next
      . rw [sb1 b h1, A.base b h1]
      by_cases h2 : b < (st ops.size).h.next
      . obtain ⟨m, h3, h4⟩ := T.cover ops.size (by omega) b (by omega) h2; rw [sb2 m h3 b h4, A.news m (iX m h3) h3 b h4]
      have e1 : (st ops.size).h.get b = none := by
        cases hq : (st ops.size).h.get b with
        | none => rfl
        | some o => have := sb3 b o hq; omega
      have e2 : H.get b = none := by
        cases hq : H.get b with
        | none => rfl
        | some o =>
          have h3 := hSE b (qM.aB b o hq).1; rcases h3 with h3 | h3
          . have := iW b h3; omega
          omega
      rw [e1, e2]
    rw [Bm.get b]
    have hqh : ∀ q, p <= q -> q <= ops.size -> (st q).h = (st p).h := fun q => by
      induction q with
      | zero => intro h1 _; have : p = 0 := by omega
                subst this; rfl
      | succ q ih =>
        intro h1 h2; by_cases hq : p = q + 1
        . subst hq; rfl
        have QW : ops[q]? = some ops[q] := Array.getElem?_eq_getElem (by omega); rcases T.wV q _ QW with ⟨h3, _⟩ | ⟨_, _, _, h3, _⟩
        . exfalso; have := (Bm.all q h3).1 (iX q (by omega)); omega
        rw [h3]; exact ih (by omega) (by omega)
    rw [hqh ops.size Bm.le (Nat.le_refl _)]
  refine ⟨{
    agree := hM.agree
    next := QR
    hr := {
      aB := fun i o hi => by
        rw [fK] at hi; obtain ⟨h1, h2⟩ := qM.aB i o hi; exact ⟨hSE i h1, h2.mono fun b hb => ⟨hSE b hb, rfl⟩⟩
      inj := fun i j oi oj hi hj => by rw [fK] at hi hj; exact qM.inj i j oi oj hi hj
      base := fun i o hi => by rw [fK] at hi; exact qM.base i o hi
      ro := fun i o hi => by rw [fK] at hi; exact qM.ro i o hi
      ids := fun b hb => by
        rcases hb with hb | hb
        . have := iW b hb; exact ⟨by omega, (qM.ids b (hM.sub b hb)).2⟩
        obtain ⟨m, h3, h4⟩ := T.cover ops.size (by omega) b hb.1 hb.2; exact ⟨hb.2, (qM.ids b (.inr ⟨m, iX m h3, h3, h4⟩)).2⟩
      pos := by have := qM.pos; rwa [I.next] at this
      below := qM.below
      drawn := qM.drawn
      size := qM.size }
    frame := hM.frame
    low := by have := T.low 0 ops.size (by omega) (by omega); rwa [T.zero] at this
    aV := fun i hi hl => by
      rw [fK]; by_cases hS : S i
      . exact hM.aV i hS (by omega)
      have e1 : h0.get i = none := by
        cases hq : h0.get i with
        | none => rfl
        | some o => exact absurd (HV i o hq) hS
      have e2 : H.get i = none := by
        cases hq : H.get i with
        | none => rfl
        | some o => exact absurd (amC i (qM.aB i o hq).1 hi) hS
      rw [e1, e2]
    old := fun i o hi bX => by
      rw [fK] at hi; exact hM.old i o hi (amC i (qM.aB i o hi).1 bX)
    fresh := fun i o hi IX => by
      rw [fK] at hi
      obtain ⟨h1, h2⟩ := hM.fresh i o hi fun hS => by have := iW i hS; omega
      refine ⟨h1, ?_⟩; rcases h2 with h2 | ⟨j, oj, h3, h4, h5, h6⟩
      . exact .inl h2
      have h7 := iW j (HV j oj h3)
      exact .inr ⟨j, oj, h3, h4, h5, by omega, h7⟩ }, ?_⟩
  obtain ⟨t1, t2, t3⟩ := I.tmp; refine ⟨t1, hn, fun x => ?_⟩; by_cases hw : ∃ (j : Nat) (oj : Oper), ops[j]? = some oj /\ oj.dst = some x
  . obtain ⟨j, oj, hj, HU⟩ := hw; have AG : j < ops.size := (Array.getElem?_eq_some_iff.1 hj).1; rw [T.JJ pM hn ops.size (Nat.le_refl _) j oj x AG hj HU]; exact (t2 j oj x (iX j AG) hj HU).mono fun b hb => ⟨hSE b (QS I.down (iX j AG) b hb), rfl⟩
  rw [T.CO hn ops.size (Nat.le_refl _) x fun j oj _ aZ JK => hw ⟨j, oj, aZ, JK⟩]; exact (t3 x fun j oj _ aZ JK => hw ⟨j, oj, aZ, JK⟩).mono fun b hb => ⟨.inl hb, rfl⟩
theorem KC {ops : Array Oper} {x : Tmp} {j : Nat} {oj : Oper} (hj : ops[j]? = some oj) (hx : oj.dst = some x) : j ∈ Q4 ops.toList x := by
  unfold Q4; refine List.mem_filterMap.2 ⟨(oj, j), ?_, ?_⟩
  . rw [List.mem_zipIdx_iff_getElem?]; simpa using hj
  simp [hx]
theorem KD {ops : Array Oper} (h : oP ops = true) : nU ops /\ EJ ops /\
    ∀ (i : Nat) (oi : Oper), ops[i]? = some oi -> ∀ x ∈ oi.looksAt ops, ∀ (j : Nat) (oj : Oper), ops[j]? = some oj -> oj.dst = some x ->
      j = i \/ ((AL ops.toList []).getD i 0).testBit j = true \/ ((AL ops.toList []).getD j 0).testBit i = true := by
  have key : ∀ (i : Nat) (o : Oper), ops[i]? = some o -> SW ops ops.toList (AL ops.toList []) o i = true := fun i o ho => by
    unfold oP at h; have := List.all_eq_true.1 h (o, i) (by rw [List.mem_zipIdx_iff_getElem?]; simpa using ho); exact this
  refine ⟨fun i o ho e he hb => ?_, fun i j oi oj d hi hj hdi hdj => ?_, fun i oi hi x hx j oj hj HU => ?_⟩
  . have := key i o ho; unfold SW at this; obtain ⟨h1, _⟩ := aT this; obtain ⟨h2, _⟩ := aT h1; have := List.all_eq_true.1 h2 e he; rw [hb] at this; exact iH (by simpa using this)
  . have := key i oi hi; unfold SW at this; obtain ⟨h1, _⟩ := aT this; obtain ⟨_, h2⟩ := aT h1; rw [hdi] at h2; exact bD (List.all_eq_true.1 h2 j (KC hj hdj))
  have := key i oi hi; unfold SW at this; obtain ⟨_, h1⟩ := aT this; have h2 := List.all_eq_true.1 (List.all_eq_true.1 h1 x hx) j (KC hj HU); simp only [Bool.or_eq_true] at h2; rcases h2 with (h2 | h2) | h2
  . exact .inl (bD h2)
  . exact .inr (.inl h2)
  exact .inr (.inr h2)
theorem GA {step : Oper -> (Operand -> Value) -> Heap -> Option (Value × Heap)} (T : Trace step ops n st t0 h0) : ∀ (l : List Oper) (i : Nat), l = ops.toList.drop i -> i <= ops.size -> AL l (st i).bs = (st ops.size).bs
  | [], i, hl, hi => by
    have : ops.size <= i := by
      have := congrArg List.length hl; simp at this; omega
    have : i = ops.size := by omega
    subst this; rfl
  | o :: r, i, hl, hi => by
    have bX : i < ops.size := by
      have := congrArg List.length hl; simp at this; omega
    have ho : ops[i]? = some o := by
      have := congrArg (·[0]?) hl; simpa using this.symm
    have hr : r = ops.toList.drop (i + 1) := by
      have := congrArg List.tail hl; simpa using this
    simp only [AL]; rw [<- (T.EG i o ho).1]; exact GA T r (i + 1) hr (by omega)
theorem wY (gX : lF P B w0 call) (p7 : fT P B w0 yield) (aZ : oP ops = true) {s : cM} (hf : ∃ st, Trace (bQ P call yield) ops n st t0 h0 /\ st ops.size = s)
    {w : World} {a : Act} (hr : HR P ρ0 S B w0 h0 w) (ht : kL ρ0 S t0 n a.tmps) {r : Option Nat} {nn : Nat} {Q : Exit -> Act -> World -> Prop}
    (k : ∀ bG w' a', aO P B w0 ρ0 bG S h0 s.h w w' -> kL bG (Ext S h0 s.h) s.t n a'.tmps -> a'.defers = a.defers -> Q .normal a' w') (t : Nat) :
    wpOpsIn (lE r) nn P ops Q (Region.schedule true ops t) a w := by
  obtain ⟨nV, pM, aqS⟩ := KD aZ; obtain ⟨st, T, hs⟩ := hf; have iW : ∀ b, S b -> b < h0.next := fun b hb => (hr.ids b hb).1; have HV : ∀ b o, h0.get b = some o -> S b := fun b o hg => (hr.aB b o hg).1
  have hbs : AL ops.toList [] = (st ops.size).bs := by
    have := GA T ops.toList 0 (by simp) (by omega)
    rwa [T.zero] at this
  have Y0 : JH st ops := fun i oi hi x hx j oj hj HU => by
    have h1 := aqS i oi hi x hx j oj hj HU; have nA : i < ops.size := (Array.getElem?_eq_some_iff.1 hi).1; have XK : j < ops.size := (Array.getElem?_eq_some_iff.1 hj).1; rw [hbs, (T.bs ops.size (Nat.le_refl _)).2 i nA, (T.bs ops.size (Nat.le_refl _)).2 j XK] at h1; exact h1
  have aqT : SE st ops S (fun _ => false) = S := funext fun b => propext ⟨fun hb => (by
    rcases hb with hb | ⟨m, h1, _⟩
    . exact hb
    cases h1), fun hb => .inl hb⟩
  refine acF (ρ0 := ρ0) (ws := w) (d0 := a.defers) hr gX p7 T nV pM ht.2.1 Y0 iW HV hr.pos (fun E ρ H w' a' iX I => ?_) _ _ (XY nV t) ρ0 { next := (st ops.size).h.next, low := 0, aB := h0.aB } w a
    ⟨?_, .inl ⟨fun k hk => (by cases hk), fun b _ => rfl, fun k hk => (by cases hk), fun b o hb hg => (hr.aB b o hg).2, fun k hk => (by cases hk)⟩, ⟨ht.1, fun k o d hk => (by cases hk), fun d _ => ht.2.2 d⟩, rfl, rfl, fun k hk => (by cases hk)⟩
  . obtain ⟨h1, h2⟩ := I.end T pM ht.2.1 iW HV iX; rw [hs] at h1 h2; exact k ρ w' a' h1 h2 I.defers
  have QR : h0.next <= (st ops.size).h.next := by have := T.next 0 ops.size (by omega) (by omega); rwa [T.zero] at this
  rw [aqT]
  exact {
    agree := fun _ _ => rfl
    sub := fun _ hb => hb
    hr := { aB := hr.aB, inj := hr.inj, base := hr.base, ro := hr.ro, ids := fun b hb => ⟨Nat.lt_of_lt_of_le (hr.ids b hb).1 QR, (hr.ids b hb).2⟩, pos := Nat.lt_of_lt_of_le hr.pos QR, below := hr.below, drawn := hr.drawn, size := hr.size }
    frame := Frame.refl _ _ _
    aV := fun _ _ _ => rfl
    old := fun i o ho _ => ⟨o, ho, rfl⟩
    fresh := fun i o ho hS => absurd (hr.aB i o ho).1 hS }
theorem acG (gX : lF P B w0 call) (p7 : fT P B w0 yield) (aZ : oP ops = true) {s : cM} (hf : kC (bQ P call yield) ops n ops.toList 0 ⟨t0, h0, [], [], 0, false⟩ = some s)
    {w : World} {a : Act} (hr : HR P ρ0 S B w0 h0 w) (ht : kL ρ0 S t0 n a.tmps) {r : Option Nat} {nn : Nat} {Q : Exit -> Act -> World -> Prop}
    (k : ∀ bG w' a', aO P B w0 ρ0 bG S h0 s.h w w' -> kL bG (Ext S h0 s.h) s.t n a'.tmps -> a'.defers = a.defers -> Q .normal a' w') (t : Nat) :
    wpOpsIn (lE r) nn P ops Q (Region.schedule true ops t) a w := wY gX p7 aZ (acB hf) hr ht k t
theorem Y7 (gX : lF P B w0 call) (p7 : fT P B w0 yield) (aZ : oP ops = true) {s : cM} (hf : I7 P h0 (bQ P call yield) ops n ⟨t0, h0, [], [], 0, false⟩ = some s)
    {w : World} {a : Act} (hr : HR P ρ0 S B w0 h0 w) (ht : kL ρ0 S t0 n a.tmps) {r : Option Nat} {nn : Nat} {Q : Exit -> Act -> World -> Prop}
    (k : ∀ bG w' a', aO P B w0 ρ0 bG S h0 s.h w w' -> kL bG (Ext S h0 s.h) s.t n a'.tmps -> a'.defers = a.defers -> Q .normal a' w') (t : Nat) :
    wpOpsIn (lE r) nn P ops Q (Region.schedule true ops t) a w := wY gX p7 aZ (XZ hf) hr ht k t
end
end Go.Fs
namespace Go.Fs
open Go.RowKit (Below)
variable {P : Program} {ρ bG : Ren} {S S' : Nat -> Prop} {B : Nat} {w0 w w' w1 w2 : World} {h h' h1 h2 : Heap}
theorem HR.same (hr : HR P ρ S B w0 h w) (hg : ∀ i, h'.get i = h.get i) (hn : h'.next = h.next) : HR P ρ S B w0 h' w where
  aB := fun i o hi => hr.aB i o (by rw [<- hg]; exact hi)
  inj := fun i j oi oj hi hj => hr.inj i j oi oj (by rw [<- hg]; exact hi) (by rw [<- hg]; exact hj)
  base := fun i o hi => hr.base i o (by rw [<- hg]; exact hi)
  ro := fun i o hi => hr.ro i o (by rw [<- hg]; exact hi)
  ids := fun b hb => by rw [hn]; exact hr.ids b hb
  pos := by rw [hn]; exact hr.pos
  below := hr.below
  drawn := hr.drawn
  size := hr.size
theorem Ext.afW {g g' : Heap} (h1 : g.next = h.next) (h2 : g'.next = h'.next) : Ext S g g' = Ext S h h' := by
  funext b; unfold Ext; rw [h1, h2]
theorem aO.anO {g g' : Heap} (m : aO P B w0 ρ bG S g g' w w') (hg : ∀ i, h.get i = g.get i) (hn : h.next = g.next) (gO : ∀ i, h'.get i = g'.get i) (hn' : h'.next = g'.next)
    (hl : h'.low <= g'.low) (iR : h'.low <= h.low) : aO P B w0 ρ bG S h h' w w' where
  agree := m.agree
  next := by rw [hn, hn']; exact m.next
  hr := by
    rw [Ext.afW hn hn']; exact m.hr.same gO hn'
  frame := ⟨m.frame.os, m.frame.tape, m.frame.output, m.frame.size, fun k hk mO => m.frame.block k hk fun i o hi ho => mO i o (by rw [hg]; exact hi) ho⟩
  low := iR
  aV := fun i hi dN => by rw [hg, gO]; exact m.aV i (by omega) (by omega)
  old := fun i o hi bX => by
    obtain ⟨o', h1, h2⟩ := m.old i o (by rw [<- gO]; exact hi) (by omega); exact ⟨o', by rw [hg]; exact h1, h2⟩
  fresh := fun i o hi IX => by
    obtain ⟨h1, hf⟩ := m.fresh i o (by rw [<- gO]; exact hi) (by omega); refine ⟨h1, ?_⟩; rcases hf with hf | ⟨j, oj, h3, h4, h5, h6, h7⟩
    . exact .inl hf
    exact .inr ⟨j, oj, by rw [hg]; exact h3, h4, h5, by omega, by omega⟩
theorem aO.forget {g : Heap} (hr : HR P ρ S B w0 g w) (m : aO P B w0 ρ bG S h h1 w w') (dN : h.next <= h1.low) (hg : ∀ i, g.get i = h.get i) (hn : g.next = h.next) : aO P B w0 ρ ρ S g g w w' where
  agree := fun _ _ => rfl
  next := Nat.le_refl _
  hr := HR.congr (S := S) {
    aB := fun i o hi => by
      obtain ⟨h3, h4⟩ := hr.aB i o hi; have bX := (hr.ids i h3).1
      have hk : h1.get i = some o := by rw [m.aV i (by omega) (by omega), <- hg]; exact hi
      have h5 := (m.hr.aB i o hk).2; rw [m.agree i h3] at h5; exact ⟨h3, h4.yF h5 m.agree⟩
    inj := hr.inj
    base := hr.base
    ro := hr.ro
    ids := hr.ids
    pos := hr.pos
    below := m.hr.below
    drawn := m.hr.drawn
    size := m.hr.size } fun b => (Ext.sN rfl b).symm
  frame := ⟨m.frame.os, m.frame.tape, m.frame.output, m.frame.size, fun k hk mO => m.frame.block k hk fun i o hi ho => mO i o (by rw [hg]; exact hi) ho⟩
  low := Nat.le_refl _
  aV := fun _ _ _ => rfl
  old := fun i o ho _ => ⟨o, ho, rfl⟩
  fresh := fun i o ho hi => by
    have := (hr.ids i (hr.aB i o ho).1).1; omega
theorem aO.dropped (hr : HR P ρ S B w0 h w) {i : Nat} {o : aU} (hi : h.get i = some o) (ho : gW o = true)
    (HQ : w'.os = w.os) (ht : w'.tape = w.tape) (y4 : w'.output = w.output) (cY : w'.heap.size = w.heap.size) (rX : ∀ k, k ≠ (ρ i).block -> w'.heap[k]? = w.heap[k]?)
    (hd : w.drawn <= w'.drawn := by first | exact Nat.le_refl _ | exact Nat.le_succ _) : aO P B w0 ρ ρ S h (h.drop i) w w' where
  agree := fun _ _ => rfl
  next := Nat.le_refl _
  hr := HR.congr (S := S) {
    aB := fun j oj hj => by
      rw [Heap.cJ] at hj; split at hj
      . cases hj
      rename_i e; obtain ⟨h1, h2⟩ := hr.aB j oj hj; refine ⟨h1, h2.world (rX _ fun he => ?_)⟩; by_cases kR : gW oj = true
      . exact e (hr.inj j i oj o hj hi kR ho he)
      have := hr.ro j oj hj (by simpa using kR); have := hr.base i o hi ho; omega
    inj := fun a b oa ob ha hb => by
      rw [Heap.cJ] at ha hb; split at ha
      . cases ha
      split at hb
      . cases hb
      exact hr.inj a b oa ob ha hb
    base := fun j oj hj => by
      rw [Heap.cJ] at hj; split at hj
      . cases hj
      exact hr.base j oj hj
    ro := fun j oj hj => by
      rw [Heap.cJ] at hj; split at hj
      . cases hj
      exact hr.ro j oj hj
    ids := hr.ids
    pos := hr.pos
    drawn := Nat.le_trans hr.drawn hd
    below := ⟨HQ.trans hr.below.os, ht.trans hr.below.tape, y4.trans hr.below.output, by rw [cY]; exact hr.below.size, fun k hk => by
      rw [rX k (fun e => by have := hr.base i o hi ho; omega)]; exact hr.below.block k hk⟩
    size := by rw [cY]; exact hr.size } fun b => (Ext.sN rfl b).symm
  frame := ⟨HQ, ht, y4, by rw [cY]; exact Nat.le_refl _, fun k _ mO => rX k (Ne.symm (mO i o hi ho))⟩
  low := Nat.min_le_left _ _
  aV := fun j _ hl => by
    have tW : min h.low i <= i := Nat.min_le_right _ _; have bX : j < min h.low i := hl; rw [Heap.cJ, if_neg (by omega)]
  old := fun j oj hj _ => by
    rw [Heap.cJ] at hj; split at hj
    . cases hj
    exact ⟨oj, hj, rfl⟩
  fresh := fun j oj hj IX => by
    rw [Heap.cJ] at hj; split at hj
    . cases hj
    have := (hr.ids j (hr.aB j oj hj).1).1; have : h.next <= j := IX; omega
def pN (ρ : Ren) (S : Nat -> Prop) (marks : List Nat) (ds : List Deferred) : Prop := ds = marks.map (fun d => ({ target := .collected (ρ d).block, args := #[] } : Deferred)) /\ ∀ d ∈ marks, S d
theorem pN.mono {marks : List Nat} {ds : List Deferred} (hm : pN ρ S marks ds) (hs : ∀ b, S b -> S' b /\ bG b = ρ b) : pN bG S' marks ds := by
  refine ⟨?_, fun d hd => (hs d (hm.2 d hd)).1⟩; rw [hm.1]
  exact List.map_congr_left fun d hd => by rw [(hs d (hm.2 d hd)).2]
theorem Ext.self {b : Nat} (hb : S b) : Ext S h h' b := .inl hb
theorem AQ {fn : Func} {tmps : Array Value} {R : Ending -> World -> Prop} {F : Fence} {n : Nat} : ∀ (marks : List Nat) (S : Nat -> Prop) (h : Heap) (w : World) (ds : List Deferred), HR P ρ S B w0 h w -> pN ρ S marks ds ->
    jS marks h = some h2 -> (∀ w', aO P B w0 ρ ρ S h h2 w w' -> LeavesInM F n P fn tmps R [] .returning w') -> LeavesInM F n P fn tmps R ds .returning w
  | [], S, h, w, ds, hr, hm, hd, k => by
    simp only [jS, Option.some.injEq] at hd; subst hd; rw [hm.1]
    exact k w (aO.same hr)
  | d :: r, S, h, w, ds, hr, hm, hd, k => by
    simp only [jS] at hd; split at hd
    . rename_i hg; have mB : w.heap[(ρ d).block]? = some (.deferred (some [])) := (hr.aB d _ hg).2; have bX : (ρ d).block < w.heap.size := (Array.getElem?_eq_some_iff.1 mB).1; have m := aO.dropped (w' := w.putObj (ρ d).block (.deferred none)) hr hg rfl rfl rfl rfl World.putObj_size (fun k hk => World.putObj_heap_other hk); rw [hm.1]; simp only [List.map_cons, LeavesInM]; refine ⟨by simp, .inl ⟨(ρ d).block, _, rfl, run_takeDeferred mB, ?_⟩⟩; refine AQ r (Ext S h (h.drop d)) (h.drop d) _ _ m.hr ⟨rfl, fun x hx => .inl (hm.2 x (List.mem_cons_of_mem _ hx))⟩ hd fun w' m' => k w' (m.trans m')
    cases hd
def R1 (tmps : Array Value) : ResultVar -> Sem Value
  | .tmp t => pure (tmps.getD t undef)
  | .cell a t => do loadVar t (<- asAddr (tmps.getD a undef))
theorem TP (fn : Func) (tmps : Array Value) : results fn tmps = (do
    let vs <- fn.results.mapM (R1 tmps)
    pure (if h : vs.size = 1 then vs[0] else .tuple vs)) := rfl
theorem Y8 {t : Tr} {n : Nat} {tmps : Array Value} {rv : ResultVar} {v : Value} (hr : HR P ρ S B w0 h w) (ht : kL ρ S t n tmps) (hf : uZ P t h rv = some v) :
    ∃ v', (R1 tmps rv).run P w = .ok v' w /\ VR ρ S v v' := by
  have fK : ∀ i, tmps.getD i undef = tmps.toList.getD i undef := fun i => by simp [Array.getD_eq_getD_getElem?, List.getD_eq_getElem?_getD]
  cases rv with
  | tmp i =>
    simp only [uZ, Option.some.injEq] at hf; subst hf
    exact ⟨_, rfl, by rw [fK]; exact ht.2.2 i⟩
  | cell a ty =>
    simp only [uZ] at hf; have hv := ht.2.2 a; rw [<- fK] at hv; obtain ⟨v', h1, h2⟩ := J0 hr hf hv; refine ⟨v', ?_, h2⟩; unfold eE at hf; split at hf
    . rename_i b o hb; rw [hb] at hv; obtain ⟨_, he⟩ := hv.pH; simp only [R1, he] at h1 ⊢; simpa [Instr.loadAt, Instr.sureAddr, asAddr] using h1
    cases hf
theorem GB {t : Tr} {n : Nat} {tmps : Array Value} (hr : HR P ρ S B w0 h w) (ht : kL ρ S t n tmps) : ∀ (rs : List ResultVar) (vs : List Value), iT P t h rs = some vs ->
    ∃ fQ, (rs.mapM (R1 tmps)).run P w = .ok fQ w /\ LR ρ S vs fQ
  | [], vs, hf => by
    simp only [iT, Option.some.injEq] at hf; subst hf
    exact ⟨[], rfl, LR.nil⟩
  | r :: rs, vs, hf => by
    simp only [iT] at hf; split at hf
    . rename_i v QY hv B2; simp only [Option.some.injEq] at hf; subst hf; obtain ⟨v', h1, h2⟩ := Y8 hr ht hv; obtain ⟨fQ, h3, h4⟩ := GB hr ht rs QY B2; refine ⟨v' :: fQ, ?_, LR.cons h2 h4⟩; rw [List.mapM_cons]; simp only [Sem.run_bind, h1, Result.andThen_ok, h3, Sem.run_pure]
    cases hf
theorem Y9 {vs fQ : List Value} (hv : LR ρ S vs fQ) : VR ρ S (gE vs) (if h : fQ.toArray.size = 1 then fQ.toArray[0] else .tuple fQ.toArray) := by
  have hl := hv.1
  match vs, fQ, hl with
  | [], [], _ => exact VR.undef
  | [v], [v'], _ => exact hv.2 0 (by simp)
  | v1 :: v2 :: r, u1 :: u2 :: r', _ =>
    rw [dif_neg (by simp)]; exact VR.tuple' (by simpa [gE] using hv)
theorem KE {fn : Func} {t : Tr} {n : Nat} {tmps : Array Value} {vs : List Value} (hr : HR P ρ S B w0 h w) (ht : kL ρ S t n tmps) (hf : iT P t h fn.results.toList = some vs) :
    ∃ v', (results fn tmps).run P w = .ok v' w /\ VR ρ S (gE vs) v' := by
  obtain ⟨fQ, h1, h2⟩ := GB hr ht _ _ hf; refine ⟨_, ?_, Y9 h2⟩; rw [TP, Array.mapM_eq_mapM_toList]; simp only [Sem.run_bind, Sem.run_map, h1, Result.andThen_ok, Sem.run_pure]
end Go.Fs
namespace Go.Fs
open Go.RowKit (Below)
variable {P : Program} {ρ bG : Ren} {S S' : Nat -> Prop} {B : Nat} {w0 w w' w1 w2 : World} {h h' h1 h2 : Heap}
def TQ : Ex -> Exit
  | .normal => .normal
  | .exit id => .exit id
  | .ret => .ret
def wpX (m : Nat) (F : Fence) (n : Nat) (P : Program) (c : Code) (Q : Exit -> Act -> World -> Prop) (a : Act) (w : World) : Prop :=
  match c with
  | .loop b => Code.roundsIn F n P b Q m a w
  | c => c.wpIn F n P Q a w
theorem wpX.wpIn {m : Nat} {F : Fence} {n : Nat} {c : Code} {Q : Exit -> Act -> World -> Prop} {a : Act} {w : World} (h : wpX m F n P c Q a w) : c.wpIn F n P Q a w := by
  cases c with
  | loop b => exact wpIn_loop_rounds m h
  | _ => exact h
def tZ (ρ : Ren) (aR : Option Nat) : Fence := lE (aR.map fun l => (ρ l).block)
structure pO (P : Program) (B : Nat) (w0 : World) (ρ bG : Ren) (S : Nat -> Prop) (h : Heap) (w : World) (iO : Fr) (h' : Heap) (w' : World) (a' : Act) : Prop where
  cC : aO P B w0 ρ bG S h h' w w'
  tmps : kL bG (Ext S h h') iO.t iO.n a'.tmps
  marks : pN bG (Ext S h h') iO.marks a'.defers
def oF (P : Program) (B : Nat) (w0 : World) (m : Nat) (rec : Rec) : Prop := ∀ aR c fr h e iO h', codeOk c = true -> rec aR c fr h = some (e, iO, h') ->
  ∀ ρ S w a nn Q, HR P ρ S B w0 h w -> kL ρ S fr.t fr.n a.tmps -> pN ρ S fr.marks a.defers -> (∀ l, aR = some l -> S l) ->
    (∀ bG w' a', pO P B w0 ρ bG S h w iO h' w' a' -> Q (TQ e) a' w') -> wpX m (tZ ρ aR) nn P c Q a w
theorem TR {aR : Option Nat} (hs : ∀ l, aR = some l -> S l) (fR : ∀ b, S b -> bG b = ρ b) : tZ bG aR = tZ ρ aR := by
  cases aR with
  | none => rfl
  | some l => simp [tZ, fR l (hs l rfl)]
theorem pO.trans {cP iS : Ren} {fr1 IS : Fr} {a1 a2 : Act} (p : aO P B w0 ρ cP S h h1 w w1) (q : pO P B w0 cP iS (Ext S h h1) h1 w1 IS h2 w2 a2) : pO P B w0 ρ iS S h w IS h2 w2 a2 where
  cC := p.trans q.cC
  tmps := q.tmps.mono fun b hb => ⟨Ext.trans' p.next q.cC.next hb, rfl⟩
  marks := q.marks.mono fun b hb => ⟨Ext.trans' p.next q.cC.next hb, rfl⟩
theorem EO : ∀ (vs : List Value) (t : Tr) (i : Nat), i + vs.length <= 4000 -> ∀ j, (j6 t i vs).get j = if j < i then t.get j else if j < i + vs.length then vs.getD (j - i) undef else t.get j
  | [], t, i, _, j => by simp only [j6, List.length_nil, Nat.add_zero]; split <;> simp_all
  | v :: r, t, i, hl, j => by
    simp only [List.length_cons] at hl; simp only [j6]; rw [EO r _ (i + 1) (by omega), Tr.dE depth t i v j (by have : 2 ^ depth = 8192 := rfl; omega)]; simp only [List.length_cons]; by_cases h1 : j < i
    . rw [if_pos (by omega), if_neg (by omega), if_pos h1]
    by_cases h2 : j = i
    . subst h2; rw [if_pos (by omega), if_pos rfl, if_neg h1, if_pos (by omega), Nat.sub_self]; rfl
    rw [if_neg (by omega), if_neg h1]; by_cases h3 : j < i + 1 + r.length
    . rw [if_pos h3, if_pos (by omega), show j - i = (j - (i + 1)) + 1 by omega]; rfl
    rw [if_neg h3, if_neg h2, if_neg (by omega)]
theorem acH (i : Nat) : Tr.leaf.get i = undef := rfl
theorem TS {n : Nat} {args args' : List Value} (hn : n <= 4000) (hl : args.length <= n) (ha : LR ρ S args args') :
    kL ρ S (j6 .leaf 0 args) n (args'.toArray ++ Array.replicate (n - args'.toArray.size) undef) := by
  have h0 := ha.1; refine ⟨by simp; omega, hn, fun i => ?_⟩; rw [EO args .leaf 0 (by omega), if_neg (by omega), acH, Nat.sub_zero, Nat.zero_add]; simp only [Array.toList_append, Array.toList_replicate, List.getD_eq_getElem?_getD, List.getElem?_append]; by_cases hi : i < args.length
  . rw [if_pos hi, if_pos (by omega)]; have := ha.2 i hi
    rwa [List.getD_eq_getElem?_getD, List.getD_eq_getElem?_getD] at this
  rw [if_neg hi, if_neg (by omega), List.getElem?_replicate]; split
  . exact VR.undef
  exact VR.undef
structure k9 (P : Program) : Prop where
  mixed : P.follows .mixedOrders = true
  name : ∀ (f : FuncId) (fn : Func), P.funcs[f]? = some fn -> fn.body.isNone = false -> (fn.name == "runtime.NumGoroutine") = false
  code : ∀ (f : FuncId) (fn : Func) (c : Code), P.funcs[f]? = some fn -> fn.body = some c -> codeOk c = true
theorem AR (hP : k9 P) {m : Nat} {rec : Rec} {k : Bool} (iL : oF P B w0 m rec) : cB P B w0 (n8 P k rec) := by
  intro f args h v h' hf; unfold n8 at hf; split at hf
  . rename_i fn kX; split at hf
    . rename_i c hc; refine ⟨⟨fn, kX, by rw [hc]; rfl, hP.name f fn kX (by rw [hc]; rfl)⟩, fun ρ S w args' hr ha n => ?_⟩
      cases hb : (Nat.blt 4000 fn.ntmps || Nat.blt fn.ntmps args.length) with
      | true => rw [hb] at hf; cases hf
      | false =>
        rw [hb] at hf; simp only [cond_false] at hf
        have sX : Nat.blt 4000 fn.ntmps = false /\ Nat.blt fn.ntmps args.length = false := by simpa using hb
        have hn : fn.ntmps <= 4000 := by have := gI sX.1; omega
        have hl : args.length <= fn.ntmps := by have := gI sX.2; omega
        split at hf
        . rename_i e fr h1 eD; obtain ⟨hgo, cT⟩ := aL hf; clear hf; split at cT
          . rename_i h2 anP; split at cT
            . rename_i vs B2; have hrb : HR P ρ S B w0 { next := h.next, low := h.next, aB := h.aB } w := hr.same (fun _ => rfl) rfl; refine callsIn_of_wp_marks kX hc trivial ?_
              have hw := (iL none c _ _ _ _ _ (hP.code f fn c kX hc) eD ρ S w { tmps := args'.toArray ++ Array.replicate (fn.ntmps - args'.toArray.size) undef, defers := [] } n
                (bodyPostM Fence.wide n P fn (xK P B w0 ρ S h w v h')) hrb (TS hn hl ha) ⟨rfl, fun d hd => by cases hd⟩ (fun l hl => by cases hl) fun cP w1 a1 p1 => ?_).wpIn
              . exact hw
              have ab2 : LeavesInM Fence.wide n P fn a1.tmps (xK P B w0 ρ S h w v h') a1.defers .returning w1 := by
                refine AQ fr.marks _ h1 w1 a1.defers p1.cC.hr p1.marks anP fun w2 m2 => ?_; have htm := p1.tmps.mono (fun b hb => (⟨Ext.self (h := h1) (h' := h2) hb, rfl⟩ : Ext _ h1 h2 b /\ cP b = cP b)); obtain ⟨v', KF, R0⟩ := KE m2.hr htm B2; refine ⟨v', KF, ?_⟩; have m3 := p1.cC.trans m2; have hv3 := R0.mono (fun b hb => (⟨Ext.trans' p1.cC.next m2.next hb, rfl⟩ : Ext S { next := h.next, low := h.next, aB := h.aB } h2 b /\ cP b = cP b))
                cases hq : (!k && (af (gE vs) && Nat.ble h.next h2.low)) with
                | true =>
                  rw [hq] at cT; simp only [cond_true, Option.some.injEq, Prod.mk.injEq] at cT; obtain ⟨rfl, rfl⟩ := cT; obtain ⟨q1, q2⟩ := aT (aT hq).2; have q2 := eP q2; refine ⟨ρ, m3.forget hr q2 (fun _ => rfl) rfl, ?_⟩
                  rw [hv3.dD q1]; exact .lS q1
                | false =>
                  rw [hq] at cT; simp only [cond_false, Option.some.injEq, Prod.mk.injEq] at cT; obtain ⟨rfl, rfl⟩ := cT; exact ⟨cP, m3.anO (fun _ => rfl) rfl (fun _ => rfl) rfl (Nat.min_le_right _ _) (Nat.min_le_left _ _), hv3⟩
              cases e with
              | normal => exact ab2
              | ret => exact ab2
              | exit id => cases hgo
            cases cT
          cases cT
        cases hf
    cases hf
  cases hf
theorem CS (hP : k9 P) {m : Nat} {rec : Rec} (iL : oF P B w0 m rec) : cB P B w0 (nO P rec) := AR hP iL
theorem KG {n : Nat} : ∀ (ps : List Tmp) (args args' : List Value) (t t' : Tr) (tmps : Array Value), kL ρ S t n tmps -> LR ρ S args args' -> zJ n t (ps.zip args) = some t' ->
    kL ρ S t' n ((ps.zip args').foldl (fun tmps p => tmps.setIfInBounds p.1 p.2) tmps)
  | [], args, args', t, t', tmps, ht, _, hs => by
    simp only [List.zip_nil_left, zJ, Option.some.injEq] at hs; subst hs
    simpa using ht
  | p :: ps, [], args', t, t', tmps, ht, ha, hs => by
    have : args' = [] := List.eq_nil_of_length_eq_zero ha.1.symm; subst this; simp only [List.zip_nil_right, zJ, Option.some.injEq] at hs; subst hs
    simpa using ht
  | p :: ps, v :: args, [], t, t', tmps, ht, ha, hs => by have := ha.1; simp at this
  | p :: ps, v :: args, v' :: args', t, t', tmps, ht, ha, hs => by
    simp only [List.zip_cons_cons, zJ] at hs; split at hs
    . rename_i t1 hp; have hv : VR ρ S v v' := ha.2 0 (by simp); have YA : LR ρ S args args' := ⟨by have := ha.1; simpa using this, fun i hi => by have := ha.2 (i + 1) (by simp; omega); simpa using this⟩; have h1 := ht.put hp hv []; simp only [List.zip_cons_cons, List.foldl_cons]; exact KG ps args args' t1 t' _ h1 YA hs
    cases hs
theorem vG {l : Nat} {st : LoopState} {jump : Option Code} {tmps : Tr} {n d : Nat} {params : Array Tmp} {assign body : Code} (hr : HR P ρ S B w0 h w) (hg : h.get l = some (.fI st jump tmps n params assign body d)) :
    S l /\ S d /\ ∃ fn iV, w.heap[(ρ l).block]? = some (.loop ⟨st, jump, fn, iV, params, assign, body, (ρ d).block⟩) /\ kL ρ S tmps n iV /\ codeOk assign = true /\ codeOk body = true := by
  obtain ⟨h1, h2, fn, iV, h3, h4, h5⟩ := hr.aB l _ hg; exact ⟨h1, h2, fn, iV, h3, h4, (aT h5).1, (aT h5).2⟩
theorem EP {l : Nat} {st st' : LoopState} {jump jump' : Option Code} {tmps : Tr} {n d : Nat} {params : Array Tmp} {assign body : Code} {fn : FuncId} {iV : Array Value} (hr : HR P ρ S B w0 h w)
    (hg : h.get l = some (.fI st jump tmps n params assign body d)) (hw : w.heap[(ρ l).block]? = some (.loop ⟨st, jump, fn, iV, params, assign, body, (ρ d).block⟩)) :
    aO P B w0 ρ ρ S h (h.set l (.fI st' jump' tmps n params assign body d)) w (w.putObj (ρ l).block (.loop ⟨st', jump', fn, iV, params, assign, body, (ρ d).block⟩)) := by
  obtain ⟨h1, h2, fn0, tm0, h3, h4, h5⟩ := hr.aB l _ hg; rw [hw] at h3; simp only [Option.some.injEq, Obj.loop.injEq, Loop.mk.injEq, true_and, and_true] at h3; obtain ⟨rfl, rfl⟩ := h3
  exact aO.set hr hg rfl rfl rfl rfl rfl World.putObj_size (fun k hk => World.putObj_heap_other hk)
    ⟨h2, fn, iV, World.putObj_heap_same (Array.getElem?_eq_some_iff.1 hw).1, h4, h5⟩
theorem CT {m : Nat} {rec : Rec} (iL : oF P B w0 m rec) : fT P B w0 (eG rec) := by
  intro l args h v h' hf ρ S w args' hr ha hl; unfold eG at hf; split at hf
  . rename_i at3 tmps n params assign body d0 hg; obtain ⟨hS, hSd, fn, iV, hw, ht, hca, hcb⟩ := vG hr hg; obtain ⟨hlen, cT⟩ := aL hf; clear hf; have hlen := bD hlen; split at cT
    . rename_i t C8
      have af7 : args'.toArray.size = params.size := by have := ha.1; simp; omega
      refine ⟨fn, _, assign, body, run_yield hw af7, fun nn => roundIn_of_wpIn trivial ?_⟩; have hta := KG params.toList args args' tmps t iV ht ha C8
      have anQ : (params.zip args'.toArray).foldl (fun tmps (x : Tmp × Value) => tmps.setIfInBounds x.1 x.2) iV = (params.toList.zip args').foldl (fun tmps p => tmps.setIfInBounds p.1 p.2) iV := by
        rw [<- Array.foldl_toList, Array.toList_zip]
      rw [<- anQ] at hta; split at cT
      . rename_i fr h1 anR; split at cT
        . rename_i afX anS n1 params1 afY anT d1 hg1; split at cT
          . rename_i e IS h2 XI; split at cT
            . rename_i st2 at4 anU n2 params2 afZ anV d2 CQ; simp only [Option.some.injEq, Prod.mk.injEq] at cT; obtain ⟨rfl, rfl⟩ := cT; have hF : (Fence.wide.inRound (ρ l).block) = tZ ρ (some l) := rfl; rw [hF]; refine (iL (some l) assign _ _ _ _ _ hca anR ρ S w { tmps := (params.zip args'.toArray).foldl (fun tmps (x : Tmp × Value) => tmps.setIfInBounds x.1 x.2) iV, defers := [] } nn _ hr hta ⟨rfl, fun d hd => by cases hd⟩ (fun l' hl' => by cases hl'; exact hS) fun cP w1 a1 p1 => ?_).wpIn; obtain ⟨QI, atJ, fn1, tm1, NR, CH, atK, atL⟩ := vG p1.cC.hr hg1
              have AB : (cP l).block = (ρ l).block := by rw [p1.cC.agree l hS]
              refine ⟨_, by rw [<- AB]; exact run_beginRound NR rfl, ?_⟩; have m2 := EP (st' := .busy) (jump' := afX) p1.cC.hr hg1 NR; have aqU : codeOk body = true := hcb
              have hF2 : tZ ρ (some l) = tZ cP (some l) := by simp [tZ, AB]
              rw [hF2]
              refine (iL (some l) body fr _ _ _ _ aqU XI cP (Ext (Ext S h h1) h1 (h1.set l (.fI .busy afX anS n1 params1 afY anT d1))) _ a1 nn (roundPost P (ρ l).block (xK P B w0 ρ S h w _ _)) m2.hr
                (p1.tmps.mono fun b hb => ⟨.inl hb, rfl⟩) (p1.marks.mono fun b hb => ⟨.inl hb, rfl⟩) (fun l' hl' => by cases hl'; exact .inl QI) fun YB w3 a3 p3 => ?_).wpIn
              obtain ⟨hS3, aqV, fn3, tm3, R2, ht3, atM, atN⟩ := vG p3.cC.hr CQ
              have hb3 : (YB l).block = (ρ l).block := by rw [p3.cC.agree l (.inl QI), AB]
              have fin : ∀ j : Option Code, j = oD e -> ∃ v w4, (Instr.endRound (ρ l).block j).run P w3 = .ok v w4 /\ xK P B w0 ρ S h w (.bool (oD e).isNone) (h2.set l (.fI (bif (oD e).isNone then .ready else .done) (oD e) anU n2 params2 afZ anV d2)) (.returned v) w4 := fun j hj => by
                subst hj; refine ⟨_, _, by rw [<- hb3]; exact run_endRound _ R2, YB, ?_, .lit rfl⟩; have m4 := EP (st' := bif (oD e).isNone then .ready else .done) (jump' := oD e) p3.cC.hr CQ R2; have m5 := p1.cC.trans (m2.trans (p3.cC.trans m4))
                have he : (bif (oD e).isNone then LoopState.ready else .done) = if (oD e).isNone then .ready else .done := by cases (oD e).isNone <;> rfl
                rw [<- he]; exact m5
              cases e with
              | normal => exact fin none rfl
              | exit id => exact fin (some (.exit id)) rfl
              | ret => exact fin (some .ret) rfl
            cases cT
          cases cT
        cases cT
      cases cT
    cases cT
  cases hf
theorem ag0 {aR : Option Nat} {d : Nat} {mark : List Nat} (hr : HR P ρ S B w0 h w) (hs : ∀ l, aR = some l -> S l) (hf : Q5 aR h = some (d, mark, h1)) (fn : FuncId) (tmps : Array Value) (ps : Array Tmp) (assign body : Code)
    {t : Tr} {n : Nat} (ht : kL ρ S t n tmps) (hca : codeOk assign = true) (hcb : codeOk body = true) :
    ∃ cP lw ms w2, (Instr.enterLoop fn tmps ps assign body (tZ ρ aR).round).run P w = .ok (lw, ms) w2 /\ (cP h1.next).block = lw /\ pN cP (Ext S h (h1.push (.fI .ready none t n ps assign body d))) mark ms /\
      aO P B w0 ρ cP S h (h1.push (.fI .ready none t n ps assign body d)) w w2 /\ Ext S h (h1.push (.fI .ready none t n ps assign body d)) h1.next := by
  -- the record, behind what is there
  have push : ∀ (ρa : Ren) (wa : World), aO P B w0 ρ ρa S h h1 w wa -> Ext S h h1 d -> aO P B w0 ρ (ρa.put h1.next (.clean wa.heap.size 0 0 (0))) S h (h1.push (.fI .ready none t n ps assign body d)) w
      (wa.alloc (.loop ⟨.ready, none, fn, tmps, ps, assign, body, (ρa d).block⟩)) := fun ρa wa ma hd => by
    have hta := ht.mono (fun b hb => (⟨.inl hb, ma.agree b hb⟩ : Ext S h h1 b /\ ρa b = ρ b)); have fR := ma.hr.r7 (.clean wa.heap.size 0 0 (0)) (.fI .ready none t n ps assign body d)
    exact ma.trans (aO.push ma.hr (.fI .ready none t n ps assign body d) (.loop ⟨.ready, none, fn, tmps, ps, assign, body, (ρa d).block⟩) (.clean wa.heap.size 0 0 (0)) rfl rfl
      ⟨(fR d hd).1, fn, tmps, by rw [(fR d hd).2]; exact heap_alloc_new wa _, hta.mono fR, by rw [hca, hcb]; rfl⟩)
  unfold Q5 at hf; split at hf
  . simp only [Option.some.injEq, Prod.mk.injEq] at hf; obtain ⟨rfl, rfl, rfl⟩ := hf; have m1 : aO P B w0 ρ (ρ.put h.next (.clean w.heap.size 0 0 (0))) S h (h.push .mM) w (w.alloc (.deferred (some []))) := aO.push hr .mM (.deferred (some [])) (.clean w.heap.size 0 0 (0)) rfl rfl (heap_alloc_new w _); have m2 := push _ _ m1 (Ext.kD _)
    have hb : ((ρ.put h.next (.clean w.heap.size 0 0 (0))) h.next).block = w.heap.size := by rw [Ren.eV]
    have cA : h.next ≠ (h.push .mM).next := Nat.ne_of_lt (Nat.lt_succ_self _); refine ⟨_, w.heap.size + 1, _, _, run_enterLoop_outer fn tmps ps assign body, ?_, ⟨?_, ?_⟩, by rw [hb] at m2; exact m2, .inr ⟨Nat.le_succ _, Nat.lt_succ_self _⟩⟩
    . rw [Ren.eV]; simp
    . simp only [List.map_cons, List.map_nil]; rw [Ren.eQ cA, hb]
    intro x hx; simp only [List.mem_cons, List.not_mem_nil, or_false] at hx; subst hx; exact .inr ⟨Nat.le_refl _, Nat.lt_succ_of_lt (Nat.lt_succ_self _)⟩
  rename_i l; split at hf
  . rename_i st jump tm n0 ps0 as0 bo0 d0 hg; simp only [Option.some.injEq, Prod.mk.injEq] at hf; obtain ⟨rfl, rfl, rfl⟩ := hf; obtain ⟨hS, hSd, fn0, tm0, hw, _⟩ := vG hr hg; have m2 := push ρ w (aO.same hr) (.inl hSd); refine ⟨_, w.heap.size, [], _, ?_, by rw [Ren.eV], ⟨rfl, fun x hx => by cases hx⟩, m2, .inr ⟨Nat.le_refl _, Nat.lt_succ_self _⟩⟩; show (Instr.enterLoop fn tmps ps assign body (some (ρ l).block)).run P w = _; unfold Instr.enterLoop; simp only [Sem.run_bind, run_getLoop hw, Result.andThen_ok, Sem.run_pure]; rfl
  cases hf
theorem ER (hP : k9 P) {m : Nat} {rec : Rec} (iL : oF P B w0 m rec) {aR : Option Nat} {g : Operand} {ps : Array Tmp} {assign body : Code} {fr iO : Fr} {e : Ex} (hca : codeOk assign = true) (hcb : codeOk body = true)
    (hf : n9 P rec aR g ps assign body fr h = some (e, iO, h')) {a : Act} {nn : Nat} {Q : Exit -> Act -> World -> Prop} (hr : HR P ρ S B w0 h w) (ht : kL ρ S fr.t fr.n a.tmps) (hm : pN ρ S fr.marks a.defers)
    (hs : ∀ l, aR = some l -> S l) (k : ∀ bG w' a', pO P B w0 ρ bG S h w iO h' w' a' -> Q (TQ e) a' w') : (Code.rangeFunc g ps assign body).wpIn (tZ ρ aR) nn P Q a w := by
  unfold n9 at hf; split at hf
  . rename_i d mark h1 anW; split at hf
    . rename_i f first captured hg; split at hf
      . rename_i v3 h3 eD; split at hf
        . rename_i st jump tm n0 ps0 as0 bo0 d0 hg3; have bI := ht.eval a.defers g; rw [hg] at bI; obtain ⟨f1, c1, hef, qJ, iR⟩ := bI.zO; refine wpIn_rangeFunc fun fn _ => ?_; obtain ⟨cP, lw, ms, w2, he, AB, hms, m1, QI⟩ := ag0 hr hs anW fn a.tmps ps assign body ht hca hcb
          have lW : LR cP (Ext S h (h1.push (.fI .ready none fr.t fr.n ps assign body d))) (first.toList ++ [.func (.yield h1.next) #[] #[]] ++ captured.toList) (f1.toList ++ [.func (.yield lw) #[] #[]] ++ c1.toList) := by
            have fR : ∀ b, S b -> Ext S h (h1.push (.fI .ready none fr.t fr.n ps assign body d)) b /\ cP b = ρ b := fun b hb => ⟨.inl hb, m1.agree b hb⟩; refine ((qJ.mono fR).append ?_).append (iR.mono fR); refine LR.cons ?_ LR.nil; rw [<- AB]; exact .yield _ QI
          obtain ⟨afN, E8⟩ := AR hP iL _ _ _ _ _ eD; have aqW : a.eval g = .func (.func f) f1 c1 := hef; have hinv : (invoke (.fn (.func f) c1) (f1 ++ #[Value.func (.yield lw) #[] #[]])).run P w2 = .ok (.enter f ((f1 ++ #[Value.func (.yield lw) #[] #[]]) ++ c1)) w2 := uP afN _ w2; refine ⟨lw, ms, w2, { target := .fn (.func f) c1, args := f1 ++ #[Value.func (.yield lw) #[] #[]] }, w2, f, (f1 ++ #[Value.func (.yield lw) #[] #[]]) ++ c1, w2, he, ?_, fun _ _ => trivial, hinv, fun hd => (by cases hd), ?_⟩
          . unfold resolve; simp only [rangeCall, List.map_toArray, aqW, Deferred.ofValue]; rfl
          have h4 := E8 cP _ w2 _ m1.hr lW (nn - 1)
          have h5 : (f1.toList ++ [Value.func (.yield lw) #[] #[]] ++ c1.toList).toArray = (f1 ++ #[Value.func (.yield lw) #[] #[]]) ++ c1 := by
            apply Array.toList_inj.1; simp
          rw [h5] at h4; refine CallsIn.mono (F := tZ ρ aR) h4 fun e3 w3 nX => ?_
          cases e3 with
          | panicked c => exact nX.elim
          | outgrown => exact nX.elim
          | returned v3' =>
            obtain ⟨YB, m3, _⟩ := nX; obtain ⟨hS3, aqV, fn3, tm3, R2, _⟩ := vG m3.hr hg3
            have hb3 : (YB h1.next).block = lw := by rw [m3.agree _ QI, AB]
            have m13 := m1.trans m3
            have post : st ≠ .busy -> ∀ h4 : Heap, h4 = h3.set h1.next (.fI .exhausted jump tm n0 ps0 as0 bo0 d0) -> ∃ w4, (Instr.endLoop lw).run P w3 = .ok jump w4 /\
                pO P B w0 ρ YB S h w { t := fr.t, n := fr.n, marks := mark ++ fr.marks } h4 w4 { a with defers := ms ++ a.defers } := fun cO h4 hh4 => by
              subst hh4; have m4 := EP (st' := .exhausted) (jump' := jump) m3.hr hg3 R2; have m14 := m1.trans (m3.trans m4); refine ⟨_, by rw [<- hb3]; exact run_endLoop R2 cO, ⟨m14, ht.mono fun b hb => ⟨.inl hb, m14.agree b hb⟩, ?_, ?_⟩⟩
              . show ms ++ a.defers = (mark ++ fr.marks).map _
                have e1 : ms = mark.map (fun d => ({ target := .collected (YB d).block, args := #[] } : Deferred)) := by
                  rw [hms.1]; refine List.map_congr_left fun x hx => ?_; simp only [m3.agree x (hms.2 x hx)]
                have e2 : a.defers = fr.marks.map (fun d => ({ target := .collected (YB d).block, args := #[] } : Deferred)) := by
                  rw [hm.1]; refine List.map_congr_left fun x hx => ?_; simp only [m14.agree x (hm.2 x hx)]
                rw [List.map_append, e1, e2]
              intro x hx; rcases List.mem_append.1 hx with hx | hx
              . exact Ext.trans' m1.next (Nat.le_trans m3.next m4.next) (.inl (hms.2 x hx))
              exact .inl (hm.2 x hx)
            split at hf
            . cases hf
            rename_i cO; have ag1 : st ≠ .busy := fun h => cO h; simp only at hf; split at hf
            . simp only [Option.some.injEq, Prod.mk.injEq] at hf; obtain ⟨rfl, rfl, rfl⟩ := hf; obtain ⟨w4, h6, h7⟩ := post ag1 _ rfl; exact ⟨none, w4, h6, k _ _ _ h7⟩
            . simp only [Option.some.injEq, Prod.mk.injEq] at hf; obtain ⟨rfl, rfl, rfl⟩ := hf; obtain ⟨w4, h6, h7⟩ := post ag1 _ rfl; exact ⟨some .ret, w4, h6, wpIn_ret (k _ _ _ h7)⟩
            . rename_i id; simp only [Option.some.injEq, Prod.mk.injEq] at hf; obtain ⟨rfl, rfl, rfl⟩ := hf; obtain ⟨w4, h6, h7⟩ := post ag1 _ rfl; exact ⟨some (.exit id), w4, h6, wpIn_exit (k _ _ _ h7)⟩
            cases hf
        cases hf
      cases hf
    cases hf
  cases hf
end Go.Fs
namespace Go.Fs
variable {P : Program} {orc : FuncId -> List Value -> Heap -> Option (Value × Heap)} {aR : Option Nat} {fr : Fr} {h : Heap} {Q : Ex -> Fr -> Heap -> Prop}
theorem vH (t : Tr) (d : Nat) (v : Value) (j : Nat) (hd : d < 4000 := by decide) : (t.set depth d v).get j = if j = d then v else t.get j := Tr.dE depth t d v j (by have : 2 ^ depth = 8192 := rfl; omega)
theorem ag2 (n : Nat) (t : Tr) (d : Nat) (v : Value) : put n t (some d) v = bif Nat.blt d n then some (t.set depth d v) else none := rfl
theorem OM (n : Nat) (t : Tr) (v : Value) : put n t none v = some t := rfl
theorem TT (lo : Nat) (l : List (Nat × aU)) : bE lo lo l = [] := by unfold bE; rw [Nat.beq_refl]; rfl
theorem aG {t : TypeId} {d : TypeDesc} (h : P.underlying t = some d) : aC P (underlying t) = some d := by
  unfold underlying; rw [aD]; show (some P).bind _ = _; simp only [Option.bind_some, h]; rfl
theorem u6 {t : TypeId} {i : TypeInfo} (h : P.info? t = some i) : aC P (typeInfo t) = some i := by
  unfold typeInfo; rw [aD]; show (some P).bind _ = _; simp only [Option.bind_some, h]; rfl
theorem gU {t : TypeId} {i : TypeInfo} (h : P.info? t = some i) : aC P (sizeOf t) = some i.size := by
  unfold sizeOf; rw [aD, u6 h]; rfl
structure at5 (P : Program) (T e : TypeId) : Prop where
  sl : P.underlying T = some (.slice e)
  el : P.underlying e = some (.int .i64)
  info : (P.info? e).map (·.size) = some 1
end Go.Fs
namespace Go.Fs
variable {P : Program} {orc : FuncId -> List Value -> Heap -> Option (Value × Heap)} {aR : Option Nat} {h : Heap}
abbrev FL := List (Nat × Value)
section
variable (P orc)
end
variable {ops : Array Oper} {n : Nat} {ms : List Nat} {fl : FL} {Q : Ex -> Fr -> Heap -> Prop} {K : FL -> Heap -> Prop} {l : List Oper}
variable {d : Tmp} {ty : TypeId} {pos : String} {after : Array Edge} {op : Op} {v : Value}
section
variable (P orc)
end
variable {i mem : Nat} {bs : List Nat} {segs : List (Nat × Nat × Nat)} {tail : Bool}
end Go.Fs
namespace Go.Fs
variable {P : Program} {orc : FuncId -> List Value -> Heap -> Option (Value × Heap)} {aR : Option Nat} {h : Heap}
end Go.Fs
namespace Go.Fs
variable {P : Program} {orc : FuncId -> List Value -> Heap -> Option (Value × Heap)} {aR : Option Nat} {h h' h0 h1 h2 : Heap}
def nY (h : Heap) : Prop := ∀ b o, h.get b = some o -> b < h.next
structure eN (h h' : Heap) : Prop where
  next : h.next <= h'.next
  get : ∀ b, b < h.next -> h'.get b = h.get b
  ok : nY h -> nY h'
  low : ∀ e, e <= h.low -> e <= h.next -> e <= h'.low
theorem eN.refl (h : Heap) : eN h h := ⟨Nat.le_refl _, fun _ _ => rfl, fun x => x, fun _ x _ => x⟩
theorem eN.trans (a : eN h h1) (b : eN h1 h2) : eN h h2 where
  next := Nat.le_trans a.next b.next
  get := fun i hi => (b.get i (Nat.lt_of_lt_of_le hi a.next)).trans (a.get i hi)
  ok := fun x => b.ok (a.ok x)
  low := fun e h3 h4 => b.low e (a.low e h3 h4) (Nat.le_trans h4 a.next)
theorem eN.push (h : Heap) (o : aU) : eN h (h.push o) where
  next := Nat.le_succ _
  get := fun b hb => by rw [Heap.bB, if_neg (by omega)]
  ok := fun x b o' hg => by
    rw [Heap.bB] at hg; split at hg
    . rename_i e; rw [e]; exact Nat.lt_succ_self _
    exact Nat.lt_succ_of_lt (x b o' hg)
  low := fun e h3 _ => h3
def entry (h : Heap) : Heap := { next := h.next, low := h.next, aB := h.aB }
end Go.Fs
namespace Go.Fs
variable {P : Program} {h h' h0 : Heap}
structure SlT (P : Program) (T e : TypeId) (s : Nat) : Prop where
  sl : P.underlying T = some (.slice e)
  info : ∃ i z, P.info? e = some i /\ i.size = s /\ 0 < i.bytes /\ i.bytes <= 4096 /\ i.zero = some z /\ z.cells.size = s /\ z.cells.toList.all dQ = true
  pos : 0 < s
def slB (P : Program) (T e : TypeId) (s : Nat) : Bool :=
  match P.underlying T, P.info? e with
  | some (.slice e'), some i => match i.zero with
    | some z => Nat.beq e' e && Nat.beq i.size s && Nat.blt 0 i.bytes && Nat.ble i.bytes 4096 && Nat.beq z.cells.size s && z.cells.toList.all dQ && Nat.blt 0 s
    | none => false
  | _, _ => false
theorem akJ {T e : TypeId} {s : Nat} (h : slB P T e s = true) : SlT P T e s := by
  unfold slB at h; split at h
  . rename_i e' i hu hi; split at h
    . rename_i z hz; obtain ⟨h, h7⟩ := aT h; obtain ⟨h, h6⟩ := aT h; obtain ⟨h, h5⟩ := aT h; obtain ⟨h, h4⟩ := aT h; obtain ⟨h, h3⟩ := aT h; obtain ⟨h1, h2⟩ := aT h; have := bD h1; subst this; exact ⟨hu, ⟨i, z, hi, bD h2, iH h3, eP h4, hz, bD h5, h6⟩, iH h7⟩
    cases h
  cases h
def lP : Nat -> List Value -> List (Nat × Value)
  | _, [] => []
  | k, v :: r => (k, v) :: lP (k + 1) r
end Go.Fs
namespace Go.Fs
variable {P : Program} {orc : FuncId -> List Value -> Heap -> Option (Value × Heap)} {h : Heap} {ops : Array Oper} {n i mem : Nat} {fl : FL} {K : FL -> Heap -> Prop} {l : List Oper} {bs : List Nat} {segs : List (Nat × Nat × Nat)} {tail : Bool}
  {d : Tmp} {ty : TypeId} {pos : String} {after : Array Edge}
theorem zP {lo hi : Nat} (l : List (Nat × aU)) (b : Nat) (h1 : lo <= b) (h2 : b < hi) : look (bE lo hi l) b = look l b := by
  unfold bE; rw [dO (show lo ≠ hi by omega)]; simp only [cond_false]
  induction l with
  | nil => rfl
  | cons p r ih =>
    obtain ⟨k, o⟩ := p; rw [List.filter_cons]; by_cases hk : k = b
    . subst hk
      have : inside lo hi (k, o) = true := by
        unfold inside
        have e1 : Nat.ble lo k = true := by rw [Nat.ble_eq]; exact h1
        have e2 : Nat.blt k hi = true := by show Nat.ble (k + 1) hi = true; rw [Nat.ble_eq]; omega
        simp only [e1, e2, Bool.and_self]
      rw [if_pos this]; simp [look]
    split
    . simp only [look, dO hk, cond_false, ih]
    simp only [look, dO hk, cond_false, ih]
structure Left (h h' h2 : Heap) : Prop where
  next : h2.next = h'.next
  low : h2.low = h.low
  old : ∀ b, b < h.next -> h2.get b = h.get b
  new : ∀ b, h.next <= b -> h2.get b = h'.get b
end Go.Fs
namespace Go.Fs
variable {P : Program} {orc : FuncId -> List Value -> Heap -> Option (Value × Heap)} {h h' : Heap} {ops : Array Oper} {n i mem : Nat} {fl : FL} {K : FL -> Heap -> Prop} {l : List Oper} {bs : List Nat} {segs : List (Nat × Nat × Nat)} {tail : Bool}
  {d : Tmp} {ty : TypeId} {pos : String} {after : Array Edge} {op : Op} {v : Value}
end Go.Fs
namespace Go.Fs
variable {P : Program} {h h' h0 h1 h2 : Heap} {S S' : List Nat}
inductive Ty where
  | int (k : IntKind)
  | bool
  | str
  | bJ (k : FloatKind)
  | sl (e : Ty)
  | pair (a b : Ty)
  | unit
  | mp (a b : Ty)
  | fn
  | mQ
@[reducible] def Ty.den : Ty -> Type
  | .int _ => Int
  | .bool => Bool
  | .str => ByteArray
  | .bJ _ => Nat
  | .sl e => List e.den
  | .pair a b => a.den × b.den
  | .unit => Unit
  | .mp a b => List (a.den × b.den)
  | .fn => Option Nat
  | .mQ => Option (Nat × Nat)
def Ty.size : Ty -> Nat
  | .pair a b => a.size + b.size
  | .unit => 0
  | _ => 1
def Ty.agg : Ty -> Bool
  | .pair _ _ | .unit => true
  | _ => false
def SlC (h : Heap) (S : List Nat) {α : Type} (s : Nat) (R : List Value -> α -> Prop) (v : Value) (xs : List α) : Prop :=
  (v = .slice none 0 0 /\ xs = []) \/ ∃ b o mk, v = .slice (some ⟨b, o, none⟩) xs.length mk /\
    (xs = [] \/ (b ∉ S /\ ∃ e' rs own more, h.get b = some (.row e' rs own more) /\ o + xs.length * s <= rs.length /\ ∀ i (hi : i < xs.length), R ((rs.drop (o + i * s)).take s) xs[i]))
def YC (h : Heap) (S : List Nat) {α β : Type} (K : Value -> α -> Prop) (R : Value -> β -> Prop) (v : Value) (nC : List (α × β)) : Prop :=
  (v = .map none /\ nC = []) \/ ∃ b es clock, v = .map (some b) /\ b ∉ S /\ h.get b = some (.qA es clock) /\ es.length = nC.length /\ ∀ i (hi : i < nC.length) (hj : i < es.length), K es[i].key nC[i].1 /\ R es[i].val nC[i].2
def fL : Value -> Bool
  | .agg _ => true
  | _ => false
def TU : Option Nat -> Value
  | none => .nilFunc
  | some f => .func (.func f) #[] #[]
def CU : Option (Nat × Nat) -> Value
  | none => .slice none 0 0
  | some (b, n) => .slice (some ⟨b, 0, none⟩) n 0
def cG (h : Heap) (S : List Nat) : (τ : Ty) -> List Value -> τ.den -> Prop
  | .int k, cs, x => cs = [.int k x]
  | .bool, cs, x => cs = [.bool x]
  | .str, cs, x => cs = [.string x]
  | .bJ k, cs, x => cs = [.float k x]
  | .sl e, cs, xs => ∃ v, cs = [v] /\ SlC h S e.size (cG h S e) v xs
  | .pair a b, cs, x => cG h S a (cs.take a.size) x.1 /\ cG h S b (cs.drop a.size) x.2
  | .unit, cs, _ => cs = []
  | .mp a b, cs, x => ∃ v, cs = [v] /\ YC h S (fun k y => fL k = a.agg /\ cG h S a k.cells.toList y) (fun u y => fL u = b.agg /\ cG h S b u.cells.toList y) v x
  | .fn, cs, f => cs = [TU f]
  | .mQ, cs, f => cs = [CU f]
def aE (h : Heap) (S : List Nat) (τ : Ty) (v : Value) (x : τ.den) : Prop := fL v = τ.agg /\ cG h S τ v.cells.toList x
theorem fA {v : Value} (hv : fL v = false) : v.cells = #[v] := by
  cases v with
  | agg cs => cases hv
  | _ => rfl
theorem aE.int {k : IntKind} {v : Value} {x : Int} (hv : aE h S (.int k) v x) : v = .int k x := by
  obtain ⟨h1, h2⟩ := hv; rw [fA h1] at h2; simpa [cG] using h2
theorem aE.bool {v : Value} {x : Bool} (hv : aE h S .bool v x) : v = .bool x := by
  obtain ⟨h1, h2⟩ := hv; rw [fA h1] at h2; simpa [cG] using h2
theorem aE.str {v : Value} {x : ByteArray} (hv : aE h S .str v x) : v = .string x := by
  obtain ⟨h1, h2⟩ := hv; rw [fA h1] at h2; simpa [cG] using h2
theorem aE.bJ {k : FloatKind} {v : Value} {x : Nat} (hv : aE h S (.bJ k) v x) : v = .float k x := by
  obtain ⟨h1, h2⟩ := hv; rw [fA h1] at h2; simpa [cG] using h2
theorem aE.ofInt (k : IntKind) (x : Int) : aE h S (.int k) (.int k x) x := ⟨rfl, rfl⟩
theorem aE.ofBool (x : Bool) : aE h S .bool (.bool x) x := ⟨rfl, rfl⟩
theorem aE.ofStr (x : ByteArray) : aE h S .str (.string x) x := ⟨rfl, rfl⟩
theorem aE.yH (k : FloatKind) (x : Nat) : aE h S (.bJ k) (.float k x) x := ⟨rfl, rfl⟩
def kE (h : Heap) (S : List Nat) (τ : Ty) (v : Value) (xs : List τ.den) : Prop := SlC h S τ.size (cG h S τ) v xs
theorem aE.sl {τ : Ty} {v : Value} {xs : List τ.den} (hv : aE h S (.sl τ) v xs) : kE h S τ v xs := by
  obtain ⟨h1, h2⟩ := hv; rw [fA h1] at h2; obtain ⟨u, h3, h4⟩ := h2; simp only [List.cons.injEq, and_true] at h3; subst h3; exact h4
theorem kE.agg {τ : Ty} {v : Value} {xs : List τ.den} (hv : kE h S τ v xs) : fL v = false := by
  rcases hv with ⟨rfl, _⟩ | ⟨b, o, mk, rfl, _⟩ <;> rfl
theorem kE.rep {τ : Ty} {v : Value} {xs : List τ.den} (hv : kE h S τ v xs) : aE h S (.sl τ) v xs :=
  ⟨hv.agg, by rw [fA hv.agg]; exact ⟨v, rfl, hv⟩⟩
theorem kE.nil {τ : Ty} : kE h S τ (.slice none 0 0) [] := .inl ⟨rfl, rfl⟩
def dC (h : Heap) (S : List Nat) (h' : Heap) (S' : List Nat) : Prop := ∀ b o, h.get b = some o -> b ∉ S -> h'.get b = some o /\ b ∉ S'
theorem dC.trans {S'' : List Nat} (a : dC h S h1 S') (b : dC h1 S' h2 S'') : dC h S h2 S'' := fun i o h1 h2 => let ⟨h3, h4⟩ := a i o h1 h2; b i o h3 h4
theorem dC.less (hs : ∀ b, b ∈ S' -> b ∈ S) : dC h S h S' := fun _ _ h1 h2 => ⟨h1, fun h3 => h2 (hs _ h3)⟩
theorem dC.aB (hg : ∀ b, h'.get b = h.get b) : dC h S h' S := fun b _ h1 h2 => ⟨by rw [hg]; exact h1, h2⟩
theorem eN.nx (a : eN h h') (aZ : nY h) : dC h S h' S := fun b o h1 h2 => ⟨by rw [a.get b (aZ b o h1)]; exact h1, h2⟩
theorem SlC.nx {α : Type} {s : Nat} {R R' : List Value -> α -> Prop} (hN : dC h S h' S') (hR : ∀ cs x, R cs x -> R' cs x) {v : Value} {xs : List α} (hv : SlC h S s R v xs) : SlC h' S' s R' v xs := by
  rcases hv with hv | ⟨b, o, mk, h1, h2⟩
  . exact .inl hv
  refine .inr ⟨b, o, mk, h1, ?_⟩; rcases h2 with h2 | ⟨h2, e', rs, own, more, h3, h4, h5⟩
  . exact .inl h2
  obtain ⟨h6, h7⟩ := hN b _ h3 h2; exact .inr ⟨h7, e', rs, own, more, h6, h4, fun i hi => hR _ _ (h5 i hi)⟩
theorem YC.nx {α β : Type} {K K' : Value -> α -> Prop} {R R' : Value -> β -> Prop} (hN : dC h S h' S') (hK : ∀ u x, K u x -> K' u x) (hR : ∀ u x, R u x -> R' u x) {v : Value} {nC : List (α × β)} (hv : YC h S K R v nC) : YC h' S' K' R' v nC := by
  rcases hv with hv | ⟨b, es, c, h1, h2, h3, h4, h5⟩
  . exact .inl hv
  obtain ⟨h6, h7⟩ := hN b _ h3 h2; exact .inr ⟨b, es, c, h1, h7, h6, h4, fun i hi hj => ⟨hK _ _ (h5 i hi hj).1, hR _ _ (h5 i hi hj).2⟩⟩
theorem cG.nx (hN : dC h S h' S') : ∀ {τ : Ty} {cs : List Value} {x : τ.den}, cG h S τ cs x -> cG h' S' τ cs x := by
  intro τ
  induction τ with
  | int k => exact fun hx => hx
  | bool => exact fun hx => hx
  | str => exact fun hx => hx
  | bJ k => exact fun hx => hx
  | unit => exact fun hx => hx
  | pair a b wZ x3 => exact fun hx => ⟨wZ hx.1, x3 hx.2⟩
  | sl e ih =>
    rintro cs x ⟨v, h1, h2⟩
    exact ⟨v, h1, h2.nx hN fun cs x hx => ih hx⟩
  | fn => exact fun hx => hx
  | mQ => exact fun hx => hx
  | mp a b wZ x3 =>
    rintro cs x ⟨v, h1, h2⟩; exact ⟨v, h1, h2.nx hN (fun u x hx => ⟨hx.1, wZ hx.2⟩) fun u x hx => ⟨hx.1, x3 hx.2⟩⟩
theorem aE.nx {τ : Ty} {v : Value} {x : τ.den} (hv : aE h S τ v x) (hN : dC h S h' S') : aE h' S' τ v x := ⟨hv.1, hv.2.nx hN⟩
theorem cG.len : ∀ {τ : Ty} {cs : List Value} {x : τ.den}, cG h S τ cs x -> cs.length = τ.size := by
  intro τ
  induction τ with
  | int k => rintro cs x rfl; rfl
  | bool => rintro cs x rfl; rfl
  | str => rintro cs x rfl; rfl
  | bJ k => rintro cs x rfl; rfl
  | unit => rintro cs x rfl; rfl
  | sl e ih => rintro cs x ⟨v, rfl, _⟩; rfl
  | fn => rintro cs x rfl; rfl
  | mQ => rintro cs x rfl; rfl
  | mp a b _ _ => rintro cs x ⟨v, rfl, _⟩; rfl
  | pair a b wZ x3 =>
    rintro cs x ⟨h1, h2⟩; have e1 := wZ h1; have e2 := x3 h2; rw [List.length_take] at e1; rw [List.length_drop] at e2; show cs.length = a.size + b.size; omega
def MpV (h : Heap) (S : List Nat) (a b : Ty) (v : Value) (nC : List (a.den × b.den)) : Prop := YC h S (aE h S a) (aE h S b) v nC
theorem YC.agg {α β : Type} {K : Value -> α -> Prop} {R : Value -> β -> Prop} {v : Value} {nC : List (α × β)} (hv : YC h S K R v nC) : fL v = false := by
  rcases hv with ⟨rfl, _⟩ | ⟨b, es, c, rfl, _⟩ <;> rfl
theorem MpV.rep {a b : Ty} {v : Value} {nC : List (a.den × b.den)} (hv : MpV h S a b v nC) : aE h S (.mp a b) v nC :=
  ⟨hv.agg, by rw [fA hv.agg]; exact ⟨v, rfl, hv⟩⟩
theorem TV (f : Option Nat) : fL (TU f) = false := by cases f <;> rfl
theorem ON (f : Option (Nat × Nat)) : fL (CU f) = false := by cases f <;> rfl
theorem aE.anX (f : Option (Nat × Nat)) : aE h S .mQ (CU f) f := ⟨ON f, by rw [fA (ON f)]; rfl⟩
theorem aE.ofFn (f : Option Nat) : aE h S .fn (TU f) f := ⟨TV f, by rw [fA (TV f)]; rfl⟩
theorem cG.one {τ : Ty} {cs : List Value} {x : τ.den} (ht : τ.agg = false) (hx : cG h S τ cs x) : ∃ v, cs = [v] /\ aE h S τ v x := by
  cases τ with
  | int k => exact ⟨_, hx, rfl, rfl⟩
  | bool => exact ⟨_, hx, rfl, rfl⟩
  | str => exact ⟨_, hx, rfl, rfl⟩
  | bJ k => exact ⟨_, hx, rfl, rfl⟩
  | sl e =>
    obtain ⟨v, h1, h2⟩ := hx
    exact ⟨v, h1, kE.rep h2⟩
  | mp a b =>
    obtain ⟨v, h1, h2⟩ := hx
    exact ⟨v, h1, MpV.rep h2⟩
  | fn => exact ⟨_, hx, aE.ofFn _⟩
  | mQ => exact ⟨_, hx, aE.anX _⟩
  | pair a b => cases ht
  | unit => cases ht
theorem Ty.qN {τ : Ty} (ht : τ.agg = false) : τ.size = 1 := by
  cases τ <;> first | rfl | cases ht
theorem aE.last {a : Ty} {u : Value} {x : a.den} (ht : a.agg = false) (h1 : aE h S a u x) : cG h S a [u] x := by
  have hu := h1.2; rw [fA (h1.1.trans ht)] at hu; exact hu
structure fW (P : Program) (T e : TypeId) (τ : Ty) : Prop where
  sl : SlT P T e τ.size
  agg : ∃ d, P.underlying e = some d /\ wC d = τ.agg
def elB (P : Program) (T e : TypeId) (τ : Ty) : Bool := slB P T e τ.size && (match P.underlying e with | some d => wC d == τ.agg | none => false)
theorem u7 {T e : TypeId} {τ : Ty} (hb : elB P T e τ = true) : fW P T e τ := by
  unfold elB at hb; obtain ⟨h1, h2⟩ := aT hb; refine ⟨akJ h1, ?_⟩; split at h2
  . rename_i d hd; exact ⟨d, hd, by simpa using h2⟩
  cases h2
theorem kE.len {T e : TypeId} {τ : Ty} (hT : fW P T e τ) {v : Value} {xs : List τ.den} (hv : kE h S τ v xs) (h' : Heap) : pC P #[T] v h' = some (.int .i64 (xs.length : Nat)) := by
  rcases hv with ⟨rfl, rfl⟩ | ⟨b, o, mk, rfl, _⟩
  . simp [pC, hT.sl.sl]
  simp [pC, hT.sl.sl]
def fM (v : Value) (s j : Nat) : Value :=
  match v with
  | .slice (some ⟨b, o, none⟩) _ _ => .pointer (some ⟨b, o + j * s, none⟩)
  | _ => undef
def nZ (h : Heap) (S : List Nat) (τ : Ty) (p : Value) (x : τ.den) : Prop :=
  ∃ b o e rs own more, p = .pointer (some ⟨b, o, none⟩) /\ b ∉ S /\ h.get b = some (.row e rs own more) /\ o + τ.size <= rs.length /\ cG h S τ ((rs.drop o).take τ.size) x
theorem nZ.nx {τ : Ty} {p : Value} {x : τ.den} (hp : nZ h S τ p x) (hN : dC h S h' S') : nZ h' S' τ p x := by
  obtain ⟨b, o, e, rs, own, more, h1, h2, h3, h4, h5⟩ := hp; obtain ⟨h6, h7⟩ := hN b _ h3 h2; exact ⟨b, o, e, rs, own, more, h1, h7, h6, h4, h5.nx hN⟩
theorem kE.row {τ : Ty} {v : Value} {xs : List τ.den} (hv : kE h S τ v xs) (hj : 0 < xs.length) : ∃ b o mk e' rs own more, v = .slice (some ⟨b, o, none⟩) xs.length mk /\ b ∉ S /\ h.get b = some (.row e' rs own more) /\ o + xs.length * τ.size <= rs.length /\
    ∀ i (hi : i < xs.length), cG h S τ ((rs.drop (o + i * τ.size)).take τ.size) xs[i] := by
  rcases hv with ⟨rfl, rfl⟩ | ⟨b, o, mk, rfl, h2⟩
  . simp at hj
  rcases h2 with rfl | ⟨h2, e', rs, own, more, h3, h4, h5⟩
  . simp at hj
  exact ⟨b, o, mk, e', rs, own, more, rfl, h2, h3, h4, h5⟩
theorem kE.at {τ : Ty} {v : Value} {xs : List τ.den} (hv : kE h S τ v xs) {j : Nat} (hj : j < xs.length) : nZ h S τ (fM v τ.size j) xs[j] := by
  obtain ⟨b, o, mk, e', rs, own, more, rfl, h2, h3, h4, h5⟩ := hv.row (by omega); refine ⟨b, o + j * τ.size, e', rs, own, more, rfl, h2, h3, ?_, h5 j hj⟩; have : (j + 1) * τ.size <= xs.length * τ.size := Nat.mul_le_mul_right _ hj; rw [Nat.add_mul] at this; omega
theorem kE.ix {T e : TypeId} {τ : Ty} (hT : fW P T e τ) {v : Value} {xs : List τ.den} (hv : kE h S τ v xs) {j : Nat} (hj : j < xs.length) : aC P (Instr.indexAt T v (.int .i64 (j : Nat))) = some (fM v τ.size j) := by
  obtain ⟨b, o, mk, e', rs, own, more, rfl, h2, h3, h4, h5⟩ := hv.row (by omega); obtain ⟨i, z, CV, cY, _⟩ := hT.sl.info; unfold Instr.indexAt
  have h6 : (0 : Int) <= (j : Int) /\ (j : Int) < (xs.length : Nat) := by omega
  simp only [aD, asIntOf, aK, Option.bind_some, aG hT.sl.sl, if_pos h6, gU CV, cY, sO, Int.toNat_natCast, fM]
structure gQ (P : Program) (e : TypeId) (τ : Ty) : Prop where
  info : ∃ i, P.info? e = some i /\ i.size = τ.size
  agg : ∃ d, P.underlying e = some d /\ wC d = τ.agg
def ab3 (P : Program) (e : TypeId) (τ : Ty) : Bool := (match P.info? e with | some i => Nat.beq i.size τ.size | none => false) && (match P.underlying e with | some d => wC d == τ.agg | none => false)
theorem iY {e : TypeId} {τ : Ty} (hb : ab3 P e τ = true) : gQ P e τ := by
  unfold ab3 at hb; obtain ⟨h1, h2⟩ := aT hb; refine ⟨?_, ?_⟩
  . split at h1
    . rename_i i hi; exact ⟨i, hi, bD h1⟩
    cases h1
  split at h2
  . rename_i d hd; exact ⟨d, hd, by simpa using h2⟩
  cases h2
def pP (h : Heap) (τ : Ty) (p : Value) : Value :=
  match p with
  | .pointer (some ⟨b, o, none⟩) =>
    match h.get b with
    | some (.row _ rs _ _) => if τ.agg then .agg ((rs.drop o).take τ.size).toArray else rs.getD o undef
    | _ => undef
  | _ => undef
theorem take_one {rs : List Value} {o : Nat} (ho : o < rs.length) : (rs.drop o).take 1 = [rs[o]] := by
  rw [List.drop_eq_getElem_cons ho]; rfl
theorem nZ.ag3 {e : TypeId} {τ : Ty} (hT : gQ P e τ) {p : Value} {x : τ.den} (hp : nZ h S τ p x) : eE P e p h = some (pP h τ p) /\ aE h S τ (pP h τ p) x := by
  obtain ⟨b, o, e', rs, own, more, rfl, h2, h3, h4, h5⟩ := hp; obtain ⟨i, hi, hs⟩ := hT.info; obtain ⟨d, hd, ha⟩ := hT.agg; simp only [eE, pP, h3, hd, hi, ha, hs]
  cases hb : τ.agg with
  | true =>
    simp only [if_true, h4]
    refine ⟨trivial, by simpa [fL] using hb.symm, by simpa [Value.cells] using h5⟩
  | false =>
    have h1 := Ty.qN hb; rw [h1] at h4 h5
    have ho : o < rs.length := by omega
    rw [take_one ho] at h5; obtain ⟨u, hu, hv⟩ := h5.one hb; simp only [List.cons.injEq, and_true] at hu; simp only [Bool.false_eq_true, if_false, List.getD_eq_getElem?_getD, List.getElem?_eq_getElem ho, Option.getD_some]; exact ⟨trivial, by rw [hu]; exact hv⟩
theorem nZ.val {τ : Ty} {p : Value} {x : τ.den} (hp : nZ h S τ p x) : aE h S τ (pP h τ p) x := by
  obtain ⟨b, o, e', rs, own, more, rfl, h2, h3, h4, h5⟩ := hp; simp only [pP, h3]
  cases hb : τ.agg with
  | true =>
    simp only [if_true]
    refine ⟨by simpa [fL] using hb.symm, by simpa [Value.cells] using h5⟩
  | false =>
    have h1 := Ty.qN hb; rw [h1] at h4 h5
    have ho : o < rs.length := by omega
    rw [take_one ho] at h5; obtain ⟨u, hu, hv⟩ := h5.one hb; simp only [List.cons.injEq, and_true] at hu; simp only [Bool.false_eq_true, if_false, List.getD_eq_getElem?_getD, List.getElem?_eq_getElem ho, Option.getD_some]; rw [hu]; exact hv
def kF (p : Value) (k : Nat) : Value :=
  match p with
  | .pointer (some ⟨b, o, none⟩) => .pointer (some ⟨b, o + k, none⟩)
  | _ => undef
def j9 (P : Program) (s : TypeId) (f k : Nat) : Bool :=
  match P.underlying s with
  | some (.struct fs) => match fs[f]? with
    | some fd => Nat.beq fd.offset k && (match P.info? fd.type with | some i => Nat.blt 0 i.size | none => false)
    | none => false
  | _ => false
theorem nZ.fa {s : TypeId} {f k : Nat} {τ : Ty} {p : Value} {x : τ.den} (hp : nZ h S τ p x) (hb : j9 P s f k = true) : aC P (Instr.fieldAt s p f) = some (kF p k) := by
  obtain ⟨b', o, e', rs, own, more, rfl, h2, h3, h4, h5⟩ := hp; unfold j9 at hb; split at hb
  . rename_i fs hfs; split at hb
    . rename_i fd hfd; obtain ⟨h6, h7⟩ := aT hb; split at h7
      . rename_i i hi; have h8 := iH h7; have h9 := bD h6; unfold Instr.fieldAt; simp only [aD, aG hfs, Option.bind_some, hfd]; show (aC P (Instr.sureAddr _)).bind _ = _; simp only [Instr.sureAddr, aK, Option.bind_some, aD, fieldPlace, gU hi]; rw [if_neg (by omega)]; simp only [aK, Option.bind_some, sO, h9, kF]
      cases h7
    cases hb
  cases hb
end Go.Fs
namespace Go.Fs
variable {P : Program} {h h' h0 h1 h2 : Heap} {S S' S0 : List Nat}
theorem OO (off : Nat) : ∀ (us : List Value) (j : Nat) (pre mid post : List Value), pre.length = off + j -> mid.length = us.length ->
    (us.zipIdx j).foldl (fun (cs : Array Value) (p : Value × Nat) => cs.setIfInBounds (off + p.2) p.1) (pre ++ mid ++ post).toArray = (pre ++ us ++ post).toArray
  | [], j, pre, mid, post, _, hm => by
    have : mid = [] := List.eq_nil_of_length_eq_zero hm; subst this
    rfl
  | u :: us, j, pre, [], post, _, hm => by simp at hm
  | u :: us, j, pre, m :: mid, post, hp, hm => by
    simp only [List.zipIdx_cons, List.foldl_cons]
    have h1 : (pre ++ (m :: mid) ++ post).toArray.setIfInBounds (off + j) u = ((pre ++ [u]) ++ mid ++ post).toArray := by
      rw [<- hp]; simp
    rw [h1, OO off us (j + 1) (pre ++ [u]) mid post (by simp; omega) (by simpa using hm)]; simp
theorem CW (s off : Nat) (u : Value) (pre mid post : List Value) (hp : pre.length = off) (hm : mid.length = s) (hu : u.cells.size = s) :
    u.cells.zipIdx.foldl (fun (cs : Array Value) (p : Value × Nat) => cs.setIfInBounds (off + p.2) p.1) (pre ++ mid ++ post).toArray = (pre ++ u.cells.toList ++ post).toArray := by
  have := OO off u.cells.toList 0 pre mid post (by omega) (by simp; omega); rw [<- this, <- Array.foldl_toList, Array.toList_zipIdx]
def flat (vs : List Value) : List Value := vs.flatMap fun v => v.cells.toList
theorem OP (s : Nat) : ∀ (vs : List Value) (k : Nat) (pre rest : List Value), (∀ v ∈ vs, v.cells.size = s) -> pre.length = k * s -> rest.length = vs.length * s ->
    Instr.fill (fun i => some (i * s, s)) (pre ++ rest).toArray (lP k vs) = some (pre ++ flat vs).toArray
  | [], k, pre, rest, _, _, hr => by
    have : rest = [] := List.eq_nil_of_length_eq_zero (by simpa using hr); subst this
    rfl
  | v :: vs, k, pre, rest, hc, hp, hr => by
    have hv := hc v List.mem_cons_self; simp only [lP, Instr.fill, hv]
    have hr' : rest.length = vs.length * s + s := by rw [hr, List.length_cons, Nat.add_mul]; omega
    have h2 : (decide (s ≠ s) || decide (k * s + s > (pre ++ rest).toArray.size)) = false := by simp; omega
    rw [show (s ≠ s || k * s + s > (pre ++ rest).toArray.size) = false from h2]; simp only [Bool.false_eq_true, if_false]; have h3 := CW s (k * s) v pre (rest.take s) (rest.drop s) hp (by rw [List.length_take]; omega) hv; rw [List.append_assoc, List.take_append_drop] at h3; have h4 : v.cells.zipIdx.foldl (fun cs (c, j) => cs.setIfInBounds (k * s + j) c) (pre ++ rest).toArray = (pre ++ v.cells.toList ++ rest.drop s).toArray := h3; rw [h4, OP s vs (k + 1) (pre ++ v.cells.toList) (rest.drop s) (fun u hu => hc u (List.mem_cons_of_mem _ hu)) (by simp [hv, hp, Nat.add_mul]) (by rw [List.length_drop]; omega)]; simp [flat]
theorem aE.tC {τ : Ty} {u : Value} {x : τ.den} (hu : aE h S τ u x) : u.cells.size = τ.size := by simpa using hu.2.len
theorem cG.kA : ∀ {τ : Ty} {cs : List Value} {x : τ.den}, cG h S τ cs x -> cs.all aN = true := by
  intro τ
  induction τ with
  | int k => rintro cs x rfl; rfl
  | bool => rintro cs x rfl; rfl
  | str => rintro cs x rfl; rfl
  | bJ k => rintro cs x rfl; rfl
  | unit => rintro cs x rfl; rfl
  | sl e ih =>
    rintro cs x ⟨v, rfl, h2⟩
    rcases h2 with ⟨rfl, _⟩ | ⟨b, o, mk, rfl, _⟩ <;> rfl
  | fn => rintro cs x rfl; cases x <;> rfl
  | mQ => rintro cs x rfl; cases x <;> rfl
  | mp a b _ _ =>
    rintro cs x ⟨v, rfl, h2⟩
    rcases h2 with ⟨rfl, _⟩ | ⟨b, es, c, rfl, _⟩ <;> rfl
  | pair a b wZ x3 =>
    rintro cs x ⟨h1, h2⟩; have e1 := wZ h1; have e2 := x3 h2; rw [<- List.take_append_drop a.size cs, List.all_append, e1, e2]; rfl
def bC (h : Heap) (S : List Nat) (τ : Ty) (rs : List Value) (xs : List τ.den) : Prop := rs.length = xs.length * τ.size /\ ∀ i (hi : i < xs.length), cG h S τ ((rs.drop (i * τ.size)).take τ.size) xs[i]
theorem bC.nx {τ : Ty} {rs : List Value} {xs : List τ.den} (he : bC h S τ rs xs) (hN : dC h S h' S') : bC h' S' τ rs xs := ⟨he.1, fun i hi => (he.2 i hi).nx hN⟩
theorem bC.nil {τ : Ty} : bC h S τ [] [] := ⟨by simp, fun i hi => absurd hi (by simp)⟩
theorem bC.append {τ : Ty} {rs KH : List Value} {xs xs' : List τ.den} (he : bC h S τ rs xs) (lT : bC h S τ KH xs') : bC h S τ (rs ++ KH) (xs ++ xs') := by
  refine ⟨by rw [List.length_append, List.length_append, he.1, lT.1, Nat.add_mul], fun i hi => ?_⟩; by_cases h1 : i < xs.length
  . have h2 : (i + 1) * τ.size <= xs.length * τ.size := Nat.mul_le_mul_right _ h1; rw [Nat.add_mul] at h2
    have h3 : i * τ.size <= rs.length := by rw [he.1]; omega
    rw [List.getElem_append_left h1, List.drop_append_of_le_length h3, List.take_append_of_le_length (by rw [List.length_drop, he.1]; omega)]; exact he.2 i h1
  have nQ : xs.length <= i := by omega
  have h2 : i - xs.length < xs'.length := by rw [List.length_append] at hi; omega
  rw [List.getElem_append_right nQ]
  have h3 : (rs ++ KH).drop (i * τ.size) = KH.drop ((i - xs.length) * τ.size) := by
    have h4 : i * τ.size = rs.length + (i - xs.length) * τ.size := by rw [he.1, <- Nat.add_mul]; congr 1; omega
    rw [h4, List.drop_append, List.drop_eq_nil_of_le (by omega), Nat.add_sub_cancel_left, List.nil_append]
  rw [h3]; exact lT.2 _ h2
theorem bC.one {τ : Ty} {u : Value} {x : τ.den} (hu : aE h S τ u x) : bC h S τ u.cells.toList [x] := by
  refine ⟨by simpa using hu.tC, fun i hi => ?_⟩
  have : i = 0 := by simpa using hi
  subst this; simp only [Nat.zero_mul, List.drop_zero, List.getElem_cons_zero]; rw [List.take_of_length_le (by rw [Array.length_toList, hu.tC]; exact Nat.le_refl _)]; exact hu.2
theorem bC.kA {τ : Ty} : ∀ (xs : List τ.den) (rs : List Value), bC h S τ rs xs -> rs.all aN = true := by
  intro xs
  induction xs with
  | nil => intro rs he; have := he.1; simp at this; subst this; rfl
  | cons x xs ih =>
    intro rs he; have h1 := he.2 0 (by simp); simp only [Nat.zero_mul, List.drop_zero, List.getElem_cons_zero] at h1
    have h2 : bC h S τ (rs.drop τ.size) xs := by
      refine ⟨by rw [List.length_drop, he.1, List.length_cons, Nat.add_mul]; omega, fun i hi => ?_⟩; have := he.2 (i + 1) (by simpa using hi); rw [List.drop_drop]; rw [Nat.add_mul, Nat.one_mul, List.getElem_cons_succ] at this
      rwa [Nat.add_comm]
    rw [<- List.take_append_drop τ.size rs, List.all_append, h1.kA, ih _ h2]; rfl
theorem bC.slv {τ : Ty} {e' : TypeId} {rs : List Value} {xs : List τ.den} {own more : Bool} {b mk : Nat} (he : bC h S τ rs xs) (hg : h.get b = some (.row e' rs own more)) (hb : b ∉ S) : kE h S τ (.slice (some ⟨b, 0, none⟩) xs.length mk) xs :=
  .inr ⟨b, 0, mk, rfl, .inr ⟨hb, e', rs, own, more, hg, by rw [he.1]; omega, fun i hi => by rw [Nat.zero_add]; exact he.2 i hi⟩⟩
theorem vs1 {τ : Ty} {u : Value} {x : τ.den} (h1 : aE h S τ u x) : ∀ i (hi : i < [u].length) (hx : i < [x].length), aE h S τ [u][i] [x][i] := by
  intro i hi hx
  match i, hi with
  | 0, _ => exact h1
theorem ag4 {T e : TypeId} {τ : Ty} (hT : fW P T e τ) {vs : List Value} {xs : List τ.den} (hl : vs.length = xs.length) (hv : ∀ i (hi : i < vs.length) (hx : i < xs.length), aE h S τ vs[i] xs[i]) (h0 : vs ≠ []) (cY : vs.length <= 1000) (HW : τ.size <= 100) (h2 : Heap) :
    iF P T vs.length (lP 0 vs).toArray h2 = some (.slice (some ⟨h2.next, 0, none⟩) vs.length 0, h2.push (.row e (flat vs) true false)) := by
  obtain ⟨i, z, h1, wT, _, _, h3, h4, h5⟩ := hT.sl.info; have tA : 0 < vs.length := List.length_pos_iff.2 h0
  have hc : ∀ v ∈ vs, v.cells.size = τ.size /\ v.cells.toList.all aN = true := by
    intro v hm; obtain ⟨k, hk, rfl⟩ := List.getElem_of_mem hm; have := hv k hk (by omega); exact ⟨this.tC, this.2.kA⟩
  unfold iF; have hb : Nat.beq vs.length 0 = false := dO (by omega); simp only [hT.sl.sl, h1, hb, cond_false, h3, wT]
  have iX : ∀ (k : Nat) (l : List Value), (∀ v ∈ l, v.cells.size = τ.size /\ v.cells.toList.all aN = true) -> ((lP k l).all fun p => p.2.cells.toList.all aN) = true := by
    intro k l
    induction l generalizing k with
    | nil => intro _; rfl
    | cons u l ih =>
      intro hl; have hu := hl u List.mem_cons_self; have hr := ih (k + 1) fun w hw => hl w (List.mem_cons_of_mem _ hw); simp only [lP, List.all_cons, hu.2, Bool.true_and]; exact hr
  have hcc : (Nat.ble (vs.length * τ.size) 16777216 && Nat.blt 0 τ.size && z.cells.toList.all dQ && (lP 0 vs).all fun p => p.2.cells.toList.all aN) = true := by
    have e1 : Nat.ble (vs.length * τ.size) 16777216 = true := by
      rw [Nat.ble_eq]; have := Nat.mul_le_mul cY HW; omega
    have e2 : Nat.blt 0 τ.size = true := by show Nat.ble 1 τ.size = true; rw [Nat.ble_eq]; exact hT.sl.pos
    rw [e1, e2, h5, iX 0 vs hc]; rfl
  rw [hcc]; simp only [cond_true]; have hf := OP τ.size vs 0 [] ((Array.range (vs.length * τ.size)).map (z.cells[· % z.cells.size]!)).toList (fun v nH => (hc v nH).1) (by simp) (by simp); simp only [List.nil_append, Array.toArray_toList] at hf; rw [hf]
theorem bC.flat {τ : Ty} : ∀ (vs : List Value) (xs : List τ.den), vs.length = xs.length -> (∀ i (hi : i < vs.length) (hx : i < xs.length), aE h S τ vs[i] xs[i]) -> bC h S τ (Fs.flat vs) xs
  | [], [], _, _ => bC.nil
  | v :: vs, x :: xs, hl, hv => by
    have h1 : bC h S τ v.cells.toList [x] := bC.one (hv 0 (by simp) (by simp)); have h2 := bC.flat vs xs (by simpa using hl) fun i hi hx => hv (i + 1) (by simpa using hi) (by simpa using hx)
    exact h1.append h2
  | [], x :: xs, hl, _ => by simp at hl
  | v :: vs, [], hl, _ => by simp at hl
def rT (h : Heap) (S : List Nat) (lo : Nat) (e : TypeId) (m : Bool) (τ : Ty) (v : Value) (xs : List τ.den) : Prop :=
  (v = .slice none 0 0 /\ xs = []) \/ ∃ b rs, b ∈ S /\ lo <= b /\ v = .slice (some ⟨b, 0, none⟩) xs.length 0 /\ h.get b = some (.row e rs true m) /\ bC h S τ rs xs
theorem NS {i : TypeInfo} {z : Value} {k b o n m s : Nat} {e e2 : TypeId} {rs news : List Value} {own more : Bool} (his : i.size = s) (hk : k * s ≠ 0) (hb : h.get b = some (.row e rs own more)) (hn : k <= n) (ho : o + k * s <= rs.length) (anY : (rs.drop o).take (k * s) = news) (hnk : n = k) :
    iN i z (isInt (.slice e2)) (.slice (some ⟨b, o, none⟩) n m) h = some (k, news) := by
  subst hnk; simp only [iN, isInt, cond_false, lB, cellsOf, his, hb]
  have e1 : Nat.ble n n = true := by rw [Nat.ble_eq]; exact Nat.le_refl _
  have e2 : Nat.beq (n * s) 0 = false := dO hk
  have e3 : Nat.ble (o + n * s) rs.length = true := by rw [Nat.ble_eq]; omega
  simp only [e1, cond_true, e2, cond_false, e3, Option.map_some, anY]
theorem rT.len {lo : Nat} {T e : TypeId} {m : Bool} {τ : Ty} {v : Value} {xs : List τ.den} (hg : rT h S lo e m τ v xs) (hT : fW P T e τ) (h' : Heap) : pC P #[T] v h' = some (.int .i64 (xs.length : Nat)) := by
  rcases hg with ⟨rfl, rfl⟩ | ⟨b, rs, h1, h2, rfl, h4, h5⟩
  . simp [pC, hT.sl.sl]
  simp [pC, hT.sl.sl]
end Go.Fs
namespace Go.Fs
variable {P : Program} {orc : FuncId -> List Value -> Heap -> Option (Value × Heap)} {aR : Option Nat} {h h' h0 h1 h2 : Heap} {ops : Array Oper} {n i mem : Nat} {fl : FL} {K : FL -> Heap -> Prop} {l : List Oper} {bs : List Nat} {segs : List (Nat × Nat × Nat)} {tail : Bool}
  {d : Tmp} {ty : TypeId} {pos : String} {after : Array Edge} {op : Op} {v : Value} {S S' S0 : List Nat} {ms : List Nat} {Q : Ex -> Fr -> Heap -> Prop}
theorem aE.box {τ : Ty} {e : TypeId} {u : Value} {x : τ.den} (aZ : nY h) (hS : ∀ b ∈ S, b < h.next) (hx : aE h S τ u x) : nZ (h.push (.row e u.cells.toList true false)) S τ (.pointer (some ⟨h.next, 0, none⟩)) x := by
  have hN : dC h S (h.push (.row e u.cells.toList true false)) S := (eN.push h _).nx aZ; refine ⟨h.next, 0, e, u.cells.toList, true, false, rfl, fun hm => ?_, by rw [Heap.bB, if_pos rfl], by rw [Array.length_toList, hx.tC]; omega, ?_⟩
  . have := hS _ hm; omega
  rw [List.drop_zero, List.take_of_length_le (by rw [Array.length_toList, hx.tC]; exact Nat.le_refl _)]; exact hx.2.nx hN
section
variable {fr : Fr} {id xN : Nat} {b : Code} {I : Nat -> FL -> Heap -> Prop} {k : Nat}
end
theorem cG.vI : ∀ {τ : Ty} {cs : List Value} {x : τ.den}, cs.all dQ = true -> cG h S τ cs x -> cG h' S' τ cs x := by
  intro τ
  induction τ with
  | int k => exact fun _ hx => hx
  | bool => exact fun _ hx => hx
  | str => exact fun _ hx => hx
  | bJ k => exact fun _ hx => hx
  | unit => exact fun _ hx => hx
  | pair a b wZ x3 =>
    intro cs x ha hx; rw [<- List.take_append_drop a.size cs, List.all_append] at ha; obtain ⟨h1, h2⟩ := aT ha
    exact ⟨wZ h1 hx.1, x3 h2 hx.2⟩
  | sl e ih =>
    rintro cs x ha ⟨v, rfl, h2⟩; rcases h2 with h2 | ⟨b, o, mk, rfl, _⟩
    . exact ⟨v, rfl, .inl h2⟩
    cases ha
  | fn => exact fun _ hx => hx
  | mQ => exact fun _ hx => hx
  | mp a b _ _ =>
    rintro cs x ha ⟨v, rfl, h2⟩; rcases h2 with h2 | ⟨b, es, c, rfl, _⟩
    . exact ⟨v, rfl, .inl h2⟩
    cases ha
theorem aE.vI {τ : Ty} {v : Value} {x : τ.den} (hv : aE h S τ v x) (ha : q6 v = true) : aE h' S' τ v x := by
  refine ⟨hv.1, hv.2.vI ?_⟩
  cases v with
  | agg cs => exact ha
  | _ => simpa [Value.cells, q6] using ha
end Go.Fs
namespace Go.Fs
variable {P : Program} {orc : FuncId -> List Value -> Heap -> Option (Value × Heap)} {aR : Option Nat} {h h' h0 h1 h2 hs : Heap} {ops : Array Oper} {n i mem b : Nat} {fl : FL} {K : FL -> Heap -> Prop} {l : List Oper} {bs : List Nat} {segs : List (Nat × Nat × Nat)} {tail : Bool}
  {d : Tmp} {ty : TypeId} {pos : String} {after : Array Edge} {op : Op} {v : Value} {S S' S0 : List Nat}
def mC (hs : Heap) (segs : List (Nat × Nat × Nat)) : Prop := ∀ s ∈ segs, hs.next <= s.2.1
theorem mC.nil : mC hs [] := fun _ h => by cases h
theorem mC.cons {lo hi : Nat} (h1 : hs.next <= lo) (h2 : mC hs segs) : mC hs ((i, lo, hi) :: segs) := fun s hm => by
  rcases List.mem_cons.1 hm with rfl | hm
  . exact h1
  exact h2 s hm
theorem qO {p : Nat × aU -> Bool} {b : Nat} (hp : ∀ o, p (b, o) = true) : ∀ l : List (Nat × aU), look (l.filter p) b = look l b
  | [] => rfl
  | (k, o) :: r => by
    rw [List.filter_cons]; by_cases hk : k = b
    . subst hk; rw [if_pos (hp o)]; simp [look]
    split
    . simp only [look, dO hk, cond_false, qO hp r]
    simp only [look, dO hk, cond_false, qO hp r]
theorem OQ {m lo b : Nat} (hb : b < lo) : ∀ (segs : List (Nat × Nat × Nat)) (aB : List (Nat × aU)), (∀ s ∈ segs, lo <= s.2.1) -> look (mask m segs aB) b = look aB b
  | [], _, _ => rfl
  | (k, l, hi) :: segs, aB, hs => by
    simp only [mask]; rw [OQ hb segs _ fun s hm => hs s (List.mem_cons_of_mem _ hm)]; split
    . rfl
    refine qO (fun o => ?_) aB; have := hs _ List.mem_cons_self; unfold outside; simp only [Bool.not_eq_true', Bool.and_eq_false_iff, decide_eq_false_iff_not]
    left; simp only at this; omega
theorem x4 {m b : Nat} {o : aU} : ∀ (segs : List (Nat × Nat × Nat)) (aB : List (Nat × aU)), look (mask m segs aB) b = some o -> look aB b = some o
  | [], _, h => h
  | (k, l, hi) :: segs, aB, h => by
    simp only [mask] at h; have := x4 segs _ h; split at this
    . exact this
    exact (pL (outside l hi) (fun b => !(decide (l <= b) && decide (b < hi))) (fun _ _ => rfl) aB b o this).1
def msk (m : Nat) (segs : List (Nat × Nat × Nat)) (h : Heap) : Heap := { next := h.next, low := h.next, aB := mask m segs h.aB }
theorem YD {m : Nat} (hA : eN hs h) (hsg : mC hs segs) : eN hs (msk m segs h) where
  next := hA.next
  get := fun b hb => (OQ hb segs h.aB hsg).trans (hA.get b hb)
  ok := fun aZ b o hg => hA.ok aZ b o (x4 segs h.aB hg)
  low := fun e h1 h2 => Nat.le_trans h2 hA.next
theorem oK (a : Nat) : Nat.ble a a = true := by rw [Nat.ble_eq]; exact Nat.le_refl _
theorem KI (a : Nat) : Nat.blt a a = false := by
  cases hx : Nat.blt a a with
  | false => rfl
  | true => have := iH hx; omega
theorem l5 {a b : Nat} (hl : b <= a) : Nat.blt a b = false := by
  cases hx : Nat.blt a b with
  | false => rfl
  | true => have := iH hx; omega
theorem yI {M : Heap} (aZ : nY h) (hM : ∀ b o, M.get b = some o -> h.get b = some o) (hMn : M.next = h.next) (hA : eN M h') (ag5 : nY M) :
    eN h { next := h'.next, low := h.low, aB := bE h.next h'.next h'.aB ++ h.aB } /\ ∀ S, dC h' S { next := h'.next, low := h.low, aB := bE h.next h'.next h'.aB ++ h.aB } S := by
  have hold : ∀ b, b < h.next -> look (bE h.next h'.next h'.aB ++ h.aB) b = look h.aB b := fun b hb => by
    rw [iB]
    cases hl : look (bE h.next h'.next h'.aB) b with
    | none => rfl
    | some o => have := (dS _ _ _ hl).1; omega
  have lD : ∀ b o, h.next <= b -> look h'.aB b = some o -> look (bE h.next h'.next h'.aB ++ h.aB) b = some o := fun b o hb hl => by
    rw [iB]; have bX : b < h'.next := hA.ok ag5 b o hl; rw [zP _ _ hb bX, hl]; rfl
  have fH : h.next <= h'.next := by have := hA.next; omega
  refine ⟨⟨fH, hold, fun _ b o hg => ?_, fun e h1 _ => h1⟩, fun S b o hg hS => ⟨?_, hS⟩⟩
  . by_cases hb : b < h.next
    . exact Nat.lt_of_lt_of_le hb fH
    have gO : look (bE h.next h'.next h'.aB ++ h.aB) b = some o := hg; rw [iB] at gO
    cases hl : look (bE h.next h'.next h'.aB) b with
    | some o' => exact (dS _ _ _ hl).1.2
    | none => rw [hl] at gO; exact absurd (aZ b o gO) hb
  by_cases hb : b < h.next
  . have h3 : M.get b = some o := by rw [<- hA.get b (by omega)]; exact hg
    exact (hold b hb).trans (hM b o h3)
  exact lD b o (by omega) hg
end Go.Fs
namespace Go.Fs
variable {P : Program} {orc : FuncId -> List Value -> Heap -> Option (Value × Heap)} {aR : Option Nat} {h h' h0 h1 h2 hs : Heap} {ops : Array Oper} {n i mem b : Nat} {fl : FL} {K : FL -> Heap -> Prop} {l : List Oper} {bs : List Nat} {segs : List (Nat × Nat × Nat)} {tail : Bool}
  {d : Tmp} {ty : TypeId} {pos : String} {after : Array Edge} {op : Op} {v : Value} {S S' S0 : List Nat} {ms : List Nat} {Q : Ex -> Fr -> Heap -> Prop} {c : Code}
theorem wrap64 {n : Int} (h0 : -9223372036854775808 <= n) (h1 : n <= 9223372036854775807) : IntKind.i64.wrap n = n := by
  unfold IntKind.wrap; simp only [IntKind.bits, IntKind.signed, Bool.true_and]
  have e : (2 ^ 64 : Int) = 18446744073709551616 := by decide
  have e' : (2 ^ (64 - 1) : Int) = 9223372036854775808 := by decide
  simp only [e, e', decide_eq_true_eq, ge_iff_le]; split <;> omega
variable {T T' : TypeId} {x y : Operand} {p q : Int}
end Go.Fs
namespace Go.Fs
variable {P : Program} {orc : FuncId -> List Value -> Heap -> Option (Value × Heap)} {aR : Option Nat} {h h' h0 h1 h2 hs : Heap} {ops : Array Oper} {n i mem b : Nat} {fl : FL} {K : FL -> Heap -> Prop} {l : List Oper} {bs : List Nat} {segs : List (Nat × Nat × Nat)} {tail : Bool}
  {d : Tmp} {ty : TypeId} {pos : String} {after : Array Edge} {op : Op} {v : Value} {S S' S0 : List Nat} {ms : List Nat} {Q : Ex -> Fr -> Heap -> Prop} {c : Code}
def GC (h : Heap) (lo : Nat) (p : Value) (cs : List Value) : Prop := ∃ b e, p = .pointer (some ⟨b, 0, none⟩) /\ lo <= b /\ h.get b = some (.row e cs true false)
theorem GC.ld1 {lo : Nat} {p u : Value} {e : TypeId} {cs : List Value} {k : Nat} {τ : Ty} (hb : GC h lo p cs) (hT : gQ P e τ) (ha : τ.agg = false) (hk : cs[k]? = some u) : eE P e (kF p k) h = some u := by
  obtain ⟨b, e', rfl, h2, h3⟩ := hb; obtain ⟨i, hi, hs⟩ := hT.info; obtain ⟨d, hd, fR⟩ := hT.agg; have h4 : h.get b = some (.row e' cs true false) := h3; simp only [eE, kF, h4, hd, hi, fR, ha, Nat.zero_add, hk]; rfl
theorem GC.fa {lo : Nat} {p : Value} {cs : List Value} {s : TypeId} {f k : Nat} (hp : GC h lo p cs) (hb : j9 P s f k = true) : aC P (Instr.fieldAt s p f) = some (kF p k) := by
  obtain ⟨b', e', rfl, h2, h3⟩ := hp; unfold j9 at hb; split at hb
  . rename_i fs hfs; split at hb
    . rename_i fd hfd; obtain ⟨h6, h7⟩ := aT hb; split at h7
      . rename_i i hi; have h8 := iH h7; have h9 := bD h6; unfold Instr.fieldAt; simp only [aD, aG hfs, Option.bind_some, hfd]; show (aC P (Instr.sureAddr _)).bind _ = _; simp only [Instr.sureAddr, aK, Option.bind_some, aD, fieldPlace, gU hi]; rw [if_neg (by omega)]; simp only [aK, Option.bind_some, sO, h9, kF]
      cases h7
    cases hb
  cases hb
end Go.Fs
namespace Go.Fs
variable {P : Program} {h h' : Heap} {fl : FL} {S : List Nat}
theorem KJ {T : TypeId} {parts : Array (Nat × Value)} {fields : Array Field} {places : Array (Nat × Nat)} {z : Value} (hu : P.underlying T = some (.struct fields)) (hz : aC P (zeroValue T) = some z)
    (hp : aC P (fields.mapM fun f => do pure (f.offset, <- sizeOf f.type)) = some places) {cs : Array Value} (hf : Instr.fill (places[·]?) z.cells parts.toList = some cs) : aC P (Instr.build T parts) = some (.agg cs) := by
  unfold Instr.build; rw [aD, hz]; simp only [Option.bind_some]; rw [aD, aG hu]; simp only [Option.bind_some]; rw [aD, hp]; simp only [Option.bind_some, hf]; rfl
def stB (P : Program) (T : TypeId) (n : Nat) : Bool :=
  match P.underlying T, aC P (zeroValue T) with
  | some (.struct fields), some z =>
    match aC P (fields.mapM fun f => do pure (f.offset, <- sizeOf f.type)) with
    | some places => (places.toList == (List.range n).map fun i => (i, 1)) && Nat.beq z.cells.size n && ((((P.info? T).bind (·.zero)).map fun z => z.cells.toList.all dQ) == some true)
    | none => false
  | _, _ => false
end Go.Fs
namespace Go.Fs
variable {P : Program} {orc : FuncId -> List Value -> Heap -> Option (Value × Heap)} {aR : Option Nat} {h h' h0 h1 h2 hs : Heap} {ops : Array Oper} {n i mem b : Nat} {fl : FL} {K : FL -> Heap -> Prop} {l : List Oper} {bs : List Nat} {segs : List (Nat × Nat × Nat)} {tail : Bool}
  {d : Tmp} {ty : TypeId} {pos : String} {after : Array Edge} {op : Op} {v : Value} {S S' S0 : List Nat} {ms : List Nat} {Q : Ex -> Fr -> Heap -> Prop} {c : Code}
theorem GD {cs us : List Value} (hl : us.length = cs.length) : bF cs 0 us = us := by
  unfold bF; rw [List.take_zero, List.nil_append, Nat.zero_add, hl, List.drop_length, List.append_nil]
theorem KK {τ : Ty} {rs us : List Value} {xs : List τ.den} {x : τ.den} {j : Nat} (he : bC h S τ rs xs) (hj : j < xs.length) (hx : cG h S τ us x) : bC h S τ (bF rs (j * τ.size) us) (xs.set j x) := by
  have CX := hx.len; have qP := he.1; have AG : (j + 1) * τ.size <= xs.length * τ.size := Nat.mul_le_mul_right _ hj; rw [Nat.add_mul, Nat.one_mul] at AG
  have qJ : (rs.take (j * τ.size)).length = j * τ.size := by rw [List.length_take]; omega
  refine ⟨?_, fun i hi => ?_⟩
  . unfold bF; rw [List.length_append, List.length_append, qJ, List.length_drop, List.length_set]; omega
  rw [List.length_set] at hi; have hold := he.2 i hi; unfold bF; rw [List.append_assoc]; by_cases h1 : i < j
  . have h2 : (i + 1) * τ.size <= j * τ.size := Nat.mul_le_mul_right _ h1; rw [Nat.add_mul, Nat.one_mul] at h2; rw [List.getElem_set_ne (by omega), List.drop_append_of_le_length (by omega), List.take_append_of_le_length (by rw [List.length_drop]; omega), List.drop_take, List.take_take, Nat.min_eq_left (by omega)]; exact hold
  by_cases h2 : i = j
  . subst h2
    have e1 : (rs.take (i * τ.size) ++ (us ++ rs.drop (i * τ.size + us.length))).drop (i * τ.size) = us ++ rs.drop (i * τ.size + us.length) := by
      have := List.drop_left' (l₂ := us ++ rs.drop (i * τ.size + us.length)) qJ; exact this
    rw [e1, List.getElem_set_self, List.take_left' CX]; exact hx
  have h3 : (j + 1) * τ.size <= i * τ.size := Nat.mul_le_mul_right _ (by omega); rw [Nat.add_mul, Nat.one_mul] at h3
  have e1 : (rs.take (j * τ.size) ++ (us ++ rs.drop (j * τ.size + us.length))).drop (i * τ.size) = rs.drop (i * τ.size) := by
    rw [List.drop_append, List.drop_eq_nil_of_le (by omega), List.nil_append, qJ, List.drop_append, List.drop_eq_nil_of_le (by omega), List.nil_append, List.drop_drop]; congr 1; omega
  rw [e1, List.getElem_set_ne (by omega)]; exact hold
theorem rT.own {lo : Nat} {e : TypeId} {m : Bool} {τ : Ty} {v : Value} {xs : List τ.den} (hg : rT h S lo e m τ v xs) (h0 : 0 < xs.length) : ∃ b rs, b ∈ S /\ lo <= b /\ v = .slice (some ⟨b, 0, none⟩) xs.length 0 /\ h.get b = some (.row e rs true m) /\ bC h S τ rs xs := by
  rcases hg with ⟨rfl, rfl⟩ | hg
  . simp at h0
  exact hg
theorem rT.ix {lo : Nat} {T e : TypeId} {m : Bool} {τ : Ty} {v : Value} {xs : List τ.den} (hg : rT h S lo e m τ v xs) (hT : fW P T e τ) {j : Nat} (hj : j < xs.length) : aC P (Instr.indexAt T v (.int .i64 (j : Nat))) = some (fM v τ.size j) := by
  obtain ⟨b, rs, _, _, rfl, _, _⟩ := hg.own (by omega); obtain ⟨i, z, CV, cY, _⟩ := hT.sl.info; unfold Instr.indexAt
  have h6 : (0 : Int) <= (j : Int) /\ (j : Int) < (xs.length : Nat) := by omega
  simp only [aD, asIntOf, aK, Option.bind_some, aG hT.sl.sl, if_pos h6, gU CV, cY, sO, Int.toNat_natCast, fM]
theorem rT.ld {lo : Nat} {e : TypeId} {m : Bool} {τ : Ty} {v : Value} {xs : List τ.den} (hg : rT h S lo e m τ v xs) (hT : gQ P e τ) {j : Nat} (hj : j < xs.length) : eE P e (fM v τ.size j) h = some (pP h τ (fM v τ.size j)) /\ aE h S τ (pP h τ (fM v τ.size j)) xs[j] := by
  obtain ⟨b, rs, _, _, rfl, h4, h5⟩ := hg.own (by omega); have AG : (j + 1) * τ.size <= xs.length * τ.size := Nat.mul_le_mul_right _ hj; rw [Nat.add_mul, Nat.one_mul] at AG; have qP := h5.1; obtain ⟨i, hi, hs⟩ := hT.info; obtain ⟨d, hd, ha⟩ := hT.agg; have hx := h5.2 j hj; simp only [eE, pP, fM, h4, hd, hi, ha, hs, Nat.zero_add]
  cases hb : τ.agg with
  | true =>
    simp only [if_true, show j * τ.size + τ.size <= rs.length by omega]
    exact ⟨trivial, by simpa [fL] using hb.symm, by simpa [Value.cells] using hx⟩
  | false =>
    have h1 := Ty.qN hb; rw [h1] at hx AG qP ⊢
    have ho : j * 1 < rs.length := by omega
    rw [take_one ho] at hx; obtain ⟨u, hu, hv⟩ := hx.one hb; simp only [List.cons.injEq, and_true] at hu; simp only [Bool.false_eq_true, if_false, List.getD_eq_getElem?_getD, List.getElem?_eq_getElem ho, Option.getD_some]; exact ⟨trivial, by rw [hu]; exact hv⟩
theorem kE.cut {T e : TypeId} {τ : Ty} (hT : fW P T e τ) {v : Value} {xs : List τ.den} (hv : kE h S τ v xs) {a b : Int} (h0 : 0 <= a /\ a <= b /\ b <= (xs.length : Nat)) :
    ∃ w, (∀ nn ll, bV P T v (some (.int .i64 a)) (some (.int .i64 b)) none { next := nn, low := ll, aB := h.aB } = some w) /\ kE h S τ w ((xs.take b.toNat).drop a.toNat) := by
  obtain ⟨i, z, CV, cY, _⟩ := hT.sl.info; obtain ⟨a', rfl⟩ := Int.eq_ofNat_of_zero_le h0.1; obtain ⟨b', rfl⟩ := Int.eq_ofNat_of_zero_le (show 0 <= b by omega)
  have hb : b' <= xs.length := by omega
  have hab : a' <= b' := by omega
  simp only [Int.toNat_natCast]; rcases hv with ⟨rfl, rfl⟩ | ⟨bl, o, mk, rfl, h2⟩
  . have : a' = 0 /\ b' = 0 := by simp at hb; omega
    obtain ⟨rfl, rfl⟩ := this; refine ⟨.slice none 0 0, fun nn ll => ?_, .inl ⟨rfl, rfl⟩⟩; simp [bV, hT.sl.sl, dA, CV]
  have e1 : Nat.ble a' b' = true := by rw [Nat.ble_eq]; exact hab
  have e2 : Nat.ble b' xs.length = true := by rw [Nat.ble_eq]; exact hb
  have hl : ((xs.take b').drop a').length = b' - a' := by simp; omega
  by_cases aqX : a' < b' \/ a' = 0
  . refine ⟨.slice (some ⟨bl, o + a' * τ.size, none⟩) (b' - a') (bif Nat.beq mk 1 then (bif Nat.beq b' xs.length then 1 else 2) else mA e bl a' mk h), fun nn ll => ?_, ?_⟩
    . have mK : mA e bl a' mk { next := nn, low := ll, aB := h.aB } = mA e bl a' mk h := rfl
      have KL : (Nat.blt a' b' || Nat.beq a' 0) = true := by
        rcases aqX with h3 | rfl
        . have : Nat.blt a' b' = true := by show Nat.ble (a' + 1) b' = true; rw [Nat.ble_eq]; exact h3
          rw [this]; rfl
        simp
      simp only [bV, hT.sl.sl, CV, dA, Int.natCast_nonneg, if_true, Int.toNat_natCast, e1, e2, Bool.and_self, cond_true, cutAt, KL, cY, mK]
    refine .inr ⟨bl, o + a' * τ.size, _, by rw [hl], ?_⟩; by_cases hz : a' = b'
    . left; exact List.eq_nil_of_length_eq_zero (by omega)
    right; rcases h2 with rfl | ⟨h2, e', rs, own, more, h3, h4, h5⟩
    . simp at hb; omega
    have hbs : b' * τ.size <= xs.length * τ.size := Nat.mul_le_mul_right _ hb
    have atO : a' * τ.size + (b' - a') * τ.size = b' * τ.size := by rw [<- Nat.add_mul]; congr 1; omega
    refine ⟨h2, e', rs, own, more, h3, by rw [hl]; omega, fun i hi => ?_⟩; rw [hl] at hi; have := h5 (a' + i) (by omega); rw [List.getElem_drop, List.getElem_take]
    rwa [Nat.add_mul, <- Nat.add_assoc] at this
  have aqY : a' = b' := by omega
  subst aqY; refine ⟨.slice (some ⟨0, 0, none⟩) 0 2, fun nn ll => ?_, .inr ⟨0, 0, 2, by rw [hl]; simp, .inl (List.eq_nil_of_length_eq_zero (by omega))⟩⟩
  have KL : (Nat.blt a' a' || Nat.beq a' 0) = false := by
    rw [KI, dO (by omega)]; rfl
  simp only [bV, hT.sl.sl, CV, dA, Int.natCast_nonneg, if_true, Int.toNat_natCast, e1, e2, Bool.and_self, cond_true, cutAt, KL, cond_false]
end Go.Fs
namespace Go.Fs
variable {P : Program} {fl : FL}
theorem vJ : aC P program = some P := rfl
end Go.Fs
namespace Go.Fs
variable {P : Program} {orc : FuncId -> List Value -> Heap -> Option (Value × Heap)} {h h' h0 : Heap} {fl : FL} {op : Op} {v : Value} {S S' S0 : List Nat} {ops : Array Oper} {n : Nat} {K : FL -> Heap -> Prop} {l : List Oper} {d : Tmp} {ty : TypeId} {pos : String} {after : Array Edge}
theorem apart {p q : List Nat} {m : Nat} (hp : ∀ b ∈ p, m <= b) (hq : ∀ b ∈ q, b < m) : ∀ b ∈ p, b ∉ q := fun b h1 h2 => by
  have := hp b h1; have := hq b h2; omega
theorem CY {cs : List Value} (hc : cs.all dQ = true) : cs.all aN = true := by
  rw [List.all_eq_true] at hc ⊢; intro x hx; have := hc x hx; cases x <;> first | rfl | simp_all [dQ, aN]
end Go.Fs
namespace Go.Fs
variable {P : Program} {orc : FuncId -> List Value -> Heap -> Option (Value × Heap)} {h h' h0 : Heap} {fl : FL} {op : Op} {v : Value} {S S' S0 : List Nat} {ops : Array Oper} {n i mem : Nat} {K : FL -> Heap -> Prop} {l : List Oper} {d : Tmp} {ty : TypeId} {pos : String} {after : Array Edge} {bs : List Nat} {segs : List (Nat × Nat × Nat)} {tail : Bool}
theorem tD {n : Int} (h : 0 <= n /\ n < 18446744073709551616) : IntKind.u64.wrap n = n := by
  unfold IntKind.wrap; simp only [IntKind.bits, IntKind.signed, Bool.false_and]
  have e : (2 ^ 64 : Int) = 18446744073709551616 := by decide
  simp only [e]; have := Int.emod_eq_of_lt h.1 h.2; simp [this]
end Go.Fs
namespace Go.Fs
def Ty.iC : Ty -> Bool
  | .sl _ => false
  | .mp _ _ => false
  | .fn => false
  | .mQ => false
  | .pair a b => a.iC && b.iC
  | _ => true
def Ty.x5 : (τ : Ty) -> τ.den -> List Value
  | .int k, n => [.int k n]
  | .bool, b => [.bool b]
  | .str, s => [.string s]
  | .bJ k, b => [.float k b]
  | .unit, _ => []
  | .sl _, _ => []
  | .mp _ _, _ => []
  | .fn, _ => []
  | .mQ, _ => []
  | .pair a b, x => a.x5 x.1 ++ b.x5 x.2
theorem GF {h : Heap} {S : List Nat} : ∀ {τ : Ty} {cs : List Value} {x : τ.den}, cG h S τ cs x -> τ.iC = true -> cs = τ.x5 x := by
  intro τ
  induction τ with
  | int k => intro cs x hx _; exact hx
  | bool => intro cs x hx _; exact hx
  | str => intro cs x hx _; exact hx
  | bJ k => intro cs x hx _; exact hx
  | unit => intro cs x hx _; exact hx
  | sl e ih => intro cs x _ hf; cases hf
  | fn => intro cs x _ hf; cases hf
  | mQ => intro cs x _ hf; cases hf
  | mp a b _ _ => intro cs x _ hf; cases hf
  | pair a b wZ x3 =>
    intro cs x hx hf
    have h1 : a.iC = true /\ b.iC = true := by simpa [Ty.iC] using hf
    have e1 := wZ hx.1 h1.1; have e2 := x3 hx.2 h1.2; show cs = a.x5 x.1 ++ b.x5 x.2; rw [<- e1, <- e2, List.take_append_drop]
end Go.Fs
namespace Go.Fs
structure aqZ where
  n : Nat
  e : TypeId
  τ : Ty
  x : τ.den
def amD : List aqZ := []
end Go.Fs
namespace Go.Fs
variable {h h' : Heap} {S S' : List Nat}
def GT (h : Heap) (S : List Nat) : Prop := ∀ v ∈ amD, ∃ vs, h.get (v.n + 1) = some (.row v.e vs false true) /\ v.n + 1 ∉ S /\ vs.length = v.τ.size /\ ∀ h' S', cG h' S' v.τ vs v.x
theorem GT.nx (hs : GT h S) (hN : dC h S h' S') : GT h' S' := fun v hv => by
  obtain ⟨vs, h1, h2, h3, h4⟩ := hs v hv; obtain ⟨h5, h6⟩ := hN _ _ h1 h2; exact ⟨vs, h5, h6, h3, h4⟩
def afV (h : Heap) : Prop := nY h /\ GT h []
end Go.Fs
namespace Go.Fs
variable {P : Program} {h h' h0 h1 h2 : Heap} {S S' S0 B G : List Nat}
inductive PV where
  | v (τ : Ty) (x : τ.den)
  | p (τ : Ty) (x : τ.den)
  | raw (u : Value)
  | mR (f : FuncId) (a c : List PV)
  | nD (l : List PV)
  | gd (b : Bool) (v : PV)
  | agg (l : List PV)
mutual
def aI (h : Heap) (S : List Nat) : PV -> Value -> Prop
  | .v τ x, u => aE h S τ u x
  | .p τ x, u => nZ h S τ u x
  | .raw w, u => u = w
  | .mR f a c, u => ∃ va vc : List Value, u = .func (.func f) va.toArray vc.toArray /\ aX h S a va /\ aX h S c vc
  | .nD l, u => ∃ vs : List Value, u = .tuple vs.toArray /\ aX h S l vs
  | .gd b v, u => (b = true -> aI h S v u) /\ (b = false -> u = undef)
  | .agg l, u => ∃ vs : List Value, u = .agg vs.toArray /\ aX h S l vs
def aX (h : Heap) (S : List Nat) : List PV -> List Value -> Prop
  | [], us => us = []
  | p :: ps, us => ∃ u r, us = u :: r /\ aI h S p u /\ aX h S ps r
end
def pQ (h : Heap) (S : List Nat) (h' : Heap) (S' : List Nat) : Prop := ∀ b o, h.get b = some o -> o ≠ .mM -> b ∉ S -> h'.get b = some o /\ b ∉ S'
theorem dC.r (hN : dC h S h' S') : pQ h S h' S' := fun b _ hg _ hb => hN b _ hg hb
theorem cG.mL (hN : pQ h S h' S') : ∀ {τ : Ty} {cs : List Value} {x : τ.den}, cG h S τ cs x -> cG h' S' τ cs x := by
  intro τ
  induction τ with
  | int k => exact fun hx => hx
  | bool => exact fun hx => hx
  | str => exact fun hx => hx
  | bJ k => exact fun hx => hx
  | unit => exact fun hx => hx
  | pair a b wZ x3 => exact fun hx => ⟨wZ hx.1, x3 hx.2⟩
  | sl e ih =>
    rintro cs x ⟨v, h1, h2⟩; refine ⟨v, h1, ?_⟩; rcases h2 with h2 | ⟨b, o, mk, h2, h3⟩
    . exact .inl h2
    refine .inr ⟨b, o, mk, h2, ?_⟩; rcases h3 with h3 | ⟨h3, e', rs, own, more, h4, h5, h6⟩
    . exact .inl h3
    obtain ⟨h7, h8⟩ := hN b _ h4 (by simp) h3
    exact .inr ⟨h8, e', rs, own, more, h7, h5, fun i hi => ih (h6 i hi)⟩
  | fn => exact fun hx => hx
  | mQ => exact fun hx => hx
  | mp a b wZ x3 =>
    rintro cs x ⟨v, h1, h2⟩; refine ⟨v, h1, ?_⟩; rcases h2 with h2 | ⟨b, es, c, h2, h3, h4, h5, h6⟩
    . exact .inl h2
    obtain ⟨h7, h8⟩ := hN b _ h4 (by simp) h3; exact .inr ⟨b, es, c, h2, h8, h7, h5, fun i hi hj => ⟨⟨(h6 i hi hj).1.1, wZ (h6 i hi hj).1.2⟩, ⟨(h6 i hi hj).2.1, x3 (h6 i hi hj).2.2⟩⟩⟩
theorem nZ.mL (hN : pQ h S h' S') {τ : Ty} {p : Value} {x : τ.den} (hp : nZ h S τ p x) : nZ h' S' τ p x := by
  obtain ⟨b, o, e, rs, own, more, h1, h2, h3, h4, h5⟩ := hp; obtain ⟨h6, h7⟩ := hN b _ h3 (by simp) h2; exact ⟨b, o, e, rs, own, more, h1, h7, h6, h4, h5.mL hN⟩
mutual
theorem aI.mL (hN : pQ h S h' S') : ∀ {pv : PV} {u : Value}, aI h S pv u -> aI h' S' pv u
  | .v τ x, u, hx => ⟨hx.1, cG.mL hN hx.2⟩
  | .p τ x, u, hx => nZ.mL hN hx
  | .raw w, u, hx => hx
  | .mR f a c, u, ⟨va, vc, h1, h2, h3⟩ => ⟨va, vc, h1, aX.mL hN h2, aX.mL hN h3⟩
  | .nD l, u, ⟨vs, h1, h2⟩ => ⟨vs, h1, aX.mL hN h2⟩
  | .gd b v, u, ⟨h1, h2⟩ => ⟨fun e => aI.mL hN (h1 e), h2⟩
  | .agg l, u, ⟨vs, h1, h2⟩ => ⟨vs, h1, aX.mL hN h2⟩
theorem aX.mL (hN : pQ h S h' S') : ∀ {l : List PV} {us : List Value}, aX h S l us -> aX h' S' l us
  | [], us, hx => hx
  | p :: ps, us, ⟨u, r, h1, h2, h3⟩ => ⟨u, r, h1, aI.mL hN h2, aX.mL hN h3⟩
end
theorem aI.nx (hN : dC h S h' S') {pv : PV} {u : Value} (hx : aI h S pv u) : aI h' S' pv u := hx.mL hN.r
theorem aX.nx (hN : dC h S h' S') {l : List PV} {us : List Value} (hx : aX h S l us) : aX h' S' l us := hx.mL hN.r
theorem aX.len : ∀ {l : List PV} {us : List Value}, aX h S l us -> us.length = l.length
  | [], us, hx => by rw [show us = [] from hx]; rfl
  | p :: ps, us, ⟨u, r, h1, _, h3⟩ => by rw [h1, List.length_cons, List.length_cons, aX.len h3]
theorem aX.append : ∀ {l l' : List PV} {us q8 : List Value}, aX h S l us -> aX h S l' q8 -> aX h S (l ++ l') (us ++ q8)
  | [], l', us, q8, hx, hy => by rw [show us = [] from hx]; exact hy
  | p :: ps, l', us, q8, ⟨u, r, h1, h2, h3⟩, hy => ⟨u, r ++ q8, by rw [h1]; rfl, h2, aX.append h3 hy⟩
def PV.jA : PV -> Bool
  | .v τ _ => τ.iC
  | .raw u => q6 u
  | _ => false
def PV.flat : PV -> Bool
  | .nD l => l.all PV.jA
  | q => q.jA
theorem vK : ∀ (τ : Ty) (x : τ.den), (τ.x5 x).all dQ = true
  | .int _, _ => rfl
  | .bool, _ => rfl
  | .str, _ => rfl
  | .bJ _, _ => rfl
  | .unit, _ => rfl
  | .sl _, _ => rfl
  | .mp _ _, _ => rfl
  | .fn, _ => rfl
  | .mQ, _ => rfl
  | .pair a b, x => by
    show (a.x5 x.1 ++ b.x5 x.2).all dQ = true; rw [List.all_append, vK a, vK b]; rfl
theorem ES {τ : Ty} {u : Value} {x : τ.den} (hf : τ.iC = true) (hx : aE h S τ u x) : q6 u = true := by
  have hc := GF hx.2 hf
  cases ha : fL u with
  | true =>
    cases u with
    | agg cs =>
      show cs.toList.all dQ = true; have : cs.toList = τ.x5 x := hc
      rw [this]; exact vK τ x
    | _ => cases ha
  | false =>
    rw [fA ha] at hc; have h1 := vK τ x; rw [<- hc] at h1
    have h2 : dQ u = true := by simpa using h1
    cases u with
    | agg cs => cases ha
    | _ => exact h2
theorem aI.jA : ∀ {pv : PV} {u : Value}, pv.jA = true -> aI h S pv u -> q6 u = true /\ ∀ h' S', aI h' S' pv u
  | .v τ x, u, hf, hx => ⟨ES hf hx, fun h' S' => aE.vI (τ := τ) hx (ES hf hx)⟩
  | .raw w, u, hf, hx => ⟨by rw [show u = w from hx]; exact hf, fun _ _ => hx⟩
  | .p _ _, _, hf, _ => by cases hf
  | .mR _ _ _, _, hf, _ => by cases hf
  | .nD _, _, hf, _ => by cases hf
  | .gd _ _, _, hf, _ => by cases hf
theorem aX.jA : ∀ {l : List PV} {us : List Value}, l.all PV.jA = true -> aX h S l us -> us.all q6 = true /\ ∀ h' S', aX h' S' l us
  | [], us, _, hx => ⟨by rw [show us = [] from hx]; rfl, fun _ _ => hx⟩
  | p :: ps, us, hf, ⟨u, r, h1, h2, h3⟩ => by
    rw [List.all_cons] at hf; obtain ⟨f1, f2⟩ := aT hf; obtain ⟨a1, a2⟩ := h2.jA f1; obtain ⟨b1, b2⟩ := aX.jA f2 h3; exact ⟨by rw [h1, List.all_cons, a1, b1]; rfl, fun h' S' => ⟨u, r, h1, a2 h' S', b2 h' S'⟩⟩
theorem KM {u : Value} (hu : q6 u = true) : af u = true := by
  cases u with
  | tuple vs => cases hu
  | _ => exact hu
theorem aI.flat {pv : PV} {u : Value} (hf : pv.flat = true) (hx : aI h S pv u) : af u = true /\ ∀ h' S', aI h' S' pv u := by
  cases pv with
  | nD l =>
    obtain ⟨vs, h1, h2⟩ := hx; obtain ⟨a1, a2⟩ := aX.jA (l := l) hf h2; refine ⟨?_, fun h' S' => ⟨vs, h1, a2 h' S'⟩⟩; rw [h1]; show vs.toArray.toList.all q6 = true
    exact a1
  | v τ x => obtain ⟨a1, a2⟩ := aI.jA (pv := .v τ x) hf hx; exact ⟨KM a1, a2⟩
  | p τ x => cases hf
  | raw w => obtain ⟨a1, a2⟩ := aI.jA (pv := .raw w) hf hx; exact ⟨KM a1, a2⟩
  | mR f a c => cases hf
  | gd b v => cases hf
  | agg l => cases hf
structure cK (h h' : Heap) (B : List Nat) : Prop where
  next : h.next <= h'.next
  get : ∀ b, b < h.next -> b ∉ B -> h'.get b = h.get b
  ok : nY h -> nY h'
  low : ∀ e, e <= h.low -> e <= h.next -> (∀ b ∈ B, e <= b) -> e <= h'.low
  chg : ∀ b, b < h.next -> h'.get b = h.get b \/ h'.low <= b
  uS : h'.low <= h.low
theorem cK.refl (h : Heap) (B : List Nat) : cK h h B := ⟨Nat.le_refl _, fun _ _ _ => rfl, fun x => x, fun _ x _ _ => x, fun _ _ => .inl rfl, Nat.le_refl _⟩
theorem cK.trans {B' : List Nat} (a : cK h h1 B) (b : cK h1 h2 B') (hB : ∀ i ∈ B', i ∈ B \/ h.next <= i) : cK h h2 B where
  next := Nat.le_trans a.next b.next
  get := fun i hi hn => by
    have := a.next; rw [b.get i (by omega) (fun hm => by rcases hB i hm with h3 | h3; exact hn h3; omega), a.get i hi hn]
  ok := fun x => b.ok (a.ok x)
  low := fun e h3 h4 h5 => b.low e (a.low e h3 h4 h5) (Nat.le_trans h4 a.next) fun i hi => by
    rcases hB i hi with h6 | h6
    . exact h5 i h6
    omega
  chg := fun i hi => by
    have := a.next; have := b.uS; rcases b.chg i (by omega) with h3 | h3
    . rcases a.chg i hi with h4 | h4
      . exact .inl (h3.trans h4)
      exact .inr (by omega)
    exact .inr h3
  uS := Nat.le_trans b.uS a.uS
theorem cK.TW {B' : List Nat} (a : cK h h1 B) (hB : ∀ i ∈ B, i ∈ B') : cK h h1 B' where
  next := a.next
  get := fun i hi hn => a.get i hi fun hm => hn (hB i hm)
  ok := a.ok
  low := fun e h3 h4 h5 => a.low e h3 h4 fun i hi => h5 i (hB i hi)
  chg := a.chg
  uS := a.uS
theorem cK.after (a : cK h h1 []) : eN h h1 := ⟨a.next, fun b hb => a.get b hb (by simp), a.ok, fun e h3 h4 => a.low e h3 h4 (by simp)⟩
theorem cK.push (h : Heap) (o : aU) (B : List Nat) : cK h (h.push o) B where
  next := Nat.le_succ _
  get := fun b hb _ => by rw [Heap.bB, if_neg (by omega)]
  ok := (eN.push h o).ok
  low := fun e h3 _ _ => h3
  chg := fun b hb => .inl (by rw [Heap.bB, if_neg (by omega)])
  uS := Nat.le_refl _
theorem cK.set {b : Nat} {o o' : aU} (hg : h.get b = some o) (hb : b ∈ B) : cK h (h.set b o') B where
  next := Nat.le_refl _
  get := fun i _ hi => by rw [Heap.dE hg, if_neg (fun e => hi (by subst e; exact hb))]
  ok := fun x i oi hi => by
    rw [Heap.dE hg] at hi; split at hi
    . rename_i e; rw [e]; exact x b o hg
    exact x i oi hi
  low := fun e h3 _ h5 => Nat.le_min.2 ⟨h3, h5 b hb⟩
  chg := fun i hi => by
    by_cases e : i = b
    . exact .inr (by subst e; exact Nat.min_le_right _ _)
    exact .inl (by rw [Heap.dE hg, if_neg e])
  uS := Nat.min_le_left _ _
theorem cK.drop {b : Nat} (hb : b ∈ B) : cK h (h.drop b) B where
  next := Nat.le_refl _
  get := fun i _ hi => by rw [Heap.cJ, if_neg (fun e => hi (by subst e; exact hb))]
  ok := fun x i oi hi => by
    rw [Heap.cJ] at hi; split at hi
    . cases hi
    exact x i oi hi
  low := fun e h3 _ h5 => Nat.le_min.2 ⟨h3, h5 b hb⟩
  chg := fun i hi => by
    by_cases e : i = b
    . exact .inr (by subst e; exact Nat.min_le_right _ _)
    exact .inl (by rw [Heap.cJ, if_neg e])
  uS := Nat.min_le_left _ _
theorem cK.goes (a : cK h h' B) (aZ : nY h) (hB : ∀ b ∈ B, b ∈ S) (hS : ∀ b ∈ S', b ∈ S \/ h.next <= b) : dC h S h' S' := fun b o hg hb => by
  have bX := aZ b o hg; refine ⟨by rw [a.get b bX (fun hm => hb (hB b hm))]; exact hg, fun hm => ?_⟩; rcases hS b hm with h3 | h3
  . exact hb h3
  omega
inductive Cell where
  | row (e : TypeId) (τ : Ty) (xs : List τ.den)
  | var (cs : List PV)
  | cap (e : TypeId) (n : Nat) (τ : Ty) (xs : List τ.den)
  | mp (κ ν : Ty) (nC : List (κ.den × ν.den))
  | it (s : ByteArray) (pos : Nat)
  | loop (st : LoopState) (jump : Option Code) (n : Nat) (fl : List (Nat × PV)) (ps : Array Tmp) (assign body : Code)
  | fS (e : TypeId) (n : Nat) (cs : List PV)
abbrev aM := List (Value × Cell)
def cD : Value -> List Nat
  | .slice (some a) _ _ => [a.block]
  | .pointer (some a) => [a.block]
  | .map (some b) => [b]
  | .func (.yield l) _ _ => [l]
  | _ => []
abbrev VL := List (Nat × PV)
def kN : VL -> Nat -> Option PV
  | [], _ => none
  | (k, v) :: r, i => bif Nat.beq k i then some v else kN r i
theorem GT.mL (hs : GT h S) (hN : pQ h S h' S') : GT h' S' := fun v hv => by
  obtain ⟨vs, h1, h2, h3, h4⟩ := hs v hv; obtain ⟨h5, h6⟩ := hN _ _ h1 (by simp) h2; exact ⟨vs, h5, h6, h3, h4⟩
def TX (h : Heap) (S : List Nat) : Prop := (∀ b ∈ S, b < h.next) /\ ∀ v ∈ amD, v.n + 1 < h.next
instance : CoeFun (TX h S) fun _ => ∀ b, b ∈ S -> b < h.next := ⟨fun hs => hs.1⟩
theorem GT.slt (hs : GT h S) (aZ : nY h) (h0 : ∀ b ∈ S0, b < h.next) : TX h S0 := ⟨h0, fun v hv => by
  obtain ⟨vs, h1, _⟩ := hs v hv
  exact aZ _ _ h1⟩
theorem GT.seen {hs M : Heap} (hG : GT h S) (a1 : eN hs h) (a2 : eN hs M) (hl : TX hs S0) : GT M S := fun v hv => by
  obtain ⟨vs, h1, h2, h3, h4⟩ := hG v hv; have hb := hl.2 v hv; exact ⟨vs, by rw [a2.get _ hb, <- a1.get _ hb]; exact h1, h2, h3, h4⟩
def YE (h : Heap) (S : List Nat) : Prop := (∀ b ∈ S, b < h.next) /\ GT h S
def eR (h : Heap) (S : List Nat) (t : Tr) (fl : VL) : Prop := GT h S /\ ∀ k v, kN fl k = some v -> aI h S v (t.get k)
theorem eR.nx {t : Tr} {fl : VL} (hs : eR h S t fl) (hN : dC h S h' S') : eR h' S' t fl := ⟨hs.1.nx hN, fun k v hk => (hs.2 k v hk).nx hN⟩
theorem eR.mL {t : Tr} {fl : VL} (hs : eR h S t fl) (hN : pQ h S h' S') : eR h' S' t fl := ⟨hs.1.mL hN, fun k v hk => (hs.2 k v hk).mL hN⟩
instance {t : Tr} {fl : VL} : CoeFun (eR h S t fl) fun _ => ∀ k v, kN fl k = some v -> aI h S v (t.get k) := ⟨fun hs => hs.2⟩
instance : CoeFun (YE h S) fun _ => ∀ b, b ∈ S -> b < h.next := ⟨fun hs => hs.1⟩
def own (σ : aM) : List Nat := σ.flatMap fun c => cD c.1
def bL (h : Heap) (S : List Nat) (w : Value) : Cell -> Prop
  | .row e τ xs => (w = .slice none 0 0 /\ xs = []) \/ ∃ b rs m, w = .slice (some ⟨b, 0, none⟩) xs.length 0 /\ b ∈ S /\ h.get b = some (.row e rs true m) /\ bC h S τ rs xs
  | .var cs => ∃ b e vs, w = .pointer (some ⟨b, 0, none⟩) /\ b ∈ S /\ h.get b = some (.row e vs true false) /\ aX h S cs vs /\ vs.all aN = true
  | .cap e n τ xs => ∃ b rs m, w = .slice (some ⟨b, 0, none⟩) xs.length 0 /\ b ∈ S /\ h.get b = some (.row e rs true m) /\ rs.length = n * τ.size /\ xs.length <= n /\ bC h S τ (rs.take (xs.length * τ.size)) xs
  | .mp κ ν nC => ∃ b es clock, w = .map (some b) /\ b ∈ S /\ h.get b = some (.qA es clock) /\ es.length = nC.length /\ ∀ i (hi : i < nC.length) (hj : i < es.length), aE h S κ es[i].key nC[i].1 /\ aE h S ν es[i].val nC[i].2
  | .it s pos => ∃ b, w = .pointer (some ⟨b, 0, none⟩) /\ b ∈ S /\ h.get b = some (.iter s pos)
  | .loop st jump n fl ps assign body => ∃ l tmps d, w = .func (.yield l) #[] #[] /\ l ∈ S /\ h.get l = some (.fI st jump tmps n ps assign body d) /\ eR h S tmps fl
  | .fS e n cs => (w = .slice none 0 0 /\ n = 0 /\ cs = []) \/ ∃ b rs m, w = .slice (some ⟨b, 0, none⟩) n 0 /\ b ∈ S /\ h.get b = some (.row e rs true m) /\ aX h S cs rs /\ rs.all aN = true /\ (n = 0 -> m = false)
theorem bL.aV {w : Value} : ∀ {c : Cell}, bL h S w c -> (∀ b ∈ cD w, h'.get b = h.get b) -> dC h S h' S' -> (∀ b ∈ cD w, b ∈ S') -> bL h' S' w c
  | .row e τ xs, hc, hg, hN, hs => by
    rcases hc with hc | ⟨b, rs, m, rfl, h2, h3, h4⟩
    . exact .inl hc
    exact .inr ⟨b, rs, m, rfl, hs b (by simp [cD]), by rw [hg b (by simp [cD])]; exact h3, h4.nx hN⟩
  | .var cs, ⟨b, e, vs, h1, h2, h3, h4, h5⟩, hg, hN, hs => by
    subst h1
    exact ⟨b, e, vs, rfl, hs b (by simp [cD]), by rw [hg b (by simp [cD])]; exact h3, h4.nx hN, h5⟩
  | .cap e n τ xs, ⟨b, rs, m, h1, h2, h3, h4, h5, h6⟩, hg, hN, hs => by
    subst h1
    exact ⟨b, rs, m, rfl, hs b (by simp [cD]), by rw [hg b (by simp [cD])]; exact h3, h4, h5, h6.nx hN⟩
  | .mp κ ν nC, ⟨b, es, c, h1, h2, h3, h4, h5⟩, hg, hN, hs => by
    subst h1
    exact ⟨b, es, c, rfl, hs b (by simp [cD]), by rw [hg b (by simp [cD])]; exact h3, h4, fun i hi hj => ⟨(h5 i hi hj).1.nx hN, (h5 i hi hj).2.nx hN⟩⟩
  | .it s pos, ⟨b, h1, h2, h3⟩, hg, hN, hs => by
    subst h1
    exact ⟨b, rfl, hs b (by simp [cD]), by rw [hg b (by simp [cD])]; exact h3⟩
  | .loop st jump n fl ps assign body, ⟨l, tmps, d, h1, h2, h3, h4⟩, hg, hN, hs => by
    subst h1
    exact ⟨l, tmps, d, rfl, hs l (by simp [cD]), by rw [hg l (by simp [cD])]; exact h3, h4.nx hN⟩
  | .fS e n cs, hc, hg, hN, hs => by
    rcases hc with hc | ⟨b, rs, m, rfl, h2, h3, h4, h5⟩
    . exact .inl hc
    exact .inr ⟨b, rs, m, rfl, hs b (by simp [cD]), by rw [hg b (by simp [cD])]; exact h3, h4.nx hN, h5⟩
theorem bL.isObj {w : Value} : ∀ {c : Cell}, bL h S w c -> ∀ b ∈ cD w, ∃ o, h.get b = some o /\ o ≠ .mM
  | .row e τ xs, hc, b, hb => by
    rcases hc with ⟨rfl, _⟩ | ⟨b', rs, m, rfl, h2, h3, h4⟩
    . cases hb
    obtain rfl : b = b' := by simpa [cD] using hb
    exact ⟨_, h3, by simp⟩
  | .var cs, ⟨b', e, vs, h1, h2, h3, h4, h5⟩, b, hb => by
    subst h1
    obtain rfl : b = b' := by simpa [cD] using hb
    exact ⟨_, h3, by simp⟩
  | .cap e n τ xs, ⟨b', rs, m, h1, h2, h3, h4, h5, h6⟩, b, hb => by
    subst h1
    obtain rfl : b = b' := by simpa [cD] using hb
    exact ⟨_, h3, by simp⟩
  | .mp κ ν nC, ⟨b', es, c, h1, h2, h3, h4, h5⟩, b, hb => by
    subst h1
    obtain rfl : b = b' := by simpa [cD] using hb
    exact ⟨_, h3, by simp⟩
  | .it s pos, ⟨b', h1, h2, h3⟩, b, hb => by
    subst h1
    obtain rfl : b = b' := by simpa [cD] using hb
    exact ⟨_, h3, by simp⟩
  | .loop st jump n fl ps assign body, ⟨l, tmps, d, h1, h2, h3, h4⟩, b, hb => by
    subst h1
    obtain rfl : b = l := by simpa [cD] using hb
    exact ⟨_, h3, by simp⟩
  | .fS e n cs, hc, b, hb => by
    rcases hc with ⟨rfl, _⟩ | ⟨b', rs, m, rfl, h2, h3, h4⟩
    . cases hb
    obtain rfl : b = b' := by simpa [cD] using hb
    exact ⟨_, h3, by simp⟩
theorem bL.ar0 {w : Value} : ∀ {c : Cell}, bL h S w c -> ∀ b ∈ cD w, ∀ e vs, h.get b ≠ some (.row e vs false true)
  | .row e τ xs, hc, b, hb, e', fQ, hg => by
    rcases hc with ⟨rfl, _⟩ | ⟨b', rs, m, rfl, h2, h3, h4⟩
    . cases hb
    obtain rfl : b = b' := by simpa [cD] using hb
    rw [h3] at hg; cases hg
  | .var cs, ⟨b', e, vs, h1, h2, h3, h4, h5⟩, b, hb, e', fQ, hg => by
    subst h1
    obtain rfl : b = b' := by simpa [cD] using hb
    rw [h3] at hg; cases hg
  | .cap e n τ xs, ⟨b', rs, m, h1, h2, h3, h4, h5, h6⟩, b, hb, e', fQ, hg => by
    subst h1
    obtain rfl : b = b' := by simpa [cD] using hb
    rw [h3] at hg; cases hg
  | .mp κ ν nC, ⟨b', es, c, h1, h2, h3, h4, h5⟩, b, hb, e', fQ, hg => by
    subst h1
    obtain rfl : b = b' := by simpa [cD] using hb
    rw [h3] at hg; cases hg
  | .it s pos, ⟨b', h1, h2, h3⟩, b, hb, e', fQ, hg => by
    subst h1
    obtain rfl : b = b' := by simpa [cD] using hb
    rw [h3] at hg; cases hg
  | .loop st jump n fl ps assign body, ⟨l, tmps, d, h1, h2, h3, h4⟩, b, hb, e', fQ, hg => by
    subst h1
    obtain rfl : b = l := by simpa [cD] using hb
    rw [h3] at hg; cases hg
  | .fS e n cs, hc, b, hb, e', fQ, hg => by
    rcases hc with ⟨rfl, _⟩ | ⟨b', rs, m, rfl, h2, h3, h4⟩
    . cases hb
    obtain rfl : b = b' := by simpa [cD] using hb
    rw [h3] at hg; cases hg
theorem GT.own {γ : aM} (hs : GT h S) (hc : ∀ c ∈ γ, bL h S' c.1 c.2) : GT h (Go.Fs.own γ ++ S) := fun v hv => by
  obtain ⟨vs, h1, h2, h3, h4⟩ := hs v hv; refine ⟨vs, h1, fun hb => ?_, h3, h4⟩; rcases List.mem_append.1 hb with hb | hb
  . obtain ⟨c, N8, hb⟩ := List.mem_flatMap.1 hb; exact (hc c N8).ar0 _ hb _ _ h1
  exact h2 hb
theorem GT.ent {γ : aM} (hs : GT h S) (hc : ∀ c ∈ γ, bL h S' c.1 c.2) : GT (entry h) (Go.Fs.own γ ++ S) := (hs.own hc).nx (dC.aB fun _ => rfl)
theorem eR.set {t : Tr} {fl : VL} (hs : eR h S t fl) {d : Nat} {v : PV} {u : Value} (hu : aI h S v u) (hd : d < 4000) : eR h S (t.set depth d u) ((d, v) :: fl) := by
  refine ⟨hs.1, ?_⟩; intro k w hk; rw [vH t d u k hd]; simp only [kN] at hk
  cases hb : Nat.beq d k with
  | true => rw [hb] at hk; simp only [cond_true, Option.some.injEq] at hk; subst hk; rw [if_pos (bD hb).symm]; exact hu
  | false => rw [hb] at hk; simp only [cond_false] at hk; rw [if_neg (Ne.symm (fP hb))]; exact hs.2 k w hk
theorem eR.cons {t : Tr} {fl : VL} (hs : eR h S t fl) {d : Nat} {v : PV} (hu : aI h S v (t.get d)) : eR h S t ((d, v) :: fl) := by
  refine ⟨hs.1, ?_⟩; intro k w hk; simp only [kN] at hk
  cases hb : Nat.beq d k with
  | true => rw [hb] at hk; simp only [cond_true, Option.some.injEq] at hk; subst hk; rw [<- bD hb]; exact hu
  | false => rw [hb] at hk; exact hs.2 k w hk
theorem eR.sub {t : Tr} {fl : VL} (hs : eR h S t fl) (dJ : VL) (hf : ∀ p ∈ dJ, kN fl p.1 = some p.2) : eR h S t dJ := by
  refine ⟨hs.1, ?_⟩; intro k v hk
  have : (k, v) ∈ dJ := by
    clear hf
    induction dJ with
    | nil => cases hk
    | cons p r ih =>
      obtain ⟨i, u⟩ := p; simp only [kN] at hk
      cases hb : Nat.beq i k with
      | true => rw [hb] at hk; simp only [cond_true, Option.some.injEq] at hk; rw [bD hb, hk]; exact List.mem_cons_self
      | false => rw [hb] at hk; exact List.mem_cons_of_mem _ (ih hk)
  exact hs.2 k v (hf _ this)
def R3 : Value -> Option PV
  | .int k n => some (.v (.int k) n)
  | .bool b => some (.v .bool b)
  | .string s => some (.v .str s)
  | .float k b => some (.v (.bJ k) b)
  | c => if af c then some (.raw c) else none
def aQ (fl : VL) : Operand -> Option PV
  | .tmp i => kN fl i
  | .const c => R3 c
  | .global _ => none
  | .func f => some (.mR f [] [])
theorem KN {c : Value} {v : PV} (hc : R3 c = some v) : af c = true /\ ∀ h S, aI h S v c := by
  cases c with
  | int k n => obtain rfl := Option.some.inj hc; exact ⟨rfl, fun _ _ => aE.ofInt _ _⟩
  | bool b => obtain rfl := Option.some.inj hc; exact ⟨rfl, fun _ _ => aE.ofBool _⟩
  | string s => obtain rfl := Option.some.inj hc; exact ⟨rfl, fun _ _ => aE.ofStr _⟩
  | float k b => obtain rfl := Option.some.inj hc; exact ⟨rfl, fun _ _ => aE.yH _ _⟩
  | _ =>
    simp only [R3] at hc; split at hc
    . rename_i ha; obtain rfl := Option.some.inj hc; exact ⟨ha, fun _ _ => rfl⟩
    cases hc
theorem cR {fl : VL} {t : Tr} (hs : eR h S t fl) {x : Operand} {v : PV} (hx : aQ fl x = some v) : aI h S v (aA t x) := by
  cases x with
  | tmp i => exact hs.2 i v hx
  | const c =>
    obtain ⟨h1, h2⟩ := KN hx; show aI h S v (if af c then c else gP)
    rw [if_pos h1]; exact h2 h S
  | global g => cases hx
  | func f => obtain rfl := Option.some.inj hx; exact ⟨[], [], rfl, rfl, rfl⟩
def lG (fl : VL) : List Operand -> Option (List PV)
  | [] => some []
  | x :: r => match aQ fl x, lG fl r with
    | some v, some vs => some (v :: vs)
    | _, _ => none
theorem rF {fl : VL} {t : Tr} (hs : eR h S t fl) : ∀ {l : List Operand} {vs : List PV}, lG fl l = some vs -> aX h S vs (l.map (aA t))
  | [], vs, hx => by obtain rfl := Option.some.inj hx; rfl
  | x :: r, vs, hx => by
    simp only [lG] at hx; split at hx
    . rename_i v QY hv B2; obtain rfl := Option.some.inj hx; exact ⟨_, _, rfl, cR hs hv, rF hs B2⟩
    cases hx
structure Iv (h0 : Heap) (G S0 : List Nat) (h : Heap) (σ : aM) (t : Tr) (ms : List Nat) (fl : VL) : Prop where
  ok : nY h
  s0 : ∀ b ∈ S0, b < h0.next
  lH : cK h0 h G
  cells : ∀ c ∈ σ, bL h (own σ ++ S0) c.1 c.2
  new : ∀ b ∈ own σ, (b ∈ G \/ h0.next <= b) /\ b ∉ S0
  apart : (own σ).Nodup
  mark : ∀ d ∈ ms, h0.next <= d /\ h.get d = some .mM
  marks : ms.Nodup
  aH : eR h (own σ ++ S0) t fl
variable {σ σ' : aM} {t t' : Tr} {ms : List Nat} {fl : VL}
theorem I9 (hc : ∀ c ∈ σ, bL h S c.1 c.2) (aZ : nY h) : ∀ b ∈ own σ, b < h.next := fun b hb => by
  obtain ⟨c, N8, hb⟩ := List.mem_flatMap.1 hb; obtain ⟨o, hg, _⟩ := (hc c N8).isObj b hb; exact aZ b _ hg
theorem Iv.goes (I : Iv h0 G S0 h σ t ms fl) (hB : ∀ b ∈ B, b ∈ own σ) (ha : cK h h' B) (hn : ∀ b ∈ own σ', b ∈ own σ \/ h.next <= b) : dC h (own σ ++ S0) h' (own σ' ++ S0) :=
  ha.goes I.ok (fun b hb => List.mem_append_left _ (hB b hb)) fun b hb => by
    rcases List.mem_append.1 hb with hb | hb
    . rcases hn b hb with h3 | h3
      . exact .inl (List.mem_append_left _ h3)
      exact .inr h3
    exact .inl (List.mem_append_right _ hb)
theorem Iv.step (I : Iv h0 G S0 h σ t ms fl) (hB : ∀ b ∈ B, b ∈ own σ) (ha : cK h h' B) (hn : ∀ b ∈ own σ', b ∈ own σ \/ h.next <= b) (hd : (own σ').Nodup) (hc : ∀ c ∈ σ', bL h' (own σ' ++ S0) c.1 c.2) : Iv h0 G S0 h' σ' t ms fl where
  ok := ha.ok I.ok
  s0 := I.s0
  lH := I.lH.trans ha fun b hb => (I.new b (hB b hb)).1
  cells := hc
  new := fun b hb => by
    have h1 := I.lH.next; rcases hn b hb with h3 | h3
    . exact I.new b h3
    exact ⟨.inr (by omega), fun hm => by have := I.s0 b hm; omega⟩
  apart := hd
  mark := fun d hdm => by
    obtain ⟨h1, h2⟩ := I.mark d hdm; refine ⟨h1, ?_⟩; rw [ha.get d (I.ok d _ h2) (fun hm => ?_)]
    . exact h2
    obtain ⟨c, N8, hb⟩ := List.mem_flatMap.1 (hB d hm); obtain ⟨o, hg, cA⟩ := (I.cells c N8).isObj d hb; rw [hg] at h2; exact absurd (Option.some.inj h2) cA
  marks := I.marks
  aH := I.aH.nx (I.goes hB ha hn)
theorem Iv.calm (I : Iv h0 G S0 h σ t ms fl) (ha : cK h h' []) : Iv h0 G S0 h' σ t ms fl :=
  I.step (B := []) (fun b hb => by cases hb) ha (fun b hb => .inl hb) I.apart fun c hc => (I.cells c hc).aV
    (fun b hb => ha.get b (by obtain ⟨o, hg, _⟩ := (I.cells c hc).isObj b hb; exact I.ok b _ hg) (by simp)) (I.goes (fun b hb => by cases hb) ha fun b hb => .inl hb) fun b hb => List.mem_append_left _ (List.mem_flatMap.2 ⟨c, hc, hb⟩)
theorem Iv.set (I : Iv h0 G S0 h σ t ms fl) {d : Nat} {v : PV} {u : Value} (hu : aI h (own σ ++ S0) v u) (hd : d < 4000) : Iv h0 G S0 h σ (t.set depth d u) ms ((d, v) :: fl) := { I with aH := I.aH.set hu hd }
theorem Iv.sub (I : Iv h0 G S0 h σ t ms fl) (dJ : VL) (hf : ∀ p ∈ dJ, kN fl p.1 = some p.2) : Iv h0 G S0 h σ t ms dJ := { I with aH := I.aH.sub dJ hf }
end Go.Fs
namespace Go.Fs
variable {P : Program} {orc : FuncId -> List Value -> Heap -> Option (Value × Heap)} {aR : Option Nat} {h h' h0 h1 h2 : Heap} {S S' S0 B G : List Nat} {σ σ' : aM} {t t' : Tr} {ms : List Nat} {fl : VL} {ops : Array Oper} {n : Nat} {l : List Oper}
section
variable (P orc)
def U (aR : Option Nat) (c : Code) (n : Nat) (fl : VL) (σ : aM) (Q : Ex -> VL -> aM -> Prop) : Prop :=
  ∀ (h0 : Heap) (G S0 : List Nat) (t : Tr) (h : Heap) (ms : List Nat), Iv h0 G S0 h σ t ms fl -> iP P orc aR c ⟨t, n, ms⟩ h fun e fr h' => fr.n = n /\ ∃ dJ σ', Iv h0 G S0 h' σ' fr.t fr.marks dJ /\ Q e dJ σ'
def J (ops : Array Oper) (n : Nat) (l : List Oper) (fl : VL) (σ : aM) (K : VL -> aM -> Prop) : Prop :=
  ∀ (h0 : Heap) (G S0 : List Nat) (t : Tr) (h : Heap) (ms : List Nat), Iv h0 G S0 h σ t ms fl -> oY P orc ops n l t h fun t' h' => ∃ dJ σ', Iv h0 G S0 h' σ' t' ms dJ /\ K dJ σ'
def KO (aR : Option Nat) (n : Nat) (b : Code) (Q : Ex -> VL -> aM -> Prop) : Ex -> VL -> aM -> Prop
  | .normal, fl, σ => U P orc aR b n fl σ Q
  | .exit i, fl, σ => Q (.exit i) fl σ
  | .ret, fl, σ => Q .ret fl σ
end
def OS (id : Nat) (Q : Ex -> VL -> aM -> Prop) : Ex -> VL -> aM -> Prop
  | .exit i, fl, σ => bif Nat.beq i id then Q .normal fl σ else Q (.exit i) fl σ
  | .normal, fl, σ => Q .normal fl σ
  | .ret, fl, σ => Q .ret fl σ
def TY (fl : VL) : VL -> Prop
  | [] => True
  | (k, v) :: r => kN fl k = some v /\ TY fl r
theorem zQ {fl : VL} : ∀ {dJ : VL}, TY fl dJ -> ∀ p ∈ dJ, kN fl p.1 = some p.2
  | [], _, _, hp => by cases hp
  | (k, v) :: r, h, p, hp => by
    rcases List.mem_cons.1 hp with rfl | hp
    . exact h.1
    exact zQ h.2 p hp
def anZ (I : Nat -> VL -> aM -> Prop) (k : Nat) (Q : Ex -> VL -> aM -> Prop) : Ex -> VL -> aM -> Prop
  | .normal, fl, σ => ∃ k' dJ, k' < k /\ TY fl dJ /\ I k' dJ σ
  | .exit i, fl, σ => Q (.exit i) fl σ
  | .ret, fl, σ => Q .ret fl σ
variable {Q : Ex -> VL -> aM -> Prop} {K : VL -> aM -> Prop}
theorem U.seq {a b : Code} (hx : U P orc aR a n fl σ (KO P orc aR n b Q)) : U P orc aR (.seq a b) n fl σ Q := fun h0 G S0 t h ms I => by
  refine iP.seq ((hx h0 G S0 t h ms I).mono fun e fr h' hq => ?_); obtain ⟨hn, dJ, σ', I', q⟩ := hq
  cases e with
  | normal =>
    obtain ⟨t', n', ms'⟩ := fr; obtain rfl : n' = n := hn
    exact q h0 G S0 t' h' ms' I'
  | exit i => exact ⟨hn, dJ, σ', I', q⟩
  | ret => exact ⟨hn, dJ, σ', I', q⟩
theorem U.block {id : Nat} {b : Code} (hx : U P orc aR b n fl σ (OS id Q)) : U P orc aR (.block id b) n fl σ Q := fun h0 G S0 t h ms I => by
  refine iP.block ((hx h0 G S0 t h ms I).mono fun e fr h' hq => ?_); obtain ⟨hn, dJ, σ', I', q⟩ := hq
  cases e with
  | normal => exact ⟨hn, dJ, σ', I', q⟩
  | ret => exact ⟨hn, dJ, σ', I', q⟩
  | exit i =>
    simp only [OS] at q; simp only [inBlock]; by_cases hi : i = id
    . rw [if_pos hi]; subst hi; rw [Nat.beq_refl] at q; exact ⟨hn, dJ, σ', I', q⟩
    rw [if_neg hi]; rw [dO hi] at q; exact ⟨hn, dJ, σ', I', q⟩
theorem U.scope {b : Code} (hx : U P orc aR b n fl σ Q) : U P orc aR (.scope b) n fl σ Q := fun h0 G S0 t h ms I => iP.scope (hx h0 G S0 t h ms I)
theorem U.skip (hq : Q .normal fl σ) : U P orc aR .skip n fl σ Q := fun _ _ _ _ _ _ I => iP.skip ⟨rfl, fl, σ, I, hq⟩
theorem U.label {i : Nat} (hq : Q .normal fl σ) : U P orc aR (.label i) n fl σ Q := fun _ _ _ _ _ _ I => iP.label ⟨rfl, fl, σ, I, hq⟩
theorem U.exit {i : Nat} (hq : Q (.exit i) fl σ) : U P orc aR (.exit i) n fl σ Q := fun _ _ _ _ _ _ I => iP.exit ⟨rfl, fl, σ, I, hq⟩
theorem U.ret (hq : Q .ret fl σ) : U P orc aR .ret n fl σ Q := fun _ _ _ _ _ _ I => iP.ret ⟨rfl, fl, σ, I, hq⟩
theorem U.cond {x : Operand} {a b : Code} {c : Bool} (hc : aQ fl x = some (.v .bool c)) (hx : U P orc aR (if c then a else b) n fl σ Q) : U P orc aR (.cond x a b) n fl σ Q := fun h0 G S0 t h ms I =>
  iP.cond (cR I.aH hc : aI _ _ (.v .bool c) _).bool (hx h0 G S0 t h ms I)
theorem U.fN {x : Operand} {a b : Code} {c : Bool} (hc : aQ fl x = some (.v .bool c)) (ht : c = true -> U P orc aR a n fl σ Q) (hf : c = false -> U P orc aR b n fl σ Q) : U P orc aR (.cond x a b) n fl σ Q := by
  refine U.cond hc ?_
  cases c with
  | true => exact ht rfl
  | false => exact hf rfl
theorem U.b8 {x : Operand} {a b : Code} {p : Prop} {inst : Decidable p} (hc : aQ fl x = some (.v .bool (@decide p inst))) (ht : p -> U P orc aR a n fl σ Q) (hf : ¬ p -> U P orc aR b n fl σ Q) : U P orc aR (.cond x a b) n fl σ Q :=
  U.fN hc (fun h => ht (of_decide_eq_true h)) fun h => hf (of_decide_eq_false h)
theorem U.x6 {x : Operand} {a b : Code} (hc : aQ fl x = some (.v .bool true)) (hx : U P orc aR a n fl σ Q) : U P orc aR (.cond x a b) n fl σ Q := U.cond hc hx
theorem U.BA {x : Operand} {a b : Code} (hc : aQ fl x = some (.v .bool false)) (hx : U P orc aR b n fl σ Q) : U P orc aR (.cond x a b) n fl σ Q := U.cond hc hx
theorem U.aV {c : Code} (dJ : VL) (hs : TY fl dJ) (hx : U P orc aR c n dJ σ Q) : U P orc aR c n fl σ Q := fun h0 G S0 t h ms I => hx h0 G S0 t h ms (I.sub dJ (zQ hs))
theorem U.loop {c : Code} {I : Nat -> VL -> aM -> Prop} (hs : ∀ k fl σ, I k fl σ -> U P orc aR c n fl σ (anZ I k Q)) : ∀ k fl σ, I k fl σ -> U P orc aR (.loop c) n fl σ Q := by
  intro k
  induction k using Nat.strongRecOn with
  | ind k ih =>
    intro fl σ hI h0 G S0 t h ms Iv; refine iP.loop ((hs k fl σ hI h0 G S0 t h ms Iv).mono fun e fr h' hq => ?_); obtain ⟨hn, dJ, σ', I', q⟩ := hq
    cases e with
    | normal =>
      obtain ⟨t', n', ms'⟩ := fr; obtain rfl : n' = n := hn; obtain ⟨k', fl2, hk, gY, hI2⟩ := q
      exact ih k' hk fl2 σ' hI2 h0 G S0 t' h' ms' (I'.sub fl2 (zQ gY))
    | exit i => exact ⟨hn, dJ, σ', I', q⟩
    | ret => exact ⟨hn, dJ, σ', I', q⟩
theorem U.text {id : Nat} {ops : Array Oper} (hx : J P orc ops n ops.toList fl σ fun dJ σ' => Q .normal dJ σ') : U P orc aR (.region id ops false) n fl σ Q := fun h0 G S0 t h ms I =>
  iP.text (by
    obtain ⟨m, t', h', h1, dJ, σ', h2, h3⟩ := hx h0 G S0 t h ms I
    exact ⟨m, t', h', h1, rfl, dJ, σ', h2, h3⟩)
theorem J.nil (hk : K fl σ) : J P orc ops n [] fl σ K := fun _ _ _ _ _ _ I => oY.nil ⟨fl, σ, I, hk⟩
theorem ET (hp : σ.Perm σ') : (own σ).Perm (own σ') := hp.flatMap_right _
theorem Iv.perm (I : Iv h0 G S0 h σ t ms fl) (hp : σ.Perm σ') : Iv h0 G S0 h σ' t ms fl := by
  refine I.step (B := []) (fun b hb => by cases hb) (cK.refl h []) (fun b hb => .inl ((ET hp).mem_iff.2 hb)) ((ET hp).nodup_iff.1 I.apart) fun c hc => ?_
  have hN : dC h (own σ ++ S0) h (own σ' ++ S0) := dC.less fun b hb => by
    rcases List.mem_append.1 hb with hb | hb
    . exact List.mem_append_left _ ((ET hp).mem_iff.2 hb)
    exact List.mem_append_right _ hb
  exact (I.cells c (hp.mem_iff.2 hc)).aV (fun _ _ => rfl) hN fun b hb => List.mem_append_left _ (List.mem_flatMap.2 ⟨c, hc, hb⟩)
theorem J.perm (hp : σ.Perm σ') (hx : J P orc ops n l fl σ' K) : J P orc ops n l fl σ K := fun h0 G S0 t h ms I => hx h0 G S0 t h ms (I.perm hp)
theorem U.perm {c : Code} (hp : σ.Perm σ') (hx : U P orc aR c n fl σ' Q) : U P orc aR c n fl σ Q := fun h0 G S0 t h ms I => hx h0 G S0 t h ms (I.perm hp)
end Go.Fs
namespace Go.Fs
variable {P : Program} {orc : FuncId -> List Value -> Heap -> Option (Value × Heap)} {aR : Option Nat} {h h' h0 h1 h2 : Heap} {S S' S0 B G : List Nat} {σ σ' : aM} {t t' : Tr} {ms : List Nat} {fl : VL} {ops : Array Oper} {n : Nat} {l : List Oper} {K : VL -> aM -> Prop} {Q : Ex -> VL -> aM -> Prop}
  {d : Tmp} {ty : TypeId} {pos : String} {after : Array Edge} {op : Op} {v : PV} {g : Option (Nat × Bool)}
structure Lc (S0 : List Nat) (h : Heap) (σ : aM) (t : Tr) (fl : VL) : Prop where
  ok : nY h
  s0 : ∀ b ∈ S0, b < h.next
  cells : ∀ c ∈ σ, bL h (own σ ++ S0) c.1 c.2
  sep : ∀ b ∈ own σ, b ∉ S0
  apart : (own σ).Nodup
  aH : eR h (own σ ++ S0) t fl
theorem Iv.lc (I : Iv h0 G S0 h σ t ms fl) : Lc S0 h σ t fl := ⟨I.ok, fun b hb => Nat.lt_of_lt_of_le (I.s0 b hb) I.lH.next, I.cells, fun b hb => (I.new b hb).2, I.apart, I.aH⟩
theorem Lc.aB (L : Lc S0 h σ t fl) (hg : ∀ b, h'.get b = h.get b) (hn : h'.next = h.next) : Lc S0 h' σ t fl :=
  ⟨fun b o hb => by rw [hn]; exact L.ok b o (by rw [<- hg]; exact hb), fun b hb => by rw [hn]; exact L.s0 b hb, fun c hc => (L.cells c hc).aV (fun b _ => hg b) (dC.aB hg) fun b hb => List.mem_append_left _ (List.mem_flatMap.2 ⟨c, hc, hb⟩), L.sep, L.apart, L.aH.nx (dC.aB hg)⟩
theorem Lc.lt (L : Lc S0 h σ t fl) : ∀ b ∈ own σ ++ S0, b < h.next := fun b hb => by
  rcases List.mem_append.1 hb with hb | hb
  . exact I9 L.cells L.ok b hb
  exact L.s0 b hb
theorem GT.less (hs : GT h S) (hb : ∀ b, b ∈ S' -> b ∈ S) : GT h S' := hs.nx (dC.less hb)
theorem Lc.sok (L : Lc S0 h σ t fl) : YE h S0 := ⟨L.s0, L.aH.1.less fun b hb => List.mem_append_right _ hb⟩
theorem Lc.slt (L : Lc S0 h σ t fl) : TX h S0 := L.aH.1.slt L.ok L.s0
theorem Lc.ag6 (L : Lc S0 h σ t fl) : YE h (own σ ++ S0) := ⟨L.lt, L.aH.1⟩
def AS (h : Heap) (S : List Nat) (t : Tr) (fl : VL) (op : Op) : Prop := ∀ x ∈ op.operands.toList, ∀ pv, aQ fl x = some pv -> aI h S pv (aA t x)
theorem eR.rG (hs : eR h S t fl) : AS h S t fl op := fun _ _ _ hx => cR hs hx
def aF (P : Program) (fl : VL) (σ : aM) (op : Op) (v : PV) : Prop := calm op = true /\ ∀ (h : Heap) (S : List Nat) (t : Tr), AS h S t fl op -> (∀ c ∈ σ, bL h S c.1 c.2) ->
  ∃ u, aI h S v u /\ ∀ (d : Option Tmp) (ty : TypeId) (pos : String) (after : Array Edge) (g : Option (Nat × Bool)) (H : Heap), fJ P ⟨d, op, ty, pos, after, g⟩ (aA t) H = some (u, H)
def dV (P : Program) (fl : VL) (σ : aM) (op : Op) (v : PV) : Prop := calm op = false /\ ∀ (h : Heap) (S : List Nat) (t : Tr), AS h S t fl op -> (∀ c ∈ σ, bL h S c.1 c.2) ->
  ∃ u, aI h S v u /\ ∀ H : Heap, (∀ b o, h.get b = some o -> H.get b = some o) -> ∀ (d : Option Tmp) (ty : TypeId) (pos : String) (after : Array Edge) (g : Option (Nat × Bool)), fJ P ⟨d, op, ty, pos, after, g⟩ (aA t) H = some (u, H)
structure Made (S0 : List Nat) (h h' : Heap) (σ σ' : aM) : Prop where
  lH : cK h h' (own σ)
  new : ∀ b ∈ own σ', b ∈ own σ \/ h.next <= b
  apart : (own σ').Nodup
  cells : ∀ c ∈ σ', bL h' (own σ' ++ S0) c.1 c.2
theorem Iv.made (I : Iv h0 G S0 h σ t ms fl) (m : Made S0 h h' σ σ') : Iv h0 G S0 h' σ' t ms fl := I.step (fun _ hb => hb) m.lH m.new m.apart m.cells
def bO (P : Program) (fl : VL) (σ : aM) (op : Op) (T : PV -> aM -> Prop) : Prop := calm op = false /\ ∀ (S0 : List Nat) (h : Heap) (t : Tr), Lc S0 h σ t fl ->
  ∃ u h' v σ', T v σ' /\ Made S0 h h' σ σ' /\ aI h' (own σ' ++ S0) v u /\ ∀ (d : Option Tmp) (ty : TypeId) (pos : String) (after : Array Edge) (g : Option (Nat × Bool)), fJ P ⟨d, op, ty, pos, after, g⟩ (aA t) h = some (u, h')
def KP : Value -> Bool
  | .tuple ⟨[]⟩ => true
  | _ => false
def cV (ops : Array Oper) (fl : VL) : Option (Nat × Bool) -> Option Bool
  | none => some true
  | some (j, w) => match (ops[j]?).bind (·.dst) with
    | none => some false
    | some d => match kN fl d with
      | some (.v .bool b) => some (b == w)
      | some (.raw u) => bif KP u then some false else none
      | _ => none
theorem cE (hs : eR h S t fl) {o : Oper} {r : Bool} (hw : cV ops fl o.guard = some r) : b9 ops t o = some r := by
  unfold cV at hw; unfold b9; split at hw
  . rename_i hg; rw [hg]; exact hw
  rename_i j w hg; rw [hg]; split at hw
  . rename_i hd; simp only [hd]; exact hw
  rename_i d hd; simp only [hd]; split at hw
  . rename_i b hb; have := (hs d _ hb : aI h S (.v .bool b) _).bool; rw [this]; exact hw
  . rename_i u hb; have h1 : t.get d = u := hs d _ hb; rw [h1]
    cases hu : KP u with
    | false => rw [hu] at hw; cases hw
    | true =>
      rw [hu] at hw; obtain rfl := Option.some.inj hw; unfold KP at hu; split at hu
      . rfl
      cases hu
  cases hw
theorem fits (hn : (Nat.blt d n && Nat.ble n 4000) = true) : Nat.blt d n = true /\ d < 4000 := by
  obtain ⟨h1, h2⟩ := aT hn; exact ⟨h1, Nat.lt_of_lt_of_le (iH h1) (eP h2)⟩
theorem bN (hn : Nat.blt d n = true) (t : Tr) (u : Value) : put n t (some d) u = some (t.set depth d u) := by rw [ag2, hn]; rfl
theorem J.c (hs : aF P fl σ op v) (hk : J P orc ops n l ((d, v) :: fl) σ K) (hw : cV ops fl g = some true := by rfl) (hn : (Nat.blt d n && Nat.ble n 4000) = true := by rfl) : J P orc ops n (⟨some d, op, ty, pos, after, g⟩ :: l) fl σ K := fun h0 G S0 t h ms I => by
  obtain ⟨u, h1, h2⟩ := hs.2 h _ t I.aH.rG I.cells; obtain ⟨n1, n2⟩ := fits hn; exact oY.op (cE I.aH hw) (h2 _ _ _ _ _ h) (bN n1 t u) (hk h0 G S0 _ h ms (I.set h1 n2))
theorem J.r (hs : dV P fl σ op v) (hk : J P orc ops n l ((d, v) :: fl) σ K) (hw : cV ops fl g = some true := by rfl) (hn : (Nat.blt d n && Nat.ble n 4000) = true := by rfl) : J P orc ops n (⟨some d, op, ty, pos, after, g⟩ :: l) fl σ K := fun h0 G S0 t h ms I => by
  obtain ⟨u, h1, h2⟩ := hs.2 h _ t I.aH.rG I.cells; obtain ⟨n1, n2⟩ := fits hn; exact oY.op (cE I.aH hw) (h2 h (fun _ _ x => x) _ _ _ _ _) (bN n1 t u) (hk h0 G S0 _ h ms (I.set h1 n2))
theorem J.mk {T : PV -> aM -> Prop} (hs : bO P fl σ op T) (hk : ∀ v σ', T v σ' -> J P orc ops n l ((d, v) :: fl) σ' K) (hw : cV ops fl g = some true := by rfl) (hn : (Nat.blt d n && Nat.ble n 4000) = true := by rfl) : J P orc ops n (⟨some d, op, ty, pos, after, g⟩ :: l) fl σ K := fun h0 G S0 t h ms I => by
  obtain ⟨u, h', v, σ', h1, h2, h3, h4⟩ := hs.2 S0 h t I.lc; obtain ⟨n1, n2⟩ := fits hn; exact oY.op (cE I.aH hw) (h4 _ _ _ _ _) (bN n1 t u) (hk v σ' h1 h0 G S0 _ h' ms ((I.made h2).set h3 n2))
theorem J.AH {T : PV -> aM -> Prop} (hs : bO P fl σ op T) (hk : ∀ v σ', T v σ' -> J P orc ops n l fl σ' K) (hw : cV ops fl g = some true := by rfl) : J P orc ops n (⟨none, op, ty, pos, after, g⟩ :: l) fl σ K := fun h0 G S0 t h ms I => by
  obtain ⟨u, h', v, σ', h1, h2, h3, h4⟩ := hs.2 S0 h t I.lc; exact oY.op (cE I.aH hw) (h4 _ _ _ _ _) rfl (hk v σ' h1 h0 G S0 _ h' ms (I.made h2))
theorem J.skip (hk : J P orc ops n l ((d, .raw undef) :: fl) σ K) (hw : cV ops fl g = some false := by rfl) (hn : (Nat.blt d n && Nat.ble n 4000) = true := by rfl) : J P orc ops n (⟨some d, op, ty, pos, after, g⟩ :: l) fl σ K := fun h0 G S0 t h ms I => by
  obtain ⟨n1, n2⟩ := fits hn; exact oY.skip (cE I.aH hw) (bN n1 t undef) (hk h0 G S0 _ h ms (I.set (show aI _ _ (.raw undef) undef from rfl) n2))
theorem J.splitB {x : Tmp} {r : Bool} (hc : kN fl x = some (.v .bool r)) (ht : r = true -> J P orc ops n l ((x, .v .bool true) :: fl) σ K) (hf : r = false -> J P orc ops n l ((x, .v .bool false) :: fl) σ K) : J P orc ops n l fl σ K := fun h0 G S0 t h ms I => by
  have hx : Iv h0 G S0 h σ t ms ((x, .v .bool r) :: fl) := { I with aH := I.aH.cons (I.aH x _ hc) }
  cases r with
  | true => exact ht rfl h0 G S0 t h ms hx
  | false => exact hf rfl h0 G S0 t h ms hx
theorem J.jK {x : Tmp} {p : Prop} {inst : Decidable p} (hc : kN fl x = some (.v .bool (@decide p inst))) (ht : p -> J P orc ops n l ((x, .v .bool true) :: fl) σ K) (hf : ¬ p -> J P orc ops n l ((x, .v .bool false) :: fl) σ K) : J P orc ops n l fl σ K :=
  J.splitB hc (fun h => ht (of_decide_eq_true h)) fun h => hf (of_decide_eq_false h)
theorem Iv.cell0 (I : Iv h0 G S0 h σ t ms fl) (e : TypeId) (τ : Ty) : Iv h0 G S0 h ((.slice none 0 0, .row e τ []) :: σ) t ms fl := by
  have ho : own ((.slice none 0 0, .row e τ []) :: σ) = own σ := rfl; refine I.step (B := []) (fun b hb => by cases hb) (cK.refl h []) (fun b hb => .inl hb) I.apart fun c hc => ?_; rcases List.mem_cons.1 hc with rfl | hc
  . exact .inl ⟨rfl, rfl⟩
  exact I.cells c hc
theorem U.cell0 {c : Code} (e : TypeId) (τ : Ty) (hx : U P orc aR c n fl ((.slice none 0 0, .row e τ []) :: σ) Q) : U P orc aR c n fl σ Q := fun h0 G S0 t h ms I => hx h0 G S0 t h ms (I.cell0 e τ)
theorem Iv.forget {c : Value × Cell} (I : Iv h0 G S0 h (c :: σ) t ms fl) : Iv h0 G S0 h σ t ms fl := by
  have ho : own (c :: σ) = cD c.1 ++ own σ := rfl
  have gY : ∀ b ∈ own σ, b ∈ own (c :: σ) := fun b hb => by rw [ho]; exact List.mem_append_right _ hb
  refine I.step (B := []) (fun b hb => by cases hb) (cK.refl h []) (fun b hb => .inl (gY b hb)) ?_ fun d hd => ?_
  . have := I.apart; rw [ho] at this; exact (List.nodup_append.1 this).2.1
  refine (I.cells d (List.mem_cons_of_mem _ hd)).aV (fun _ _ => rfl) (dC.less fun b hb => ?_) fun b hb => List.mem_append_left _ (List.mem_flatMap.2 ⟨d, hd, hb⟩); rcases List.mem_append.1 hb with hb | hb
  . exact List.mem_append_left _ (gY b hb)
  exact List.mem_append_right _ hb
theorem J.forget {c : Value × Cell} (hx : J P orc ops n l fl σ K) : J P orc ops n l fl (c :: σ) K := fun h0 G S0 t h ms I => hx h0 G S0 t h ms I.forget
def iZ : (τ : Ty) -> τ.den -> List PV
  | .pair a b, x => iZ a x.1 ++ iZ b x.2
  | .unit, _ => []
  | .int k, n => [.v (.int k) n]
  | .bool, b => [.v .bool b]
  | .str, s => [.v .str s]
  | .bJ k, b => [.v (.bJ k) b]
  | .sl e, xs => [.v (.sl e) xs]
  | .mp a b, xs => [.v (.mp a b) xs]
  | .fn, f => [.v .fn f]
  | .mQ, f => [.v .mQ f]
theorem aX.split : ∀ {l l' : List PV} {us : List Value}, aX h S (l ++ l') us -> ∃ a b, us = a ++ b /\ aX h S l a /\ aX h S l' b
  | [], l', us, hx => ⟨[], us, rfl, rfl, hx⟩
  | p :: ps, l', us, ⟨u, r, h1, h2, h3⟩ => by
    obtain ⟨a, b, rfl, h5, h6⟩ := aX.split h3; exact ⟨u :: a, b, by rw [h1]; rfl, ⟨u, a, rfl, h2, h5⟩, h6⟩
theorem oT {τ : Ty} {x : τ.den} {us : List Value} (ha : τ.agg = false) (hx : aX h S [.v τ x] us) : cG h S τ us x := by
  obtain ⟨u, r, rfl, h2, rfl⟩ := hx; exact aE.last ha h2
theorem rH : ∀ {τ : Ty} {x : τ.den} {us : List Value}, aX h S (iZ τ x) us -> cG h S τ us x
  | .pair a b, x, us, hx => by
    obtain ⟨u1, u2, rfl, h1, h2⟩ := aX.split hx; have e1 := rH h1; have e2 := rH h2; have hl := e1.len
    exact ⟨by rw [List.take_left' hl]; exact e1, by rw [List.drop_left' hl]; exact e2⟩
  | .unit, x, us, hx => hx
  | .int k, x, us, hx => oT rfl hx
  | .bool, x, us, hx => oT rfl hx
  | .str, x, us, hx => oT rfl hx
  | .bJ k, x, us, hx => oT rfl hx
  | .sl e, x, us, hx => oT rfl hx
  | .mp a b, x, us, hx => oT rfl hx
  | .fn, x, us, hx => oT rfl hx
  | .mQ, x, us, hx => oT rfl hx
theorem kS : ∀ {τ : Ty} {x : τ.den} {us : List Value}, cG h S τ us x -> aX h S (iZ τ x) us
  | .pair a b, x, us, hx => by
    have e1 := kS hx.1; have e2 := kS hx.2; have := e1.append e2
    rwa [List.take_append_drop] at this
  | .unit, x, us, hx => hx
  | .int k, x, us, hx => let ⟨u, h1, h2⟩ := hx.one rfl; ⟨u, [], h1, h2, rfl⟩
  | .bool, x, us, hx => let ⟨u, h1, h2⟩ := hx.one rfl; ⟨u, [], h1, h2, rfl⟩
  | .str, x, us, hx => let ⟨u, h1, h2⟩ := hx.one rfl; ⟨u, [], h1, h2, rfl⟩
  | .bJ k, x, us, hx => let ⟨u, h1, h2⟩ := hx.one rfl; ⟨u, [], h1, h2, rfl⟩
  | .sl e, x, us, hx => let ⟨u, h1, h2⟩ := hx.one rfl; ⟨u, [], h1, h2, rfl⟩
  | .mp a b, x, us, hx => let ⟨u, h1, h2⟩ := hx.one rfl; ⟨u, [], h1, h2, rfl⟩
  | .fn, x, us, hx => let ⟨u, h1, h2⟩ := hx.one rfl; ⟨u, [], h1, h2, rfl⟩
  | .mQ, x, us, hx => let ⟨u, h1, h2⟩ := hx.one rfl; ⟨u, [], h1, h2, rfl⟩
mutual
/-- What is told of a slot, with own cells told asl data. -/
inductive Co (σ : aM) : PV -> PV -> Prop where
  | same {p : PV} : Co σ p p
  | row {w : Value} {e : TypeId} {τ : Ty} {xs : List τ.den} (hm : (w, Cell.row e τ xs) ∈ σ) : Co σ (.raw w) (.v (.sl τ) xs)
  | nil {τ : Ty} : Co σ (.raw (.slice none 0 0)) (.v (.sl τ) [])
  | cap {w : Value} {e : TypeId} {n : Nat} {τ : Ty} {xs : List τ.den} (hm : (w, Cell.cap e n τ xs) ∈ σ) : Co σ (.raw w) (.v (.sl τ) xs)
  | ar1 {κ ν : Ty} : Co σ (.raw (.map none)) (.v (.mp κ ν) [])
  | mp {w : Value} {κ ν : Ty} {nC : List (κ.den × ν.den)} (hm : (w, Cell.mp κ ν nC) ∈ σ) : Co σ (.raw w) (.v (.mp κ ν) nC)
  | var {p : Value} {cs : List PV} {τ : Ty} {x : τ.den} (hm : (p, Cell.var cs) ∈ σ) (hc : uT σ cs (iZ τ x)) : Co σ (.raw p) (.p τ x)
  | mR {f : FuncId} {a a' c c' : List PV} (ha : uT σ a a') (hc : uT σ c c') : Co σ (.mR f a c) (.mR f a' c')
  | nD {l l' : List PV} (hl : uT σ l l') : Co σ (.nD l) (.nD l')
  | sem {p p' : PV} (hs : ∀ (h : Heap) (S0 : List Nat) (u : Value), (∀ c ∈ σ, bL h (own σ ++ S0) c.1 c.2) -> (∀ b ∈ own σ, b ∉ S0) -> aI h (own σ ++ S0) p u -> aI h S0 p' u) : Co σ p p'
  | fS {w : Value} {e : TypeId} {n : Nat} {cs : List PV} {τ : Ty} {xs : List τ.den} (hm : (w, Cell.fS e n cs) ∈ σ) (hn : n = xs.length) (hc : uT σ cs (xs.flatMap (iZ τ))) : Co σ (.raw w) (.v (.sl τ) xs)
inductive uT (σ : aM) : List PV -> List PV -> Prop where
  | nil : uT σ [] []
  | cons {p p' : PV} {l l' : List PV} (hp : Co σ p p') (hl : uT σ l l') : uT σ (p :: l) (p' :: l')
end
theorem uT.refl : ∀ {l : List PV}, uT σ l l
  | [] => .nil
  | _ :: _ => .cons .same uT.refl
theorem acI {w : Value} {e : TypeId} {τ : Ty} {xs : List τ.den} (hc : bL h (S ++ S0) w (.row e τ xs)) (hs : ∀ b ∈ cD w, b ∉ S0) : kE h S0 τ w xs := by
  rcases hc with ⟨rfl, rfl⟩ | ⟨b, rs, m, rfl, h2, h3, h4⟩
  . exact .inl ⟨rfl, rfl⟩
  exact (h4.nx (dC.less fun c hc => List.mem_append_right _ hc)).slv h3 (hs b (by simp [cD]))
theorem acJ {w : Value} {e : TypeId} {n : Nat} {τ : Ty} {xs : List τ.den} (hc : bL h (S ++ S0) w (.cap e n τ xs)) (hs : ∀ b ∈ cD w, b ∉ S0) : kE h S0 τ w xs := by
  obtain ⟨b, rs, m, rfl, h2, h4, h5, h6, h7⟩ := hc; have hb : b ∉ S0 := hs b (by simp [cD]); have hle : xs.length * τ.size <= n * τ.size := Nat.mul_le_mul_right _ h6; refine .inr ⟨b, 0, 0, rfl, .inr ⟨hb, e, rs, true, m, h4, by omega, fun i hi => ?_⟩⟩; have h8 := (h7.nx (dC.less (S' := S0) fun c hc => List.mem_append_right _ hc)).2 i hi; have h9 : (i + 1) * τ.size <= xs.length * τ.size := Nat.mul_le_mul_right _ hi; rw [Nat.add_mul, Nat.one_mul] at h9; rw [List.drop_take, List.take_take, Nat.min_eq_left (by omega)] at h8; rw [Nat.zero_add]; exact h8
theorem ag7 {w : Value} {κ ν : Ty} {nC : List (κ.den × ν.den)} (hc : bL h (S ++ S0) w (.mp κ ν nC)) (hs : ∀ b ∈ cD w, b ∉ S0) : MpV h S0 κ ν w nC := by
  obtain ⟨b, es, c, rfl, h2, h3, h4, h5⟩ := hc; have hN : dC h (S ++ S0) h S0 := dC.less fun c hc => List.mem_append_right _ hc; exact .inr ⟨b, es, c, rfl, hs b (by simp [cD]), h3, h4, fun i hi hj => ⟨(h5 i hi hj).1.nx hN, (h5 i hi hj).2.nx hN⟩⟩
theorem CZ {τ : Ty} : ∀ {xs : List τ.den} {rs : List Value}, aX h S (xs.flatMap (iZ τ)) rs -> bC h S τ rs xs
  | [], rs, hx => by
    obtain rfl : rs = [] := hx
    exact ⟨by simp, fun i hi => absurd hi (by simp)⟩
  | x :: xs, rs, hx => by
    rw [List.flatMap_cons] at hx; obtain ⟨a, b, rfl, h1, h2⟩ := aX.split hx; have e1 := rH h1; have e2 := CZ (xs := xs) h2; have hl := e1.len; refine ⟨by rw [List.length_append, hl, e2.1, List.length_cons, Nat.add_mul, Nat.one_mul, Nat.add_comm], fun i hi => ?_⟩
    cases i with
    | zero =>
      rw [Nat.zero_mul, List.drop_zero, List.take_left' hl]
      exact e1
    | succ i =>
      have h3 := e2.2 i (by simpa using hi); rw [show (i + 1) * τ.size = a.length + i * τ.size by rw [hl, Nat.add_mul, Nat.one_mul, Nat.add_comm], List.drop_append, List.drop_eq_nil_of_le (by omega), List.nil_append, Nat.add_sub_cancel_left]; exact h3
mutual
theorem Co.ok (hc : ∀ c ∈ σ, bL h (own σ ++ S0) c.1 c.2) (hs : ∀ b ∈ own σ, b ∉ S0) : ∀ {p p' : PV} {u : Value}, Co σ p p' -> aI h (own σ ++ S0) p u -> aI h S0 p' u
  | _, _, u, .same, hu => hu.nx (dC.less fun b hb => List.mem_append_right _ hb)
  | _, _, u, .row hm, hu => by
    obtain rfl := hu
    exact (acI (hc _ hm) fun b hb => hs b (List.mem_flatMap.2 ⟨_, hm, hb⟩)).rep
  | _, _, u, .nil, hu => by obtain rfl := hu; exact kE.nil.rep
  | _, _, u, .ar1, hu => by obtain rfl := hu; exact MpV.rep (.inl ⟨rfl, rfl⟩)
  | _, _, u, .cap hm, hu => by
    obtain rfl := hu
    exact (acJ (hc _ hm) fun b hb => hs b (List.mem_flatMap.2 ⟨_, hm, hb⟩)).rep
  | _, _, u, .mp hm, hu => by
    obtain rfl := hu
    exact (ag7 (hc _ hm) fun b hb => hs b (List.mem_flatMap.2 ⟨_, hm, hb⟩)).rep
  | _, _, u, .var hm hl, hu => by
    obtain rfl := hu; obtain ⟨b, e, vs, h1, h2, h3, h4, h5⟩ := hc _ hm; have hr := rH (uT.ok hc hs hl h4); have hlen := hr.len; refine ⟨b, 0, e, vs, true, false, h1, hs b (List.mem_flatMap.2 ⟨_, hm, by rw [show u = _ from h1]; simp [cD]⟩), h3, by omega, ?_⟩; rw [List.drop_zero, List.take_of_length_le (by omega)]
    exact hr
  | _, _, u, .mR ha hcc, ⟨va, vc, h1, h2, h3⟩ => ⟨va, vc, h1, uT.ok hc hs ha h2, uT.ok hc hs hcc h3⟩
  | _, _, u, .nD hl, ⟨vs, h1, h2⟩ => ⟨vs, h1, uT.ok hc hs hl h2⟩
  | _, _, u, .sem hq, hu => hq _ _ _ hc hs hu
  | _, _, u, .fS hm hn hl, hu => by
    obtain rfl := hu; have hbs := fun b hb => hs b (List.mem_flatMap.2 ⟨_, hm, hb⟩); rcases hc _ hm with ⟨h1, h2, h3⟩ | ⟨b, rs, m, h1, h2, h3, h4, h5⟩
    . have hx := List.length_eq_zero_iff.1 (hn.symm.trans h2); subst hx; have nQ : u = _ := h1; rw [nQ]; exact kE.nil.rep
    have hr := CZ (uT.ok hc hs hl h4); have nQ : u = _ := h1; subst nQ; rw [hn]; exact (hr.slv h3 (hbs b (by simp [cD]))).rep
theorem uT.ok (hc : ∀ c ∈ σ, bL h (own σ ++ S0) c.1 c.2) (hs : ∀ b ∈ own σ, b ∉ S0) : ∀ {l l' : List PV} {us : List Value}, uT σ l l' -> aX h (own σ ++ S0) l us -> aX h S0 l' us
  | _, _, us, .nil, hu => hu
  | _, _, us, .cons hp hl, ⟨u, r, h1, h2, h3⟩ => ⟨u, r, h1, Co.ok hc hs hp h2, uT.ok hc hs hl h3⟩
end
inductive TZ (fl : VL) (c : Value × Cell) : VL -> Prop where
  | nil : TZ fl c []
  | cons {k : Nat} {p p' : PV} {r : VL} (hk : kN fl k = some p) (hc : Co [c] p p') (hr : TZ fl c r) : TZ fl c ((k, p') :: r)
theorem Iv.shut {c : Value × Cell} {nw : VL} (I : Iv h0 G S0 h (c :: σ) t ms fl) (hs : TZ fl c nw) : Iv h0 G S0 h σ t ms (nw ++ fl) := by
  have I' := I.forget; have ho : own (c :: σ) = cD c.1 ++ own σ := rfl
  have YF : own [c] = cD c.1 := by show cD c.1 ++ [] = _; rw [List.append_nil]
  have x7 : eR h (own σ ++ S0) t (nw ++ fl) := by
    clear I'
    induction hs with
    | nil => exact I.forget.aH
    | cons hk hc hr ih =>
      refine ih.cons (Co.ok (σ := [c]) (S0 := own σ ++ S0) (fun d hd => ?_) (fun b hb => ?_) hc ?_)
      . obtain rfl := List.mem_singleton.1 hd; have := I.cells d List.mem_cons_self; rw [YF, <- List.append_assoc, <- ho]; exact this
      . rw [YF] at hb; have h1 := I.apart; rw [ho] at h1; intro hm; rcases List.mem_append.1 hm with hm | hm
        . exact (List.nodup_append.1 h1).2.2 b hb b hm rfl
        exact (I.new b (by rw [ho]; exact List.mem_append_left _ hb)).2 hm
      rw [YF, <- List.append_assoc, <- ho]; exact I.aH _ _ hk
  exact { I' with aH := x7 }
theorem J.shut {c : Value × Cell} (nw : VL) (hs : TZ fl c nw) (hx : J P orc ops n l (nw ++ fl) σ K) : J P orc ops n l fl (c :: σ) K := fun h0 G S0 t h ms I => hx h0 G S0 t h ms (I.shut hs)
end Go.Fs
namespace Go.Fs
variable {P : Program} {orc : FuncId -> List Value -> Heap -> Option (Value × Heap)} {aR : Option Nat} {h h' h0 h1 h2 : Heap} {S S' S0 B G : List Nat} {σ σ' : aM} {t t' : Tr} {ms : List Nat} {fl : VL} {ops : Array Oper} {n : Nat} {l : List Oper} {K : VL -> aM -> Prop} {Q : Ex -> VL -> aM -> Prop}
  {d : Tmp} {ty : TypeId} {pos : String} {after : Array Edge} {op : Op} {v : PV} {g : Option (Nat × Bool)}
section
variable (P orc)
def VF (f : FuncId) (args : List PV) (r : PV) : Prop := ∀ (h : Heap) (S : List Nat) (us : List Value), nY h -> YE h S -> aX h S args us -> nP P orc f us h fun u h' => cK h h' [] /\ aI h' S r u /\ (r.flat = true -> h' = h)
def qQ (F : PV) (args : List PV) (r : PV) : Prop := ∃ f a c, F = .mR f a c /\ VF P orc f (a ++ args ++ c) r
end
theorem VF.call {f : FuncId} {args : List PV} {r : PV} (hf : VF P orc f args r) : qQ P orc (.mR f [] []) args r := ⟨f, [], [], rfl, by simpa using hf⟩
theorem VF.mR {f : FuncId} {a args c : List PV} {r : PV} (hf : VF P orc f (a ++ (args ++ c)) r) : qQ P orc (.mR f a c) args r := ⟨f, a, c, rfl, by rw [List.append_assoc]; exact hf⟩
theorem qQ.ev {F : PV} {args : List PV} {r : PV} (hc : qQ P orc F args r) {u : Value} {us : List Value} (aZ : nY h) (hS : YE h S) (hF : aI h S F u) (ha : aX h S args us) :
    ∃ f a c, u = .func (.func f) a c /\ nP P orc f (a.toList ++ us ++ c.toList) h fun u h' => cK h h' [] /\ aI h' S r u /\ (r.flat = true -> h' = h) := by
  obtain ⟨f, a, c, rfl, hv⟩ := hc; obtain ⟨va, vc, rfl, h1, h2⟩ := hF; exact ⟨f, va.toArray, vc.toArray, rfl, hv h S _ aZ hS ((h1.append ha).append h2)⟩
theorem J.call {f : Operand} {args : Array Operand} {lR : Array TypeId} {F r : PV} {q9 : List PV} (hf : aQ fl f = some F) (ha : lG fl args.toList = some q9) (hc : qQ P orc F q9 r) (hk : J P orc ops n l ((d, r) :: fl) σ K)
    (hw : cV ops fl g = some true := by rfl) (hn : (Nat.blt d n && Nat.ble n 4000) = true := by rfl) : J P orc ops n (⟨some d, .call { callee := .value f, args := args, argTypes := lR }, ty, pos, after, g⟩ :: l) fl σ K := fun h0 G S0 t h ms I => by
  obtain ⟨n1, n2⟩ := fits hn; obtain ⟨NT, a, c, h1, h2⟩ := hc.ev I.ok (Lc.ag6 I.lc) (cR I.aH hf) (rF I.aH ha); refine oY.call (cE I.aH hw) rfl rfl h1 (h2.mono fun u h' hq => ?_); obtain ⟨q1, q2, _⟩ := hq; exact ⟨_, bN n1 t u, hk h0 G S0 _ h' ms ((I.calm q1).set q2 n2)⟩
def qR : Nat -> List PV -> VL
  | _, [] => []
  | i, v :: r => (i, v) :: qR (i + 1) r
theorem oU : ∀ {l : List PV} {us : List Value} {i : Nat} {t : Tr}, GT h S -> aX h S l us -> i + us.length <= 4000 -> eR h S (j6 t i us) (qR i l)
  | [], us, i, t, hG, hx, _ => ⟨hG, fun k v hk => by cases hk⟩
  | p :: ps, us, i, t, hG, ⟨u, r, h1, h2, h3⟩, hl => by
    subst h1; rw [List.length_cons] at hl; show eR h S (j6 (t.set depth i u) (i + 1) r) ((i, p) :: qR (i + 1) ps); refine (oU hG h3 (by omega)).cons ?_; rw [EO r (t.set depth i u) (i + 1) (by omega), if_pos (by omega), vH t i u i (by omega), if_pos rfl]; exact h2
theorem ar2 {us : List Value} (h : us.all dQ = true) : us.all q6 = true := List.all_eq_true.2 fun u hu => by
  have h1 := List.all_eq_true.1 h u hu; cases u <;> first | exact h1 | cases h1
mutual
theorem aI.GG : ∀ {pv : PV} {u : Value}, q6 u = true -> aI h S pv u -> aI h' S' pv u
  | .v τ x, u, ha, hx => aE.vI (τ := τ) hx ha
  | .raw w, u, _, hx => hx
  | .p τ x, u, ha, hx => by
    obtain ⟨b, o, e, rs, own, more, rfl, _⟩ := hx
    cases ha
  | .mR f a c, u, ha, hx => by
    obtain ⟨va, vc, rfl, _⟩ := hx
    cases ha
  | .nD l, u, ha, hx => by
    obtain ⟨vs, rfl, _⟩ := hx
    cases ha
  | .gd b v, u, ha, hx => ⟨fun e => aI.GG ha (hx.1 e), hx.2⟩
  | .agg l, u, ha, hx => by
    obtain ⟨vs, rfl, h2⟩ := hx; exact ⟨vs, rfl, aX.GG (ar2 ha) h2⟩
theorem aX.GG : ∀ {l : List PV} {us : List Value}, us.all q6 = true -> aX h S l us -> aX h' S' l us
  | [], us, _, hx => hx
  | p :: ps, us, ha, ⟨u, r, h1, h2, h3⟩ => by
    subst h1; rw [List.all_cons] at ha; obtain ⟨a1, a2⟩ := aT ha; exact ⟨u, r, rfl, aI.GG a1 h2, aX.GG a2 h3⟩
end
theorem KQ {vs : Array Value} {τ : Ty} {x : τ.den} (hx : aE h S τ (.tuple vs) x) : False := by
  have h1 := hx.1; have h2 := hx.2
  cases HW : τ.agg with
  | true => rw [HW] at h1; cases h1
  | false =>
    cases τ with
    | sl e => obtain ⟨v, h3, h4⟩ := h2; simp [Value.cells] at h3; subst h3; rcases h4 with ⟨h4, _⟩ | ⟨_, _, _, h4, _⟩ <;> cases h4
    | pair a b => cases HW
    | unit => cases HW
    | mp a b => obtain ⟨v, h3, h4⟩ := h2; simp [Value.cells] at h3; subst h3; rcases h4 with ⟨h4, _⟩ | ⟨_, _, _, h4, _⟩ <;> cases h4
    | fn => cases x <;> simp [cG, Value.cells, TU] at h2
    | mQ => cases x <;> simp [cG, Value.cells, CU] at h2
    | int k => simp [cG, Value.cells] at h2
    | bool => simp [cG, Value.cells] at h2
    | str => simp [cG, Value.cells] at h2
    | bJ k => simp [cG, Value.cells] at h2
theorem aI.EU : ∀ {pv : PV} {u : Value}, af u = true -> aI h S pv u -> aI h' S' pv u
  | .nD l, u, ha, hx => by
    obtain ⟨vs, rfl, h2⟩ := hx
    exact ⟨vs, rfl, h2.GG ha⟩
  | .v τ x, u, ha, hx => by
    cases u with
    | tuple vs => exact (KQ hx).elim
    | _ => exact aI.GG (pv := .v τ x) ha hx
  | .p τ x, u, ha, hx => by
    obtain ⟨b, o, e, rs, own, more, rfl, _⟩ := hx
    cases ha
  | .raw w, u, ha, hx => hx
  | .mR f a c, u, ha, hx => by
    obtain ⟨va, vc, rfl, _⟩ := hx
    cases ha
  | .gd b v, u, ha, hx => ⟨fun e => aI.EU ha (hx.1 e), hx.2⟩
  | .agg l, u, ha, hx => by
    have h1 := hx; obtain ⟨vs, rfl, _⟩ := hx; exact aI.GG (pv := .agg l) ha h1
theorem sQ : ∀ {ms : List Nat} {h : Heap}, ms.Nodup -> (∀ d ∈ ms, h.get d = some .mM) -> ∃ h2, jS ms h = some h2 /\ cK h h2 ms /\ (∀ b, b ∉ ms -> h2.get b = h.get b)
  | [], h, _, _ => ⟨h, rfl, cK.refl _ _, fun _ _ => rfl⟩
  | d :: ms, h, hn, hd => by
    obtain ⟨JP, sK⟩ := List.nodup_cons.1 hn
    have hg : ∀ i ∈ ms, (h.drop d).get i = some .mM := fun i hi => by
      rw [Heap.cJ, if_neg (fun e => JP (by subst e; exact hi))]; exact hd i (List.mem_cons_of_mem _ hi)
    obtain ⟨h2, e1, e2, e3⟩ := sQ sK hg; refine ⟨h2, ?_, (cK.drop List.mem_cons_self).trans e2 fun i hi => .inl (List.mem_cons_of_mem _ hi), fun b hb => ?_⟩
    . simp only [jS, hd d List.mem_cons_self]; exact e1
    rw [List.mem_cons, not_or] at hb; rw [e3 b hb.2, Heap.cJ, if_neg hb.1]
inductive rY (P : Program) (fl : VL) (σ : aM) : ResultVar -> PV -> Prop where
  | tmp {i : Nat} {p p' : PV} (hi : kN fl i = some p) (hc : Co σ p p') : rY P fl σ (.tmp i) p'
  | cell {a : Nat} {ty : TypeId} {p : Value} {cs : List PV} {τ : Ty} {x : τ.den} (ha : kN fl a = some (.raw p)) (hm : (p, Cell.var cs) ∈ σ) (hT : gQ P ty τ) (hc : uT σ cs (iZ τ x)) : rY P fl σ (.cell a ty) (.v τ x)
inductive AT (P : Program) (fl : VL) (σ : aM) : List ResultVar -> List PV -> Prop where
  | nil : AT P fl σ [] []
  | cons {r : ResultVar} {p : PV} {rs : List ResultVar} {ps : List PV} (hr : rY P fl σ r p) (hs : AT P fl σ rs ps) : AT P fl σ (r :: rs) (p :: ps)
def KR : List PV -> PV
  | [p] => p
  | l => .nD l
def aW (P : Program) (fn : Func) (r : PV) : Ex -> VL -> aM -> Prop := fun e fl σ => e.goes = true /\ ∃ ps, AT P fl σ fn.results.toList ps /\ KR ps = r
theorem rY.ok (L : Lc S0 h σ t fl) (hg : ∀ b o, h.get b = some o -> o ≠ .mM -> h2.get b = some o) (hN : pQ h S0 h2 S0) {r : ResultVar} {p : PV} (he : rY P fl σ r p) : ∃ u, uZ P t h2 r = some u /\ aI h2 S0 p u := by
  cases he with
  | tmp hi hc => exact ⟨_, rfl, (hc.ok L.cells L.sep (L.aH _ _ hi)).mL hN⟩
  | @cell a ty p cs τ x ha hm hT hc =>
    have hp : t.get a = p := L.aH _ _ ha; have hr : aI h S0 (.p τ x) p := Co.ok L.cells L.sep (.var hm hc) (show aI h _ (.raw p) p from rfl); have l3 := (hr.mL hN : nZ h2 S0 τ p x); obtain ⟨e1, e2⟩ := l3.ag3 hT; exact ⟨_, by show eE P ty (t.get a) h2 = _; rw [hp]; exact e1, e2⟩
theorem AT.ok (L : Lc S0 h σ t fl) (hg : ∀ b o, h.get b = some o -> o ≠ .mM -> h2.get b = some o) (hN : pQ h S0 h2 S0) : ∀ {rs : List ResultVar} {ps : List PV}, AT P fl σ rs ps -> ∃ us, iT P t h2 rs = some us /\ aX h2 S0 ps us
  | _, _, .nil => ⟨[], rfl, rfl⟩
  | _, _, .cons hr hs => by
    obtain ⟨u, e1, e2⟩ := hr.ok L hg hN; obtain ⟨us, e3, e4⟩ := AT.ok L hg hN hs; exact ⟨u :: us, by simp only [iT, e1, e3], u, us, rfl, e2, e4⟩
theorem yJ : ∀ {ps : List PV} {us : List Value}, aX h S ps us -> aI h S (KR ps) (gE us)
  | [], us, hx => ⟨[], by rw [show us = [] from hx]; rfl, rfl⟩
  | [p], us, ⟨u, r, h1, h2, h3⟩ => by
    obtain rfl : r = [] := h3
    subst h1; exact h2
  | p :: q :: ps, us, hx => by
    obtain ⟨u, r, h1, h2, u2, r2, h3, h4, h5⟩ := hx; subst h1 h3; exact ⟨_, rfl, u, _, rfl, h2, u2, _, rfl, h4, h5⟩
theorem VF.enter {f : FuncId} {args : List PV} {fn : Func} {c : Code} {r : PV} (kX : P.funcs[f]? = some fn) (hc : fn.body = some c) (ho : ∀ us h, orc f us h = none) (hn : (Nat.blt 4000 fn.ntmps || Nat.blt fn.ntmps args.length) = false)
    (hb : U P orc none c fn.ntmps (qR 0 args) [] (aW P fn r)) : VF P orc f args r := fun h S us aZ hS ha => by
  have hl := ha.len
  have sK : Nat.blt 4000 fn.ntmps = false /\ Nat.blt fn.ntmps args.length = false := by simpa using hn
  have n3 := gI sK.1; have n4 := gI sK.2; have p5 : aX (entry h) S args us := aX.nx (h := h) (h' := entry h) (dC.aB fun _ => rfl) ha
  have I0 : Iv (entry h) [] S (entry h) [] (j6 .leaf 0 us) [] (qR 0 args) := {
    ok := aZ
    s0 := hS.1
    lH := cK.refl _ _
    cells := fun c hc => by cases hc
    new := fun b hb => by cases hb
    apart := List.nodup_nil
    mark := fun d hd => by cases hd
    marks := List.nodup_nil
    aH := oU (hS.2.nx (dC.aB fun _ => rfl)) p5 (by omega) }
  refine nP.enter kX hc (ho us h) (by rw [hl]; exact hn) ((hb (entry h) [] S _ (entry h) [] I0).mono fun e fr h1 hq => ?_); obtain ⟨_, dJ, σ', I, he, ps, AI, rfl⟩ := hq; obtain ⟨h2, d1, d2, d3⟩ := sQ I.marks fun d hd => (I.mark d hd).2
  have jL : ∀ b o, h1.get b = some o -> o ≠ .mM -> h2.get b = some o := fun b o hg cA => by
    rw [d3 b (fun hm => cA (by have := (I.mark b hm).2; rw [hg] at this; exact Option.some.inj this))]; exact hg
  have a2 : cK (entry h) h2 [] := I.lH.trans d2 fun i hi => .inr (I.mark i hi).1; have hN : pQ h1 S h2 S := fun b _ hg cA rS => ⟨jL b _ hg cA, rS⟩; obtain ⟨q8, e1, e2⟩ := AI.ok I.lc jL hN; have mD := yJ e2; have dN : h.next <= h2.low := a2.low h.next (Nat.le_refl _) (Nat.le_refl _) (by simp); refine ⟨he, h2, q8, d1, e1, ?_⟩; unfold leftOf
  have ar3 : Nat.ble h.next h2.low = true := by rw [Nat.ble_eq]; exact dN
  cases lV : af (gE q8) with
  | true =>
    rw [ar3]
    exact ⟨cK.refl _ _, mD.EU lV, fun _ => rfl⟩
  | false =>
    refine ⟨⟨a2.next, fun b hb _ => a2.get b hb (by simp), fun x => a2.ok x, fun e h3 h4 _ => Nat.le_min.2 ⟨h3, Nat.le_trans h4 dN⟩, fun b hb => .inl (a2.get b hb (by simp)), Nat.min_le_left _ _⟩, aI.nx (h := h2) (h' := { next := h2.next, low := min h.low h2.low, aB := h2.aB }) (fun _ _ a b => ⟨a, b⟩) mD, fun hf => ?_⟩; rw [(mD.flat hf).1] at lV; cases lV
end Go.Fs
