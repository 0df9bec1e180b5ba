/- Parts of the proof: an evaluator of the model, what it is sound for, and contracts of functions. No condition. -/
import Derived.Test.YthiofhkndpegjaaGreatDoorP2
import Derived.Test.YthiofhkndpegjaaGreatDoorP3
import Derived.Test.YthiofhkndpegjaaGreatDoorP5
set_option linter.all false
namespace Go.Fs
open Go.RowKit (Below)
variable {P : Program} {ops : Array Oper} {n : Nat}
def sameV : Value → Value → Bool
  | .int k a, .int k' b => decide (k = k') && decide (a = b)
  | .bool a, .bool b => decide (a = b)
  | _, _ => false
theorem sameV_eq {a b : Value} (h : sameV a b = true) : a = b := by
  unfold sameV at h
  split at h
  · obtain ⟨h1, h2⟩ := band h
    rw [of_decide_eq_true h1, of_decide_eq_true h2]
  · rw [of_decide_eq_true h]
  cases h
def sameL : List Value → List Value → Bool
  | [], [] => true
  | a :: r, b :: q => sameV a b && sameL r q
  | _, _ => false
theorem sameL_eq : ∀ {a b : List Value}, sameL a b = true → a = b
  | [], [], _ => rfl
  | [], _ :: _, h => by cases h
  | _ :: _, [], h => by cases h
  | a :: r, b :: q, h => by
    obtain ⟨h1, h2⟩ := band (h : (sameV a b && sameL r q) = true)
    rw [sameV_eq h1, sameL_eq h2]
def sameO : AObj → AObj → Bool
  | .row e cs o m, .row e' cs' o' m' => Nat.beq e e' && sameL cs cs' && decide (o = o') && decide (m = m')
  | _, _ => false
theorem sameO_eq {a b : AObj} (h : sameO a b = true) : a = b := by
  unfold sameO at h
  split at h
  · obtain ⟨h, h1⟩ := band h
    obtain ⟨h, h2⟩ := band h
    obtain ⟨h, h3⟩ := band h
    rw [nbeq h, sameL_eq h3, of_decide_eq_true h2, of_decide_eq_true h1]
  cases h
def okRd (rd : List (Nat × AObj)) (h : Heap) : Bool := rd.all fun p => match h.get p.1 with
  | some ob => sameO ob p.2
  | none => false
theorem stLook_mem {b : Nat} {ob : AObj} : ∀ {l : List (Nat × AObj)}, look l b = some ob → (b, ob) ∈ l
  | [], h => by cases h
  | (c, oc) :: r, h => by
    simp only [look] at h
    cases hc : Nat.beq c b with
    | true =>
      rw [hc] at h
      simp only [cond_true, Option.some.injEq] at h
      rw [nbeq hc, h]; exact List.mem_cons_self
    | false =>
      rw [hc] at h
      simp only [cond_false] at h
      exact List.mem_cons_of_mem _ (stLook_mem h)
theorem okRd_get {rd : List (Nat × AObj)} {h : Heap} (hk : okRd rd h = true) {b : Nat} {ob : AObj} (hl : look rd b = some ob) : h.get b = some ob := by
  have := List.all_eq_true.1 hk _ (stLook_mem hl)
  simp only at this
  split at this
  · rename_i o2 hg
    rw [hg, sameO_eq this]
  cases this
def stillR (P : Program) (rd : List (Nat × AObj)) (ops : Array Oper) (n : Nat) (o : Oper) (s : DSt) : Option DSt :=
  match fsWanted ops s.t o, o.op with
  | some true, .load T a =>
    match evalO s.t a with
    | .pointer (some p) =>
      match look rd p.block with
      | some ob =>
        match fsLoad P T (evalO s.t a) { next := s.h.next, low := s.h.next, objs := [(p.block, ob)] } with
        | some v => (put n s.t o.dst v).map fun t => { s with t, bs := s.bs ++ [beforeOf s.bs o] }
        | none => none
      | none => none
    | _ => none
  | _, _ => none
def fsDrawnY (P : Program) (rd : List (Nat × AObj)) (step : Oper → (Operand → Value) → Heap → Option (Value × Heap)) (ops : Array Oper) (n : Nat) : List Oper → Nat → DSt → Option DSt
  | [], _, s => bif okRd rd s.h then some s else none
  | o :: r, i, s => bif okRd rd s.h then
      match fsDraw step ops n o i s with
      | some s' => fsDrawnY P rd step ops n r (i + 1) s'
      | none => match stillR P rd ops n o s with
        | some s' => fsDrawnY P rd step ops n r (i + 1) s'
        | none => none
    else none
def fsReads (P : Program) (h0 : Heap) (step : Oper → (Operand → Value) → Heap → Option (Value × Heap)) (ops : Array Oper) (n : Nat) : List Oper → Nat → DSt → List (Nat × AObj) → List (Nat × AObj)
  | [], _, _, l => l
  | o :: r, i, s, l => match fsDraw step ops n o i s with
    | some s' => fsReads P h0 step ops n r (i + 1) s' l
    | none => match stillO P h0 ops n o s with
      | some (s', b) => match h0.get (b - 1) with
        | some ob => fsReads P h0 step ops n r (i + 1) s' ((b - 1, ob) :: l)
        | none => l
      | none => l
def drawnY (P : Program) (h0 : Heap) (step : Oper → (Operand → Value) → Heap → Option (Value × Heap)) (ops : Array Oper) (n : Nat) (s : DSt) (rd : List (Nat × AObj)) : Option DSt :=
  bif rd.all fun p => Nat.blt p.1 h0.next then fsDrawnY P rd step ops n ops.toList 0 s else none

theorem stillR_of {call : FuncId → List Value → Heap → Option (Value × Heap)} {yield : Nat → List Value → Heap → Option (Value × Heap)} {X : Nat → AObj → Prop} {rd : List (Nat × AObj)} {o : Oper} {i : Nat} {s s' : DSt}
    (hf : stillR P rd ops n o s = some s') (hX : ∀ c ob, look rd c = some ob → X c ob) :
    s'.bs = s.bs ++ [beforeOf s.bs o] ∧ Did (fsOp P call yield) ops n X o i s s' := by
  unfold stillR at hf
  split at hf
  · rename_i T a hw hop
    split at hf
    · rename_i p hev
      split at hf
      · rename_i ob hg
        split at hf
        · rename_i v hv
          obtain ⟨t, h3, h4⟩ := Option.map_eq_some_iff.1 hf
          subst h4
          refine ⟨rfl, .still hw v [(p.block, ob)] (fun c oc hc => ?_) ?_ h3 rfl rfl rfl rfl⟩
          · simp only [look] at hc
            cases hbc : Nat.beq p.block c with
            | true =>
              rw [hbc] at hc
              simp only [cond_true, Option.some.injEq] at hc
              obtain rfl := nbeq hbc
              subst hc
              exact hX _ _ hg
            | false => rw [hbc] at hc; cases hc
          unfold fsOp
          rw [hop]
          simp only [hv, Option.map_some]
        cases hf
      cases hf
    cases hf
  cases hf
theorem drawnY_trace {call : FuncId → List Value → Heap → Option (Value × Heap)} {yield : Nat → List Value → Heap → Option (Value × Heap)} {rd : List (Nat × AObj)} : ∀ (l : List Oper) (i : Nat) (s s' : DSt), fsDrawnY P rd (fsOp P call yield) ops n l i s = some s' →
    ∃ st : Nat → DSt, st i = s ∧ st (i + l.length) = s' ∧ (∀ q, i ≤ q → q ≤ i + l.length → okRd rd (st q).h = true) ∧
    ∀ j o, l[j]? = some o → ∀ X : Nat → AObj → Prop, (∀ c ob, look rd c = some ob → X c ob) → (st (i + j + 1)).bs = (st (i + j)).bs ++ [beforeOf (st (i + j)).bs o] ∧ Did (fsOp P call yield) ops n X o (i + j) (st (i + j)) (st (i + j + 1))
  | [], i, s, s', h => by
    simp only [fsDrawnY] at h
    obtain ⟨h1, h2⟩ := bif_some h
    simp only [Option.some.injEq] at h2
    subst h2
    exact ⟨fun _ => s, rfl, rfl, fun _ _ _ => h1, fun j o hj => by simp at hj⟩
  | o :: l, i, s, s', h => by
    simp only [fsDrawnY] at h
    obtain ⟨hok, h⟩ := bif_some h
    have key : ∀ s1, fsDrawnY P rd (fsOp P call yield) ops n l (i + 1) s1 = some s' →
        (∀ X : Nat → AObj → Prop, (∀ c ob, look rd c = some ob → X c ob) → s1.bs = s.bs ++ [beforeOf s.bs o] ∧ Did (fsOp P call yield) ops n X o i s s1) →
      ∃ st : Nat → DSt, st i = s ∧ st (i + (o :: l).length) = s' ∧ (∀ q, i ≤ q → q ≤ i + (o :: l).length → okRd rd (st q).h = true) ∧
        ∀ j o', (o :: l)[j]? = some o' → ∀ X : Nat → AObj → Prop, (∀ c ob, look rd c = some ob → X c ob) → (st (i + j + 1)).bs = (st (i + j)).bs ++ [beforeOf (st (i + j)).bs o'] ∧ Did (fsOp P call yield) ops n X o' (i + j) (st (i + j)) (st (i + j + 1)) := fun s1 hr hd => by
      obtain ⟨st, h1, h2, hq, h3⟩ := drawnY_trace l (i + 1) s1 s' hr
      refine ⟨fun k => if k = i then s else st k, by simp, ?_, fun q hq1 hq2 => ?_, fun j o' hj X hX => ?_⟩
      · simp only [List.length_cons]
        rw [if_neg (by omega), ← h2]
        congr 1; omega
      · rw [List.length_cons] at hq2
        by_cases e : q = i
        · subst e; simpa using hok
        simp only [if_neg e]; exact hq q (by omega) (by omega)
      cases j with
      | zero =>
        simp at hj
        subst hj
        simpa [h1] using hd X hX
      | succ j =>
        simp only [List.getElem?_cons_succ] at hj
        have := h3 j o' hj X hX
        rw [show i + 1 + j = i + (j + 1) by omega] at this
        simp only
        rw [if_neg (by omega), if_neg (by omega)]
        exact this
    split at h
    · rename_i s1 hs1
      exact key s1 h fun X _ => did_of hs1
    split at h
    · rename_i s1 hs1
      exact key s1 h fun X hX => stillR_of hs1 hX
    cases h
theorem traceY_of {call : FuncId → List Value → Heap → Option (Value × Heap)} {yield : Nat → List Value → Heap → Option (Value × Heap)} {t0 : Tr} {h0 : Heap} {s : DSt} {rd : List (Nat × AObj)} (h : drawnY P h0 (fsOp P call yield) ops n ⟨t0, h0, [], [], 0, false⟩ rd = some s) : ∃ st, Trace (fsOp P call yield) ops n st t0 h0 ∧ st ops.size = s := by
  unfold drawnY at h
  obtain ⟨hb, h⟩ := bif_some h
  obtain ⟨st, h1, h2, hq, h3⟩ := drawnY_trace _ _ _ _ h
  have h2' : st ops.size = s := by simpa using h2
  refine ⟨st, ⟨h1, fun i o ho => ?_⟩, h2'⟩
  have := h3 i o (by simpa using ho) (fun b ob => h0.get b = some ob ∧ b < h0.next ∧ (b < (st ops.size).h.low ∨ ∀ q, q ≤ ops.size → (st q).h.get b = some ob)) (fun c ob hc => ?_)
  · simpa only [Nat.zero_add] using this
  have hall : ∀ q, q ≤ ops.size → (st q).h.get c = some ob := fun q hq2 => okRd_get (hq q (Nat.zero_le _) (by simpa using hq2)) hc
  have h0 := hall 0 (Nat.zero_le _)
  rw [h1] at h0
  exact ⟨h0, nblt (List.all_eq_true.1 hb _ (stLook_mem hc)), .inr hall⟩
variable {B : Nat} {w0 : World} {S : Nat → Prop} {ρ0 : Ren} {call : FuncId → List Value → Heap → Option (Value × Heap)} {yield : Nat → List Value → Heap → Option (Value × Heap)} {t0 : Tr} {h0 : Heap}
theorem drawn_wpY (hcs : CallSnd P B w0 call) (hys : YieldSound P B w0 yield) (hok : regionOk ops = true) {s : DSt} {rd : List (Nat × AObj)} (hf : drawnY P h0 (fsOp P call yield) ops n ⟨t0, h0, [], [], 0, false⟩ rd = some s)
    {w : World} {a : Act} (hr : HR P ρ0 S B w0 h0 w) (ht : TrR ρ0 S t0 n a.tmps) {r : Option Nat} {nn : Nat} {Q : Exit → Act → World → Prop}
    (k : ∀ ρ' w' a', Moved P B w0 ρ0 ρ' S h0 s.h w w' → TrR ρ' (Ext S h0 s.h) s.t n a'.tmps → a'.defers = a.defers → Q .normal a' w') (t : Nat) :
    wpOpsIn (Wide r) nn P ops Q (Region.schedule true ops t) a w := drawn_wpT hcs hys hok (traceY_of hf) hr ht k t
end Go.Fs
namespace Go.Fs
open Go.RowKit (Below)
variable {P : Program} {B : Nat} {w0 : World}

def fsStepX (P : Program) (orc : FuncId → List Value → Heap → Option (Value × Heap)) (rec : Rec) : Rec := fun rnd c fr h =>
  match c with
  | .region _ ops true => match drawnX P { next := h.next, low := h.next, objs := h.objs } (fsOp P (callOf P orc rec) (fsYield rec)) ops fr.n ⟨fr.t, { next := h.next, low := h.next, objs := h.objs }, [], [], 0, false⟩ with
    | some s => some (.normal, { t := s.t, n := fr.n, marks := fr.marks }, { next := s.h.next, low := min h.low s.h.low, objs := s.h.objs })
    | none => match drawnY P { next := h.next, low := h.next, objs := h.objs } (fsOp P (callOf P orc rec) (fsYield rec)) ops fr.n ⟨fr.t, { next := h.next, low := h.next, objs := h.objs }, [], [], 0, false⟩ (fsReads P { next := h.next, low := h.next, objs := h.objs } (fsOp P (callOf P orc rec) (fsYield rec)) ops fr.n ops.toList 0 ⟨fr.t, { next := h.next, low := h.next, objs := h.objs }, [], [], 0, false⟩ []) with
      | some s => some (.normal, { t := s.t, n := fr.n, marks := fr.marks }, { next := s.h.next, low := min h.low s.h.low, objs := s.h.objs })
      | none => fsStep P orc rec rnd c fr h
  | c => fsStep P orc rec rnd c fr h
def fsCodeX (P : Program) (orc : FuncId → List Value → Heap → Option (Value × Heap)) : Nat → Rec
  | 0 => fun _ _ _ _ => none
  | n + 1 => fsStepX P orc (fsCodeX P orc n)

theorem HR.low {ρ : Ren} {S : Nat → Prop} {h : Heap} {w : World} (hr : HR P ρ S B w0 h w) (l : Nat) : HR P ρ S B w0 { next := h.next, low := l, objs := h.objs } w :=
  { objs := hr.objs, inj := hr.inj, base := hr.base, ro := hr.ro, ids := hr.ids, pos := hr.pos, below := hr.below, drawn := hr.drawn, size := hr.size }
theorem Moved.lowered {ρ ρ' : Ren} {S : Nat → Prop} {h h' : Heap} {w w' : World} {l : Nat} (m : Moved P B w0 ρ ρ' S { next := h.next, low := l, objs := h.objs } h' w w') :
    Moved P B w0 ρ ρ' S h { next := h'.next, low := min h.low h'.low, objs := h'.objs } w w' where
  agree := m.agree
  next := m.next
  hr := m.hr.low _
  frame := ⟨m.frame.os, m.frame.tape, m.frame.output, m.frame.size, m.frame.block⟩
  low := Nat.min_le_left _ _
  keep := fun i hi hl => m.keep i hi (Nat.lt_of_lt_of_le hl (Nat.min_le_right _ _))
  old := m.old
  fresh := fun i o ho hi => by
    obtain ⟨h1, h2⟩ := m.fresh i o ho hi
    refine ⟨h1, ?_⟩
    rcases h2 with h2 | ⟨j, oj, h3, h4, h5, h6, h7⟩
    · exact .inl h2
    exact .inr ⟨j, oj, h3, h4, h5, Nat.le_trans (Nat.min_le_right _ _) h6, h7⟩
theorem stepX_sound (hP : ProgOk P) {orc : FuncId → List Value → Heap → Option (Value × Heap)} (horc : CallSound P B w0 orc) {m : Nat} {rec : Rec} (hrec : SoundR P B w0 m rec) : SoundR P B w0 (m + 1) (fsStepX P orc rec) := by
  have hcs : CallSnd P B w0 (callOf P orc rec) := call_sound hP horc hrec
  have hys : YieldSound P B w0 (fsYield rec) := yield_sound hrec
  have hold := step_sound hP horc hrec
  intro rnd c fr h e fr' h' hok hf
  cases c with
  | region id ops draw =>
    cases draw with
    | false => exact hold rnd _ fr h e fr' h' hok hf
    | true =>
      intro ρ S w a nn Q hr ht hm hs k
      simp only [fsStepX] at hf
      split at hf
      · rename_i s hrun
        simp only [Option.some.injEq, Prod.mk.injEq] at hf
        obtain ⟨rfl, rfl, rfl⟩ := hf
        refine wpIn_region_draw fun t => ?_
        rw [hP.mixed]
        exact drawn_wpX (h0 := { next := h.next, low := h.next, objs := h.objs }) (call := callOf P orc rec) (yield := fsYield rec) hcs hys hok hrun ((hr.drew _).low _) ht (fun ρ1 w1 a1 m1 ht1 hd1 => k _ _ _ ⟨(Moved.ofDrew m1).lowered, ht1, by rw [hd1]; exact hm.mono fun b hb => ⟨.inl hb, m1.agree b hb⟩⟩) t
      split at hf
      · rename_i s hrun
        simp only [Option.some.injEq, Prod.mk.injEq] at hf
        obtain ⟨rfl, rfl, rfl⟩ := hf
        refine wpIn_region_draw fun t => ?_
        rw [hP.mixed]
        exact drawn_wpY (h0 := { next := h.next, low := h.next, objs := h.objs }) (call := callOf P orc rec) (yield := fsYield rec) hcs hys hok hrun ((hr.drew _).low _) ht (fun ρ1 w1 a1 m1 ht1 hd1 => k _ _ _ ⟨(Moved.ofDrew m1).lowered, ht1, by rw [hd1]; exact hm.mono fun b hb => ⟨.inl hb, m1.agree b hb⟩⟩) t
      exact hold rnd _ fr h e fr' h' hok hf ρ S w a nn Q hr ht hm hs k
  | _ => exact hold rnd _ fr h e fr' h' hok hf

theorem codeX_sound (hP : ProgOk P) {orc : FuncId → List Value → Heap → Option (Value × Heap)} (horc : CallSound P B w0 orc) : ∀ m, SoundR P B w0 m (fsCodeX P orc m)
  | 0 => fun rnd c fr h e fr' h' _ hf => by cases hf
  | m + 1 => stepX_sound hP horc (codeX_sound hP horc m)
theorem fsX_calls (hP : ProgOk P) {orc : FuncId → List Value → Heap → Option (Value × Heap)} (horc : CallSound P B w0 orc) (m : Nat) : CallSound P B w0 (fsEnter P (fsCodeX P orc m)) := enter_sound hP (codeX_sound hP horc m)
theorem fsX_closed (hP : ProgOk P) {w : World} {orc : FuncId → List Value → Heap → Option (Value × Heap)} (horc : CallSound P w.heap.size (wz w) orc) {m : Nat} {f : FuncId} {args : List Value} {v : Value} (ha : args.all af = true)
    (hf : (fsEnter P (fsCodeX P orc m) f args ⟨1, 1, []⟩).map (·.1) = some v) (hv : af v = true) :
    Calls P f args.toArray w fun | .returned v', w' => v' = v ∧ Below w.heap.size w w' | _, _ => False := by
  obtain ⟨⟨v0, h0⟩, h1, h2⟩ := Option.map_eq_some_iff.1 hf
  simp only at h2
  subst h2
  have hr : HR P (fun _ => Loc.clean 0 0 0 0) (fun _ => False) w.heap.size (wz w) ⟨1, 1, []⟩ w :=
    { objs := fun i o hi => (by cases hi), inj := fun i j oi oj hi => (by cases hi), base := fun i o hi => (by cases hi), ro := fun i o hi => (by cases hi), ids := fun b hb => hb.elim, pos := by decide,
      below := z_below (Below.refl _ _), drawn := Nat.zero_le _, size := Nat.le_refl _ }
  have hc := ((fsX_calls hP horc m) f args _ _ _ h1).2 _ _ w args hr ⟨rfl, fun i hi => .of_af (List.all_eq_true.1 ha _ (mem_getD hi))⟩ 0
  refine Calls.mono (callsIn_wide.1 hc) fun e w' he => ?_
  cases e with
  | returned v' =>
    obtain ⟨ρ', m1, hv1⟩ := he
    exact ⟨hv1.eq_of_af hv, below_z m1.hr.below⟩
  | panicked c => exact he.elim
  | outgrown => exact he.elim
theorem awakeX_calls (hP : ProgOk P) {B : Nat} {w0 : World} {O : FuncId → List Value → Heap → Option (Value × Heap)} {fa : FuncId} (hS : ∀ w, Below B w0 w → CallSound P w.heap.size (wz w) O) {m : Nat}
    (hrun : (fsEnter P (fsCodeX P O m) fa [] ⟨1, 1, []⟩).map (·.1) = some (.bool true)) (w : World) (hw : Below B w0 w) :
    Calls P fa #[] w fun | .returned v', w' => v' = .bool true ∧ Below w.heap.size w w' | _, _ => False :=
  fsX_closed hP (hS w hw) (args := []) rfl hrun rfl
end Go.Fs
namespace Go.Fs
variable {P : Program} {orc : FuncId → List Value → Heap → Option (Value × Heap)}
def runPre (P : Program) (orc : FuncId → List Value → Heap → Option (Value × Heap)) : Nat → Nat → Code → Fr → Heap → Option (Nat × Code × Fr × Heap)
  | 0, n, c, fr, h => some (n, c, fr, h)
  | k + 1, n, c, fr, h => match n, c with
    | n + 1, .seq a b => match fsCodeX P orc n none a fr h with
      | some (.normal, fr1, h1) => runPre P orc k n b fr1 h1
      | _ => none
    | _, _ => none
theorem run_via : ∀ {k n : Nat} {c : Code} {fr : Fr} {h : Heap} {n' : Nat} {c' : Code} {fr' : Fr} {h' : Heap}, runPre P orc k n c fr h = some (n', c', fr', h') → fsCodeX P orc n none c fr h = fsCodeX P orc n' none c' fr' h'
  | 0, n, c, fr, h, n', c', fr', h', hr => by
    simp only [runPre, Option.some.injEq, Prod.mk.injEq] at hr
    obtain ⟨rfl, rfl, rfl, rfl⟩ := hr
    rfl
  | k + 1, n, c, fr, h, n', c', fr', h', hr => by
    simp only [runPre] at hr
    split at hr
    · rename_i n a b
      split at hr
      · rename_i fr1 h1 ha
        rw [← run_via hr]
        show fsStep P orc (fsCodeX P orc n) none (.seq a b) fr h = _
        simp only [fsStep, ha]
      cases hr
    cases hr
def endV (P : Program) (fn : Func) (h : Heap) (x : Ex × Fr × Heap) : Option Value :=
  bif x.1.goes then
    match dropMarks x.2.1.marks x.2.2 with
    | some h2 => (fsResults P x.2.1.t h2 fn.results.toList).map tupled
    | none => none
  else none
theorem enter_map {rec : Rec} {f : FuncId} {args : List Value} {h : Heap} {fn : Func} {c : Code} (hf : P.funcs[f]? = some fn) (hc : fn.body = some c) (hn : (Nat.blt 4000 fn.ntmps || Nat.blt fn.ntmps args.length) = false) :
    (fsEnter P rec f args h).map (·.1) = (rec none c ⟨fillTr .leaf 0 args, fn.ntmps, []⟩ { next := h.next, low := h.next, objs := h.objs }).bind (endV P fn h) := by
  unfold fsEnter fsEnterK endV
  simp only [hf, hc, hn, cond_false]
  cases rec none c ⟨fillTr .leaf 0 args, fn.ntmps, []⟩ { next := h.next, low := h.next, objs := h.objs } with
  | none => rfl
  | some x =>
    obtain ⟨e, fr, h1⟩ := x
    simp only [Option.bind_some]
    cases e.goes with
    | false => rfl
    | true =>
      simp only [cond_true]
      cases dropMarks fr.marks h1 with
      | none => rfl
      | some h2 =>
        simp only
        cases fsResults P fr.t h2 fn.results.toList with
        | none => rfl
        | some vs =>
          simp only [Option.map_some]
          generalize (!false && (af (tupled vs) && Nat.ble h.next h2.low)) = q
          cases q <;> rfl
def sufx : Nat → Code → Code
  | 0, c => c
  | k + 1, .seq _ b => sufx k b
  | _ + 1, c => c
def rfOf : Code → Option (Array Tmp × Code × Code)
  | .rangeFunc _ ps a b => some (ps, a, b)
  | .seq a b => (rfOf a).or (rfOf b)
  | .cond _ a b => (rfOf a).or (rfOf b)
  | .block _ b => rfOf b
  | .loop b => rfOf b
  | .scope b => rfOf b
  | _ => none
def rfIn (fn : Func) : Array Tmp × Code × Code := (fn.body.bind rfOf).getD (#[], .skip, .skip)
end Go.Fs
namespace Go.Fs
open Go.RowKit (Below)

variable {P : Program} {B : Nat} {w0 : World}
theorem orcI_sound {fi : FuncId} (hz : w0.drawn = 0) (hi : Enters P fi)
    (hI : ∀ (n : Int) (w : World), Below B w0 w → -9223372036854775808 ≤ n → n ≤ 9223372036854775807 → Calls P fi #[.int .i64 n] w fun e w' => e = .returned (.string ⟨(Lib.itoa n).toArray⟩) ∧ Below w.heap.size w w') : CallSound P B w0 (orcS fi fi) := by
  intro f xs h v h' hf
  unfold orcS at hf
  cases hfi : Nat.beq f fi with
  | true =>
    have := nbeq hfi
    subst this
    rw [hfi] at hf
    simp only [cond_true] at hf
    split at hf
    · rename_i n
      obtain ⟨hc, hf2⟩ := bif_some hf
      obtain ⟨h0, h1⟩ := band hc
      have h0 := of_decide_eq_true h0
      have h1 := of_decide_eq_true h1
      simp only [Option.some.injEq, Prod.mk.injEq] at hf2
      obtain ⟨rfl, rfl⟩ := hf2
      refine ⟨hi, fun ρ S w args' hr ha nn => ?_⟩
      have he : args' = [.int .i64 n] := ha.eq_of_af (by rfl)
      subst he
      have hC : CallsIn Fence.wide nn P f #[.int .i64 n] w _ := callsIn_wide.2 (hI n w hr.below (by omega) (by omega))
      refine hC.mono fun e w' hret => ?_
      obtain ⟨rfl, hb⟩ := hret
      exact ⟨ρ, Moved.grewWorld hr hb (by rw [hz]; exact Nat.zero_le _), by rw [itoaF_eq h0 h1]; exact .lit rfl⟩
    cases hf
  | false =>
    rw [hfi] at hf
    simp only [cond_false] at hf
    cases hf
end Go.Fs
