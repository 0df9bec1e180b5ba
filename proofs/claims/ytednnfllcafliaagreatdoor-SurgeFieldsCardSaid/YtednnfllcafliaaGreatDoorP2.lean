/- The evaluator's runs over frames of which some slots are known. No condition. The evaluator's runs: calls. No condition. The evaluator's heaps that grow. No condition. The evaluator's append, one element at a time. No condition. The evaluator's runs: calls, in the text's order and in drawn regions. No condition. The evaluator's runs: operations that make something, or turn it. No condition. Data on the evaluator's heap, by their types: numbers, strings, slices and structs, to any depth. No condition. Slices that grow, of whatever elements: append, stores. No condition. Steps over data: boxes, literals, appends, calls, loops, results. No condition. Steps over data in regions whose order is drawn. No condition. Steps on whole numbers, without wrapping where they fit; tests as propositions. No condition. Boxes that are written: variables behind a pointer. No condition. Structs, built of their fields. No condition. -/
import Derived.Test.YtednnfllcafliaaGreatDoorP1
set_option linter.all false
namespace Go.Fs
variable {P : Program} {orc : FuncId → List Value → Heap → Option (Value × Heap)} {rnd : Option Nat} {h : Heap}

abbrev FL := List (Nat × Value)
def lk : FL → Nat → Option Value
  | [], _ => none
  | (k, v) :: r, i => bif Nat.beq k i then some v else lk r i
def TrIs (fl : FL) (t : Tr) : Prop := ∀ k v, lk fl k = some v → t.get k = v
def evL (fl : FL) : Operand → Option Value
  | .tmp i => lk fl i
  | .const v => if af v then some v else none
  | .global _ => none
  | .func f => some (.func (.func f) #[] #[])
theorem evL_ok {fl : FL} {t : Tr} (ht : TrIs fl t) {x : Operand} {v : Value} (hx : evL fl x = some v) : evalO t x = v := by
  cases x with
  | tmp i => exact ht i v hx
  | const u =>
    simp only [evL] at hx
    simp only [evalO]
    split at hx
    · rename_i h1; rw [if_pos h1]; exact Option.some.inj hx
    · cases hx
  | global g => cases hx
  | func f => exact Option.some.inj hx
theorem TrIs.set {fl : FL} {t : Tr} (ht : TrIs fl t) (d : Nat) (v : Value) (hd : d < 4000) : TrIs ((d, v) :: fl) (t.set depth d v) := by
  intro k u hk
  rw [get_setD t d v k hd]
  simp only [lk] at hk
  cases hb : Nat.beq d k with
  | true => rw [hb] at hk; simp only [cond_true, Option.some.injEq] at hk; rw [if_pos (nbeq hb).symm]; exact hk
  | false => rw [hb] at hk; simp only [cond_false] at hk; rw [if_neg (Ne.symm (ne_of_no hb))]; exact ht k u hk
theorem TrIs.sub {fl : FL} {t : Tr} (ht : TrIs fl t) (fl' : FL) (hs : ∀ p ∈ fl', lk fl p.1 = some p.2) : TrIs fl' t := by
  intro k v hk
  have : (k, v) ∈ fl' := by
    clear hs
    induction fl' with
    | nil => cases hk
    | cons p r ih =>
      obtain ⟨i, u⟩ := p
      simp only [lk] at hk
      cases hb : Nat.beq i k with
      | true => rw [hb] at hk; simp only [cond_true, Option.some.injEq] at hk; rw [nbeq hb, hk]; exact List.mem_cons_self
      | false => rw [hb] at hk; exact List.mem_cons_of_mem _ (ih hk)
  exact ht k v (hs _ this)

section
variable (P orc)
/-- Code, from a frame of which some slots are known. -/
def XC (rnd : Option Nat) (c : Code) (n : Nat) (ms : List Nat) (fl : FL) (h : Heap) (Q : Ex → Fr → Heap → Prop) : Prop := ∀ t, TrIs fl t → EvC P orc rnd c ⟨t, n, ms⟩ h Q
def XO (ops : Array Oper) (n : Nat) (l : List Oper) (fl : FL) (h : Heap) (K : FL → Heap → Prop) : Prop := ∀ t, TrIs fl t → EvO P orc ops n l t h fun t' h' => ∃ fl', TrIs fl' t' ∧ K fl' h'
end

variable {ops : Array Oper} {n : Nat} {ms : List Nat} {fl : FL} {Q : Ex → Fr → Heap → Prop} {K : FL → Heap → Prop} {l : List Oper}

theorem XC.start {c : Code} {t : Tr} (hx : XC P orc rnd c n ms fl h Q) (ht : TrIs fl t) : EvC P orc rnd c ⟨t, n, ms⟩ h Q := hx t ht
theorem XC.only {c : Code} (fl' : FL) (hs : ∀ p ∈ fl', lk fl p.1 = some p.2) (hx : XC P orc rnd c n ms fl' h Q) : XC P orc rnd c n ms fl h Q := fun t ht => hx t (ht.sub fl' hs)
theorem XC.seq {a b : Code} (hx : XC P orc rnd a n ms fl h (thenC P orc rnd b Q)) : XC P orc rnd (.seq a b) n ms fl h Q := fun t ht => EvC.seq (hx t ht)
theorem XC.block {id : Nat} {b : Code} (hx : XC P orc rnd b n ms fl h (inBlock id Q)) : XC P orc rnd (.block id b) n ms fl h Q := fun t ht => EvC.block (hx t ht)
theorem XC.scope {b : Code} (hx : XC P orc rnd b n ms fl h Q) : XC P orc rnd (.scope b) n ms fl h Q := fun t ht => EvC.scope (hx t ht)
theorem XC.loop {b : Code} (hx : XC P orc rnd b n ms fl h (thenC P orc rnd (.loop b) Q)) : XC P orc rnd (.loop b) n ms fl h Q := fun t ht => EvC.loop (hx t ht)
theorem XC.cond {x : Operand} {a b : Code} {c : Bool} (hc : evL fl x = some (.bool c)) (hx : XC P orc rnd (if c then a else b) n ms fl h Q) : XC P orc rnd (.cond x a b) n ms fl h Q := fun t ht => EvC.cond (evL_ok ht hc) (hx t ht)
theorem XC.condP {x : Operand} {a b : Code} {p : Prop} [Decidable p] (hc : evL fl x = some (.bool (decide p))) (ht : p → XC P orc rnd a n ms fl h Q) (hf : ¬ p → XC P orc rnd b n ms fl h Q) : XC P orc rnd (.cond x a b) n ms fl h Q := by
  refine XC.cond hc ?_
  by_cases hp : p
  · simp only [decide_eq_true hp, if_true]; exact ht hp
  · simp only [decide_eq_false hp, Bool.false_eq_true, if_false]; exact hf hp
theorem XC.condB {x : Operand} {a b : Code} {c : Bool} (hc : evL fl x = some (.bool c)) (ht : c = true → XC P orc rnd a n ms fl h Q) (hf : c = false → XC P orc rnd b n ms fl h Q) : XC P orc rnd (.cond x a b) n ms fl h Q := by
  refine XC.cond hc ?_
  cases c with
  | true => exact ht rfl
  | false => exact hf rfl
theorem XC.skip (hq : ∀ t, TrIs fl t → Q .normal ⟨t, n, ms⟩ h) : XC P orc rnd .skip n ms fl h Q := fun t ht => EvC.skip (hq t ht)
theorem XC.label {l : Nat} (hq : ∀ t, TrIs fl t → Q .normal ⟨t, n, ms⟩ h) : XC P orc rnd (.label l) n ms fl h Q := fun t ht => EvC.label (hq t ht)
theorem XC.exit {id : Nat} (hq : ∀ t, TrIs fl t → Q (.exit id) ⟨t, n, ms⟩ h) : XC P orc rnd (.exit id) n ms fl h Q := fun t ht => EvC.exit (hq t ht)
theorem XC.ret (hq : ∀ t, TrIs fl t → Q .ret ⟨t, n, ms⟩ h) : XC P orc rnd .ret n ms fl h Q := fun t ht => EvC.ret (hq t ht)
/-- A region in the order of the text. -/
theorem XC.text {id : Nat} {ops : Array Oper} (hx : XO P orc ops n ops.toList fl h fun fl' h' => ∀ t, TrIs fl' t → Q .normal ⟨t, n, ms⟩ h') : XC P orc rnd (.region id ops false) n ms fl h Q := fun t ht =>
  EvC.text (by
    obtain ⟨m, t', h', h1, fl', h2, h3⟩ := hx t ht
    exact ⟨m, t', h', h1, h3 t' h2⟩)
/-- Behind a piece that has ended normally: on with the next. -/
theorem thenC.go {b : Code} (hx : XC P orc rnd b n ms fl h Q) : ∀ t, TrIs fl t → thenC P orc rnd b Q .normal ⟨t, n, ms⟩ h := hx

/-! ## Operations -/
theorem XO.nil (hk : K fl h) : XO P orc ops n [] fl h K := fun _ ht => EvO.nil ⟨fl, ht, hk⟩
/-- An operation that makes no call, of which the guard is none. -/
theorem XO.step {d : Option Tmp} {op : Op} {ty : TypeId} {pos : String} {after : Array Edge} {fl' : FL} {v : Value} {h' : Heap} (hs : ∀ t, TrIs fl t → stepO P { dst := d, op, type := ty, pos, after, guard := none } (evalO t) h = some (v, h'))
    (hd : ∀ t, TrIs fl t → ∃ t', put n t d v = some t' ∧ TrIs fl' t') (hx : XO P orc ops n l fl' h' K) : XO P orc ops n ({ dst := d, op, type := ty, pos, after, guard := none } :: l) fl h K := fun t ht => by
  obtain ⟨t', h1, h2⟩ := hd t ht
  exact EvO.op rfl (hs t ht) h1 (hx t' h2)
theorem put_ok {d : Tmp} {v : Value} (hn : Nat.blt d n = true) (h4 : Nat.ble n 4000 = true) : ∀ t, TrIs fl t → ∃ t', put n t (some d) v = some t' ∧ TrIs ((d, v) :: fl) t' := fun t ht => by
  refine ⟨t.set depth d v, by rw [put_set, hn]; rfl, ht.set d v ?_⟩
  have := nblt hn
  have := nble h4
  omega

/-! ## Steps -/
/-- A step that does not look at the heap. -/
def StepC (P : Program) (fl : FL) (op : Op) (v : Value) : Prop := calm op = true ∧ ∀ t, TrIs fl t → ∀ (d : Option Tmp) (ty : TypeId) (pos : String) (after : Array Edge) (g : Option (Nat × Bool)) (h : Heap), stepO P ⟨d, op, ty, pos, after, g⟩ (evalO t) h = some (v, h)
/-- A step that reads the heap's objects. -/
def StepR (P : Program) (fl : FL) (h : Heap) (op : Op) (v : Value) : Prop := calm op = false ∧ ∀ t, TrIs fl t → ∀ (d : Option Tmp) (ty : TypeId) (pos : String) (after : Array Edge) (g : Option (Nat × Bool)) (n l : Nat),
  stepO P ⟨d, op, ty, pos, after, g⟩ (evalO t) { next := n, low := l, objs := h.objs } = some (v, { next := n, low := l, objs := h.objs })

theorem StepC.move {x : Operand} {v : Value} (hx : evL fl x = some v) : StepC P fl (.move x) v := ⟨rfl, fun t ht _ _ _ _ _ h => by rw [← evL_ok ht hx]; rfl⟩
theorem StepC.assign {x : Operand} {v : Value} (hx : evL fl x = some v) : StepC P fl (.assign x) v := ⟨rfl, fun t ht _ _ _ _ _ h => by rw [← evL_ok ht hx]; rfl⟩
theorem StepC.bin {op : BinOp} {T T' : TypeId} {x y : Operand} {a b v : Value} (hx : evL fl x = some a) (hy : evL fl y = some b) (ha : (af a && af b) = true) (hv : purely P (do eqGuard op T x y a b; binOp op T a b) = some v) : StepC P fl (.binOp op T x y T') v :=
  ⟨rfl, fun t ht _ _ _ _ _ h => by
    show (if (af (evalO t x) && af (evalO t y)) = true then _ else _) = _
    rw [evL_ok ht hx, evL_ok ht hy, if_pos ha, hv]; rfl⟩
theorem StepC.nil {op : BinOp} {T T' : TypeId} {x y : Operand} {a b : Value} {r : Bool} (hx : evL fl x = some a) (hy : evL fl y = some b) (ha : (af a && af b) = false) (hv : fsNil P op T a b = some r) : StepC P fl (.binOp op T x y T') (.bool r) :=
  ⟨rfl, fun t ht _ _ _ _ _ h => by
    show (if (af (evalO t x) && af (evalO t y)) = true then _ else ((fsNil P op T (evalO t x) (evalO t y)).or _).map _) = _
    rw [evL_ok ht hx, evL_ok ht hy, if_neg (by rw [ha]; simp), hv]; rfl⟩
theorem StepC.un {op : UnOp} {T : TypeId} {x : Operand} {a v : Value} (hx : evL fl x = some a) (ha : af a = true) (hv : purely P (Op.unary op a) = some v) : StepC P fl (.unOp op T x) v :=
  ⟨rfl, fun t ht _ _ _ _ _ h => by
    show (if af (evalO t x) = true then _ else _) = _
    rw [evL_ok ht hx, if_pos ha, hv]; rfl⟩
theorem StepC.conv {s d : TypeId} {x : Operand} {a v : Value} (hx : evL fl x = some a) (ha : af a = true) (hv : purely P (convert s d a) = some v) : StepC P fl (.convert s d x) v :=
  ⟨rfl, fun t ht _ _ _ _ _ h => by
    show (if af (evalO t x) = true then _ else _) = _
    rw [evL_ok ht hx, if_pos ha, hv]; rfl⟩
theorem StepC.indexAddr {T : TypeId} {x y : Operand} {u i v : Value} (hx : evL fl x = some u) (hy : evL fl y = some i) (hi : af i = true) (hv : runPure P (Instr.indexAt T u i) = some v) : StepC P fl (.indexAddr T x y) v :=
  ⟨rfl, fun t ht _ _ _ _ _ h => by
    show (if af (evalO t y) = true then _ else _) = _
    rw [evL_ok ht hx, evL_ok ht hy, if_pos hi, hv]; rfl⟩
theorem StepC.index {T : TypeId} {x y : Operand} {u i v : Value} (hx : evL fl x = some u) (hy : evL fl y = some i) (hi : af i = true) (hv : runPure P (Instr.index T u i) = some v) : StepC P fl (.index T x y) v :=
  ⟨rfl, fun t ht _ _ _ _ _ h => by
    show (if af (evalO t y) = true then _ else _) = _
    rw [evL_ok ht hx, evL_ok ht hy, if_pos hi, hv]; rfl⟩
theorem StepC.field {T : TypeId} {x : Operand} {f : Nat} {u v : Value} (hx : evL fl x = some u) (hv : runPure P (Instr.field T u f) = some v) : StepC P fl (.field T x f) v :=
  ⟨rfl, fun t ht _ _ _ _ _ h => by
    show (runPure P (Instr.field T (evalO t x) f)).map _ = _
    rw [evL_ok ht hx, hv]; rfl⟩
theorem StepC.fieldAddr {T : TypeId} {x : Operand} {f : Nat} {u v : Value} (hx : evL fl x = some u) (hv : runPure P (Instr.fieldAt T u f) = some v) : StepC P fl (.fieldAddr T x f) v :=
  ⟨rfl, fun t ht _ _ _ _ _ h => by
    show (runPure P (Instr.fieldAt T (evalO t x) f)).map _ = _
    rw [evL_ok ht hx, hv]; rfl⟩
theorem StepC.extract {x : Operand} {f : Nat} {u v : Value} (hx : evL fl x = some u) (hj : isJunk u = false) (hv : runPure P (Instr.extract u f) = some v) : StepC P fl (.extract x f) v :=
  ⟨rfl, fun t ht _ _ _ _ _ h => by
    show (bif isJunk (evalO t x) then none else (runPure P (Instr.extract (evalO t x) f)).map _) = _
    rw [evL_ok ht hx, hj, hv]; rfl⟩
def evLs (fl : FL) : List (Nat × Operand) → Option (List (Nat × Value))
  | [] => some []
  | (i, x) :: r => match evL fl x, evLs fl r with
    | some v, some vs => some ((i, v) :: vs)
    | _, _ => none
theorem evLs_ok {t : Tr} (ht : TrIs fl t) : ∀ (l : List (Nat × Operand)) (vs : List (Nat × Value)), evLs fl l = some vs → l.map (fun p => (p.1, evalO t p.2)) = vs
  | [], vs, h => by simp only [evLs, Option.some.injEq] at h; subst h; rfl
  | (i, x) :: r, vs, h => by
    simp only [evLs] at h
    split at h
    · rename_i v vs0 hv hvs
      simp only [Option.some.injEq] at h
      subst h
      rw [List.map_cons, evLs_ok ht r vs0 hvs, evL_ok ht hv]
    · cases h
theorem evLs_all {t : Tr} (p : Value → Bool) {l : List (Nat × Operand)} {vs : List (Nat × Value)} (h : l.map (fun p => (p.1, evalO t p.2)) = vs) : (l.all fun q => p (evalO t q.2)) = vs.all fun q => p q.2 := by
  subst h
  induction l with
  | nil => rfl
  | cons a l ih => simp only [List.all_cons, List.map_cons, ih]
theorem StepC.build {T : TypeId} {parts : Array (Nat × Operand)} {vs : List (Nat × Value)} {v : Value} (hx : evLs fl parts.toList = some vs) (ho : (vs.all fun p => p.2.cells.toList.all oneCell) = true)
    (hz : (((P.info? T).bind (·.zero)).map fun z => z.cells.toList.all af0) = some true) (hv : runPure P (Instr.build T vs.toArray) = some v) : StepC P fl (.build T parts) v :=
  ⟨rfl, fun t ht _ _ _ _ _ h => by
    have hm := evLs_ok ht _ _ hx
    have ha := evLs_all (fun v => v.cells.toList.all oneCell) hm
    show (bif (parts.toList.all fun p => (evalO t p.2).cells.toList.all oneCell) && ((((P.info? T).bind (·.zero)).map fun z => z.cells.toList.all af0) == some true) then (runPure P (Instr.build T (parts.map fun p => (p.1, evalO t p.2)))).map _ else none) = _
    have hp : parts.map (fun p => (p.1, evalO t p.2)) = vs.toArray := by
      apply Array.toList_inj.1
      rw [Array.toList_map, hm]
    rw [ha, ho, hz, hp, hv]
    rfl⟩
theorem StepR.load {T : TypeId} {x : Operand} {u v : Value} (hx : evL fl x = some u) (hv : fsLoad P T u h = some v) : StepR P fl h (.load T x) v :=
  ⟨rfl, fun t ht _ _ _ _ _ n l => by
    show (fsLoad P T (evalO t x) { next := n, low := l, objs := h.objs }).map _ = _
    rw [evL_ok ht hx, fsLoad_objs, hv]; rfl⟩
theorem StepR.len {a : Array TypeId} {x : Operand} {u v : Value} (hx : evL fl x = some u) (hv : ∀ h, fsLen P a u h = some v) : StepR P fl h (.call { callee := .builtin .len, args := #[x], argTypes := a }) v :=
  ⟨rfl, fun t ht _ _ _ _ _ n l => by
    show (fsLen P a (evalO t x) _).map _ = _
    rw [evL_ok ht hx, hv]; rfl⟩

variable {d : Tmp} {ty : TypeId} {pos : String} {after : Array Edge} {op : Op} {v : Value}
theorem XO.c (hs : StepC P fl op v) (hn : Nat.blt d n = true) (h4 : Nat.ble n 4000 = true) (hk : XO P orc ops n l ((d, v) :: fl) h K) : XO P orc ops n (⟨some d, op, ty, pos, after, none⟩ :: l) fl h K :=
  XO.step (fun t ht => hs.2 t ht _ _ _ _ _ h) (put_ok hn h4) hk
theorem XO.r (hs : StepR P fl h op v) (hn : Nat.blt d n = true) (h4 : Nat.ble n 4000 = true) (hk : XO P orc ops n l ((d, v) :: fl) h K) : XO P orc ops n (⟨some d, op, ty, pos, after, none⟩ :: l) fl h K :=
  XO.step (fun t ht => hs.2 t ht _ _ _ _ _ h.next h.low) (put_ok hn h4) hk

/-! ## Drawn regions -/
section
variable (P orc)
def XD (ops : Array Oper) (n : Nat) (l : List Oper) (i : Nat) (fl : FL) (h : Heap) (bs : List Nat) (segs : List (Nat × Nat × Nat)) (mem : Nat) (tail : Bool) (K : FL → Heap → Prop) : Prop :=
  ∀ t, TrIs fl t → EvD P orc ops n l i ⟨t, h, bs, segs, mem, tail⟩ fun s => ∃ fl', TrIs fl' s.t ∧ K fl' s.h
end
variable {i mem : Nat} {bs : List Nat} {segs : List (Nat × Nat × Nat)} {tail : Bool}
theorem XC.drawn {id : Nat} {ops : Array Oper} (hx : XD P orc ops n ops.toList 0 fl h [] [] 0 false fun fl' h' => ∀ t, TrIs fl' t → Q .normal ⟨t, n, ms⟩ h') : XC P orc rnd (.region id ops true) n ms fl h Q := fun t ht =>
  EvC.draw (by
    obtain ⟨m, s', h1, fl', h2, h3⟩ := hx t ht
    exact ⟨m, s', h1, h3 _ h2⟩)
theorem XD.nil (hk : K fl h) : XD P orc ops n [] i fl h bs segs mem tail K := fun _ ht => EvD.nil ⟨fl, ht, hk⟩
theorem XD.c {b : Nat} (hs : StepC P fl op v) (hb : beforeOf bs ⟨some d, op, ty, pos, after, none⟩ = b) (hn : Nat.blt d n = true) (h4 : Nat.ble n 4000 = true) (hk : XD P orc ops n l (i + 1) ((d, v) :: fl) h (bs ++ [b]) segs mem tail K) :
    XD P orc ops n (⟨some d, op, ty, pos, after, none⟩ :: l) i fl h bs segs mem tail K := fun t ht => by
  obtain ⟨t', h1, h2⟩ := put_ok (v := v) hn h4 t ht
  refine EvD.op (s' := ⟨t', h, bs ++ [b], segs, mem, tail⟩) ?_ (hk t' h2)
  unfold fsDraw
  simp only [fsWanted, hs.1, if_true, hs.2 t ht, Nat.beq_refl, cond_true, h1, Option.map_some, hb]
theorem XD.r {b : Nat} (hs : StepR P fl h op v) (hb : beforeOf bs ⟨some d, op, ty, pos, after, none⟩ = b) (htl : (tail && !Nat.beq (mem &&& b) mem) = false) (hm : (bif Nat.beq (mem &&& b) mem then h.objs else mask b segs h.objs) = h.objs)
    (hn : Nat.blt d n = true) (h4 : Nat.ble n 4000 = true) (hk : XD P orc ops n l (i + 1) ((d, v) :: fl) h (bs ++ [b]) ((i, h.next, h.next) :: segs) (mem ||| 2 ^ i) tail K) :
    XD P orc ops n (⟨some d, op, ty, pos, after, none⟩ :: l) i fl h bs segs mem tail K := fun t ht => by
  obtain ⟨t', h1, h2⟩ := put_ok (v := v) hn h4 t ht
  refine EvD.op (s' := ⟨t', h, bs ++ [b], (i, h.next, h.next) :: segs, mem ||| 2 ^ i, tail⟩) ?_ (hk t' h2)
  unfold fsDraw
  have hble : Nat.ble h.next h.next = true := by rw [Nat.ble_eq]; exact Nat.le_refl _
  have hblt : Nat.blt h.next h.next = false := by
    cases hx : Nat.blt h.next h.next with
    | false => rfl
    | true => have := nblt hx; omega
  simp only [fsWanted, hs.1, Bool.false_eq_true, if_false, hb, htl, cond_false, hm, hs.2 t ht, hblt, h1, hble, cond_true, newer_same, List.nil_append]
end Go.Fs
namespace Go.Fs
variable {P : Program} {orc : FuncId → List Value → Heap → Option (Value × Heap)} {rnd : Option Nat} {h : Heap}

def argFL : List Value → Nat → FL
  | [], _ => []
  | v :: r, i => (i, v) :: argFL r (i + 1)
theorem argFL_lk : ∀ (vs : List Value) (i k : Nat) (v : Value), lk (argFL vs i) k = some v → i ≤ k ∧ k < i + vs.length ∧ vs.getD (k - i) undef = v
  | [], i, k, v, h => by cases h
  | u :: r, i, k, v, h => by
    simp only [argFL, lk] at h
    cases hb : Nat.beq i k with
    | true =>
      rw [hb] at h
      simp only [cond_true, Option.some.injEq] at h
      have := nbeq hb
      subst this
      refine ⟨Nat.le_refl _, by simp, by rw [Nat.sub_self]; exact h⟩
    | false =>
      rw [hb] at h
      obtain ⟨h1, h2, h3⟩ := argFL_lk r (i + 1) k v h
      refine ⟨by omega, by simp; omega, ?_⟩
      rw [show k - i = (k - (i + 1)) + 1 by omega]
      exact h3
theorem TrIs.args {vs : List Value} (hl : vs.length ≤ 4000) : TrIs (argFL vs 0) (fillTr .leaf 0 vs) := by
  intro k v hk
  obtain ⟨_, h2, h3⟩ := argFL_lk vs 0 k v hk
  rw [fill_get vs .leaf 0 (by omega), if_neg (by omega), if_pos h2]
  exact h3

/-- What is asked at a function's end. -/
def endF (P : Program) (fn : Func) (h : Heap) (QF : Value → Heap → Prop) : Ex → Fr → Heap → Prop := fun e fr h1 =>
  e.goes = true ∧ ∃ h2 vs, dropMarks fr.marks h1 = some h2 ∧ fsResults P fr.t h2 fn.results.toList = some vs ∧ QF (tupled vs) (leftOf h h2 (tupled vs))
theorem XF.enter {f : FuncId} {args : List Value} {fn : Func} {c : Code} {QF : Value → Heap → Prop} (hfn : P.funcs[f]? = some fn) (hc : fn.body = some c) (ho : orc f args h = none) (hn : (Nat.blt 4000 fn.ntmps || Nat.blt fn.ntmps args.length) = false)
    (hb : XC P orc none c fn.ntmps [] (argFL args 0) { next := h.next, low := h.next, objs := h.objs } (endF P fn h QF)) : EvF P orc f args h QF := by
  refine EvF.enter hfn hc ho hn (hb _ (TrIs.args ?_))
  have h2 : Nat.blt 4000 fn.ntmps = false ∧ Nat.blt fn.ntmps args.length = false := by simpa using hn
  have h3 := nble_no h2.1
  have h4 := nble_no h2.2
  omega
theorem leftOf_af {h2 : Heap} {v : Value} (hv : af v = true) (hl : h.next ≤ h2.low) : leftOf h h2 v = h := by
  unfold leftOf
  have hb : Nat.ble h.next h2.low = true := by rw [Nat.ble_eq]; exact hl
  rw [hv, hb]; rfl

theorem TrIs.none (t : Tr) : TrIs [] t := fun _ _ h => by cases h
/-- Out of a loop, and on. -/
theorem outTo {id n : Nat} {ms : List Nat} {b : Code} {h : Heap} {Q : Ex → Fr → Heap → Prop} {t : Tr} {fl : FL} (hx : XC P orc rnd b n ms fl h Q) (ht : TrIs fl t) : inBlock id (thenC P orc rnd b Q) (.exit id) ⟨t, n, ms⟩ h := by
  simp only [inBlock, if_true]
  exact hx t ht
/-- A function of one result, without loops over functions, at its end. -/
theorem endF.one {fn : Func} {h h1 : Heap} {QF : Value → Heap → Prop} {e : Ex} {t : Tr} {n i : Nat} {v : Value} (he : e.goes = true) (hr : fn.results = #[.tmp i]) (hv : t.get i = v) (hq : QF v (leftOf h h1 v)) : endF P fn h QF e ⟨t, n, []⟩ h1 :=
  ⟨he, h1, [v], rfl, by rw [hr]; show fsResults P t h1 [ResultVar.tmp i] = _; simp [fsResults, fsResult, hv], hq⟩
/-- A list of slots is in another one. -/
def subFL (fl : FL) : FL → Prop
  | [] => True
  | (k, v) :: r => lk fl k = some v ∧ subFL fl r
theorem XC.keep {c : Code} {n : Nat} {ms : List Nat} {fl : FL} {Q : Ex → Fr → Heap → Prop} (fl' : FL) (hs : subFL fl fl') (hx : XC P orc rnd c n ms fl' h Q) : XC P orc rnd c n ms fl h Q := by
  refine XC.only fl' ?_ hx
  clear hx
  induction fl' with
  | nil => intro p hp; cases hp
  | cons a r ih =>
    obtain ⟨k, v⟩ := a
    intro p hp
    rcases List.mem_cons.1 hp with rfl | hp
    · exact hs.1
    · exact ih hs.2 p hp
end Go.Fs
namespace Go.Fs
variable {P : Program} {orc : FuncId → List Value → Heap → Option (Value × Heap)} {rnd : Option Nat} {h h' h0 h1 h2 : Heap}

def HOk (h : Heap) : Prop := ∀ b o, h.get b = some o → b < h.next
/-- What was there is there; 'low' has not sunk below what was there. -/
structure After (h h' : Heap) : Prop where
  next : h.next ≤ h'.next
  get : ∀ b, b < h.next → h'.get b = h.get b
  ok : HOk h → HOk h'
  low : ∀ e, e ≤ h.low → e ≤ h.next → e ≤ h'.low
theorem After.refl (h : Heap) : After h h := ⟨Nat.le_refl _, fun _ _ => rfl, fun x => x, fun _ x _ => x⟩
theorem After.trans (a : After h h1) (b : After h1 h2) : After h h2 where
  next := Nat.le_trans a.next b.next
  get := fun i hi => (b.get i (Nat.lt_of_lt_of_le hi a.next)).trans (a.get i hi)
  ok := fun x => b.ok (a.ok x)
  low := fun e h3 h4 => b.low e (a.low e h3 h4) (Nat.le_trans h4 a.next)
theorem After.push (h : Heap) (o : AObj) : After h (h.push o) where
  next := Nat.le_succ _
  get := fun b hb => by rw [Heap.get_push, if_neg (by omega)]
  ok := fun x b o' hg => by
    rw [Heap.get_push] at hg
    split at hg
    · rename_i e; rw [e]; exact Nat.lt_succ_self _
    · exact Nat.lt_succ_of_lt (x b o' hg)
  low := fun e h3 _ => h3
theorem After.set (a : After h0 h) {b : Nat} {o o' : AObj} (hg : h.get b = some o) (hb : h0.next ≤ b) : After h0 (h.set b o') where
  next := a.next
  get := fun i hi => by rw [Heap.get_set hg, if_neg (by omega)]; exact a.get i hi
  ok := fun x i oi hi => by
    rw [Heap.get_set hg] at hi
    split at hi
    · rename_i e; rw [e]; exact a.ok x b o hg
    · exact a.ok x i oi hi
  low := fun e h3 h4 => Nat.le_min.2 ⟨a.low e h3 h4, Nat.le_trans h4 hb⟩
theorem After.drop (a : After h0 h) {b : Nat} (hb : h0.next ≤ b) : After h0 (h.drop b) where
  next := a.next
  get := fun i hi => by rw [Heap.get_drop, if_neg (by omega)]; exact a.get i hi
  ok := fun x i oi hi => by
    rw [Heap.get_drop] at hi
    split at hi
    · cases hi
    · exact a.ok x i oi hi
  low := fun e h3 h4 => Nat.le_min.2 ⟨a.low e h3 h4, Nat.le_trans h4 hb⟩

/-- The heap in which a function's body begins. -/
def entry (h : Heap) : Heap := { next := h.next, low := h.next, objs := h.objs }
theorem After.left (a : After (entry h) h2) (v : Value) : After h (leftOf h h2 v) := by
  unfold leftOf
  cases hx : (af v && Nat.ble h.next h2.low) with
  | true => exact After.refl h
  | false => exact ⟨a.next, a.get, a.ok, fun e h3 h4 => Nat.le_min.2 ⟨h3, a.low e h4 h4⟩⟩
theorem After.low' (a : After (entry h) h2) : h.next ≤ h2.low := a.low h.next (Nat.le_refl _) (Nat.le_refl _)
theorem After.leftAf (a : After (entry h) h2) {v : Value} (hv : af v = true) : leftOf h h2 v = h := leftOf_af hv a.low'
/-- What is known of the objects is known behind. -/
theorem leftOf_get (a : After (entry h) h2) {v : Value} (hv : af v = false) (b : Nat) : (leftOf h h2 v).get b = h2.get b := by
  unfold leftOf; rw [hv]; rfl
theorem leftOf_next {v : Value} (hv : af v = false) : (leftOf h h2 v).next = h2.next := by unfold leftOf; rw [hv]; rfl

theorem Ints.after {v : Value} {xs : List Int} (hv : Ints P h v xs) (hok : HOk h) (a : After h h') : Ints P h' v xs := by
  rcases hv with hv | ⟨b, o, mk, h3, h4⟩
  · exact .inl hv
  · refine .inr ⟨b, o, mk, h3, ?_⟩
    rcases h4 with h4 | ⟨e, cs, own, more, h5, h6⟩
    · exact .inl h4
    · exact .inr ⟨e, cs, own, more, by rw [a.get b (hok b _ h5)]; exact h5, h6⟩
theorem Ints.objs {v : Value} {xs : List Int} (hv : Ints P h v xs) (hg : ∀ b, h'.get b = h.get b) : Ints P h' v xs := by
  rcases hv with hv | ⟨b, o, mk, h3, h4⟩
  · exact .inl hv
  · refine .inr ⟨b, o, mk, h3, ?_⟩
    rcases h4 with h4 | ⟨e, cs, own, more, h5, h6⟩
    · exact .inl h4
    · exact .inr ⟨e, cs, own, more, by rw [hg]; exact h5, h6⟩

/-- Rows of known cells, as lists of whole numbers. -/
def intV (n : Int) : Value := .int .i64 n
theorem row_ints {e : TypeId} {xs : List Int} {own more : Bool} {b mk : Nat} (hg : h.get b = some (.row e (xs.map intV) own more)) : Ints P h (.slice (some ⟨b, 0, none⟩) xs.length mk) xs := by
  refine .inr ⟨b, 0, mk, rfl, .inr ⟨e, _, own, more, hg, by simp, fun i hi => ?_⟩⟩
  simp [intV, List.getD, hi]

/-- A slice that grows: nil, or the whole of a row that is open. -/
def Open (e : TypeId) (h : Heap) (lo : Nat) (v : Value) (cs : List Value) (n : Nat) : Prop :=
  (v = .slice none 0 0 ∧ cs = [] ∧ n = 0) ∨ ∃ b, lo ≤ b ∧ v = .slice (some ⟨b, 0, none⟩) n 0 ∧ h.get b = some (.row e cs true true)

end Go.Fs
namespace Go.Fs
variable {P : Program} {h h' h0 : Heap}

/-- A type of slices of elements of s cells. -/
structure SlT (P : Program) (T e : TypeId) (s : Nat) : Prop where
  sl : P.underlying T = some (.slice e)
  info : ∃ i z, P.info? e = some i ∧ i.size = s ∧ 0 < i.bytes ∧ i.bytes ≤ 4096 ∧ i.zero = some z ∧ z.cells.size = s ∧ z.cells.toList.all af0 = true
  pos : 0 < s

/-- The same, as a test. -/
def slB (P : Program) (T e : TypeId) (s : Nat) : Bool :=
  match P.underlying T, P.info? e with
  | some (.slice e'), some i => match i.zero with
    | some z => Nat.beq e' e && Nat.beq i.size s && Nat.blt 0 i.bytes && Nat.ble i.bytes 4096 && Nat.beq z.cells.size s && z.cells.toList.all af0 && Nat.blt 0 s
    | none => false
  | _, _ => false
theorem slT_of {T e : TypeId} {s : Nat} (h : slB P T e s = true) : SlT P T e s := by
  unfold slB at h
  split at h
  · rename_i e' i hu hi
    split at h
    · rename_i z hz
      obtain ⟨h, h7⟩ := band h
      obtain ⟨h, h6⟩ := band h
      obtain ⟨h, h5⟩ := band h
      obtain ⟨h, h4⟩ := band h
      obtain ⟨h, h3⟩ := band h
      obtain ⟨h1, h2⟩ := band h
      have := nbeq h1
      subst this
      exact ⟨hu, ⟨i, z, hi, nbeq h2, nblt h3, nble h4, hz, nbeq h5, h6⟩, nblt h7⟩
    · cases h
  · cases h

theorem fill_one (z : Value) (hz : z.cells.size = 1) (v : Value) (hv : v.cells = #[v]) : Instr.fill (fun k => some (k * 1, 1)) ((Array.range (1 * 1)).map (z.cells[· % z.cells.size]!)) [(0, v)] = some #[v] := by
  have hr : Array.range (1 * 1) = #[0] := by decide
  rw [hr]
  simp [Instr.fill, hv]
theorem build1 {T e : TypeId} (hT : SlT P T e 1) {v : Value} (hv : v.cells = #[v]) (ho : oneCell v = true) (h : Heap) :
    fsBuildSlice P T 1 #[(0, v)] h = some (.slice (some ⟨h.next, 0, none⟩) 1 0, h.push (.row e [v] true false)) := by
  obtain ⟨i, z, h1, h2, _, _, h3, h4, h5⟩ := hT.info
  unfold fsBuildSlice
  have hb : Nat.beq 1 0 = false := rfl
  simp only [hT.sl, h1, hb, cond_false, h3, h2]
  have hc : (Nat.ble (1 * 1) 16777216 && Nat.blt 0 1 && z.cells.toList.all af0 && ([(0, v)] : List (Nat × Value)).all fun p => p.2.cells.toList.all oneCell) = true := by
    simp [h5, hv, ho]
  rw [hc]
  simp only [cond_true]
  rw [fill_one z h4 v hv]

def numbered : Nat → List Value → List (Nat × Value)
  | _, [] => []
  | k, v :: r => (k, v) :: numbered (k + 1) r
theorem fill_numbered : ∀ (vs pre rest : List Value), (∀ v ∈ vs, v.cells = #[v]) → rest.length = vs.length → Instr.fill (fun k => some (k * 1, 1)) (pre ++ rest).toArray (numbered pre.length vs) = some (pre ++ vs).toArray
  | [], pre, rest, _, hl => by
    have : rest = [] := List.eq_nil_of_length_eq_zero hl
    subst this
    rfl
  | v :: vs, pre, [], _, hl => by simp at hl
  | v :: vs, pre, r :: rest, hc, hl => by
    have hv := hc v List.mem_cons_self
    have ih := fill_numbered vs (pre ++ [v]) rest (fun u hu => hc u (List.mem_cons_of_mem _ hu)) (by simpa using hl)
    simp only [List.length_append, List.length_cons, List.length_nil, Nat.zero_add, List.append_assoc, List.cons_append, List.nil_append] at ih
    simp only [numbered, Instr.fill, hv]
    have h1 : ¬ ((#[v] : Array Value).size ≠ 1 ∨ pre.length * 1 + (#[v] : Array Value).size > (pre ++ r :: rest).toArray.size) := by simp
    have h2 : ((#[v] : Array Value).size ≠ 1 || pre.length * 1 + (#[v] : Array Value).size > (pre ++ r :: rest).toArray.size) = false := by simp
    simp only [h2, Bool.false_eq_true, if_false]
    have h3 : (#[v] : Array Value).zipIdx.foldl (fun cs (c, j) => cs.setIfInBounds (pre.length * 1 + j) c) (pre ++ r :: rest).toArray = (pre ++ v :: rest).toArray := by
      simp
    rw [h3]
    exact ih
theorem buildN {T e : TypeId} (hT : SlT P T e 1) {vs : List Value} (hv : ∀ v ∈ vs, v.cells = #[v] ∧ oneCell v = true) (h0 : vs ≠ []) (hl : vs.length ≤ 1000) (h : Heap) :
    fsBuildSlice P T vs.length (numbered 0 vs).toArray h = some (.slice (some ⟨h.next, 0, none⟩) vs.length 0, h.push (.row e vs true false)) := by
  obtain ⟨i, z, h1, h2, _, _, h3, h4, h5⟩ := hT.info
  have hpos : 0 < vs.length := List.length_pos_iff.2 h0
  unfold fsBuildSlice
  have hb : Nat.beq vs.length 0 = false := beq_no (by omega)
  simp only [hT.sl, h1, hb, cond_false, h3, h2]
  have hall : ∀ (k : Nat) (l : List Value), (∀ v ∈ l, v.cells = #[v] ∧ oneCell v = true) → ((numbered k l).all fun p => p.2.cells.toList.all oneCell) = true := by
    intro k l
    induction l generalizing k with
    | nil => intro _; rfl
    | cons u l ih =>
      intro hl
      have hu := hl u List.mem_cons_self
      have hr := ih (k + 1) fun w hw => hl w (List.mem_cons_of_mem _ hw)
      have hone : ((#[u] : Array Value).toList.all oneCell) = true := by simp [hu.2]
      simp only [numbered, List.all_cons, hu.1, hone, Bool.true_and]
      exact hr
  have hc : (Nat.ble (vs.length * 1) 16777216 && Nat.blt 0 1 && z.cells.toList.all af0 && (numbered 0 vs).all fun p => p.2.cells.toList.all oneCell) = true := by
    have e1 : Nat.ble (vs.length * 1) 16777216 = true := by rw [Nat.ble_eq]; omega
    rw [e1, h5, hall 0 vs hv]; rfl
  rw [hc]
  simp only [cond_true]
  have hf := fill_numbered vs [] ((Array.range (vs.length * 1)).map (z.cells[· % z.cells.size]!)).toList (fun v hv' => (hv v hv').1) (by simp)
  simp only [List.nil_append, List.length_nil, Array.toArray_toList] at hf
  rw [hf]

/-- Behind a slice that grows: one element more. -/
theorem append1 {T T' e : TypeId} {s : Nat} (hT : SlT P T e s) (hT' : SlT P T' e s) {lo n k b : Nat} {v : Value} {cs news : List Value} (hv : Open e h lo v cs n) (hcs : cs.length = n * s) (hk : h.get b = some (.row e news true false)) (hb : lo ≤ b) (hnl : news.length = k * s) (hk0 : 0 < k)
    (hone : news.all oneCell = true) (hsz : n + k ≤ 1000000) (hA : After h0 h) (hlo : h0.next ≤ lo) (hok : HOk h) :
    ∃ v' h', fsAppend P #[T, T'] v (.slice (some ⟨b, 0, none⟩) k 0) h = some (v', h') ∧ Open e h' lo v' (cs ++ news) (n + k) ∧ After h0 h' := by
  obtain ⟨i, z, h1, h2, h3, h3', h4, h5, h6⟩ := hT.info
  have hap : appended i z (isInt (.slice e)) (.slice (some ⟨b, 0, none⟩) k 0) h = some (k, news) := by
    have hks : 0 < k * s := Nat.mul_pos hk0 hT.pos
    simp only [appended, isInt, cond_false, lenV, cellsOf, h2, hk]
    have e1 : Nat.ble k k = true := by rw [Nat.ble_eq]; exact Nat.le_refl _
    have e2 : Nat.beq (k * s) 0 = false := beq_no (by omega)
    have e3 : Nat.ble (0 + k * s) news.length = true := by rw [Nat.ble_eq]; omega
    simp only [e1, cond_true, e2, cond_false, e3, Option.map_some, List.drop_zero]
    rw [← hnl, List.take_length]
  have hbytes : (n + k) * i.bytes ≤ 274877906944 := by
    have := Nat.mul_le_mul hsz h3'
    omega
  unfold fsAppend
  simp only [List.getElem?_toArray, List.getElem?_cons_zero, List.getElem?_cons_succ, hT.sl, hT'.sl, h1, h4, hap, h2]
  have hc : (Nat.blt 0 s && Nat.blt 0 i.bytes && Nat.beq news.length (k * s) && news.all oneCell && Nat.beq z.cells.size s) = true := by
    have e1 : Nat.blt 0 s = true := by show Nat.ble 1 s = true; rw [Nat.ble_eq]; exact hT.pos
    have e2 : Nat.blt 0 i.bytes = true := by show Nat.ble 1 i.bytes = true; rw [Nat.ble_eq]; exact h3
    rw [e1, e2, hnl, Nat.beq_refl, hone, h5, Nat.beq_refl]; rfl
  rw [hc]
  simp only [cond_true]
  rcases hv with ⟨rfl, rfl, rfl⟩ | ⟨b0, hb0, rfl, hg⟩
  · refine ⟨.slice (some ⟨h.next, 0, none⟩) k 0, h.push (.row e news true true), ?_, .inr ⟨h.next, ?_, ?_, ?_⟩, hA.trans (After.push h (.row e news true true))⟩
    · unfold fsGrow
      have e1 : Nat.beq k 0 = false := beq_no (by omega)
      have e2 : Nat.ble (k * i.bytes) 274877906944 = true := by rw [Nat.ble_eq]; simpa using hbytes
      simp only [e1, cond_false, e2, cond_true, grown]
    · have := hok b _ hk; omega
    · simp
    · rw [Heap.get_push, if_pos rfl]; simp
  · have hks : 0 < k * s := Nat.mul_pos hk0 hT.pos
    have hadd : (n + k) * s = n * s + k * s := Nat.add_mul _ _ _
    refine ⟨.slice (some ⟨h.next, 0, none⟩) (n + k) 0, (h.drop b0).push (.row e (cs ++ news) true true), ?_, .inr ⟨h.next, ?_, rfl, ?_⟩, (hA.drop (by omega)).trans (After.push (h.drop b0) (.row e (cs ++ news) true true))⟩
    · unfold fsGrow
      have e1 : (Nat.beq k 0 && Nat.beq 0 1) = false := by rw [beq_no (show k ≠ 0 by omega)]; rfl
      have e2 : Nat.beq e e = true := Nat.beq_refl _
      have e3 : Nat.ble ((n + k) * i.bytes) 274877906944 = true := by rw [Nat.ble_eq]; exact hbytes
      have e4 : Nat.ble (0 + n * i.size) cs.length = true := by rw [Nat.ble_eq, h2]; omega
      have e5 : Nat.ble (0 + (n + k) * i.size) cs.length = false := by
        cases hx : Nat.ble (0 + (n + k) * i.size) cs.length with
        | false => rfl
        | true => have := nble hx; rw [h2] at this; omega
      have e6 : Nat.beq (n * i.size) cs.length = true := by rw [h2, hcs]; exact Nat.beq_refl _
      have e7 : Nat.beq 0 1 = false := rfl
      have e8 : Nat.beq 0 0 = true := rfl
      simp only [hg, e1, cond_false, e2, e3, e4, Bool.and_self, cond_true, e7, e8, e5, Bool.not_true, e6, grown, Bool.true_and, Bool.and_false]
      rfl
    · have := hok b _ hk; omega
    · have : (h.drop b0).next = h.next := rfl
      rw [Heap.get_push, if_pos this.symm]
end Go.Fs
namespace Go.Fs
variable {P : Program} {orc : FuncId → List Value → Heap → Option (Value × Heap)} {h : Heap} {ops : Array Oper} {n i mem : Nat} {fl : FL} {K : FL → Heap → Prop} {l : List Oper} {bs : List Nat} {segs : List (Nat × Nat × Nat)} {tail : Bool}
  {d : Tmp} {ty : TypeId} {pos : String} {after : Array Edge}

def evA (fl : FL) : List Operand → Option (List Value)
  | [] => some []
  | x :: r => match evL fl x, evA fl r with
    | some v, some vs => some (v :: vs)
    | _, _ => none
theorem evA_ok {t : Tr} (ht : TrIs fl t) : ∀ (l : List Operand) (vs : List Value), evA fl l = some vs → l.map (evalO t) = vs
  | [], vs, h => by simp only [evA, Option.some.injEq] at h; subst h; rfl
  | x :: r, vs, h => by
    simp only [evA] at h
    split at h
    · rename_i v vs0 hv hvs
      simp only [Option.some.injEq] at h
      subst h
      rw [List.map_cons, evA_ok ht r vs0 hvs, evL_ok ht hv]
    · cases h

theorem XO.call {f : Operand} {args : Array Operand} {ats : Array TypeId} {g : FuncId} {a b : Array Value} {vs : List Value} (hf : evL fl f = some (.func (.func g) a b)) (ha : evA fl args.toList = some vs) (hn : Nat.blt d n = true) (h4 : Nat.ble n 4000 = true)
    (hc : EvF P orc g (a.toList ++ vs ++ b.toList) h fun v h' => XO P orc ops n l ((d, v) :: fl) h' K) :
    XO P orc ops n (⟨some d, .call { callee := .value f, args := args, argTypes := ats }, ty, pos, after, none⟩ :: l) fl h K := fun t ht => by
  refine EvO.call rfl rfl rfl (evL_ok ht hf) ?_
  rw [evA_ok ht _ _ ha]
  refine hc.mono fun v h' hx => ?_
  obtain ⟨t', h1, h2⟩ := put_ok (v := v) hn h4 t ht
  exact ⟨t', h1, hx t' h2⟩

/-- A call in a drawn region, of which nothing is left but a value. -/
theorem XD.callP {f : Operand} {args : Array Operand} {ats : Array TypeId} {g : FuncId} {a b : Array Value} {vs : List Value} {bb : Nat} (hf : evL fl f = some (.func (.func g) a b)) (ha : evA fl args.toList = some vs)
    (hb : beforeOf bs ⟨some d, .call { callee := .value f, args := args, argTypes := ats }, ty, pos, after, none⟩ = bb) (htl : (tail && !Nat.beq (mem &&& bb) mem) = false)
    (hm : (bif Nat.beq (mem &&& bb) mem then h.objs else mask bb segs h.objs) = h.objs) (hn : Nat.blt d n = true) (h4 : Nat.ble n 4000 = true)
    (hc : EvF P orc g (a.toList ++ vs ++ b.toList) (entry h) fun v h' => h' = entry h ∧ XD P orc ops n l (i + 1) ((d, v) :: fl) h (bs ++ [bb]) ((i, h.next, h.next) :: segs) (mem ||| 2 ^ i) tail K) :
    XD P orc ops n (⟨some d, .call { callee := .value f, args := args, argTypes := ats }, ty, pos, after, none⟩ :: l) i fl h bs segs mem tail K := fun t ht => by
  refine EvD.call (o := ⟨some d, .call { callee := .value f, args := args, argTypes := ats }, ty, pos, after, none⟩) rfl rfl rfl (evL_ok ht hf) (by simp only [hb]; exact htl) ?_
  have hs : seenBy ⟨some d, .call { callee := .value f, args := args, argTypes := ats }, ty, pos, after, none⟩ ⟨t, h, bs, segs, mem, tail⟩ = entry h := by
    unfold seenBy entry
    simp only [hb, hm]
  rw [hs, evA_ok ht _ _ ha]
  refine hc.mono fun v h' hx => ?_
  obtain ⟨rfl, hx⟩ := hx
  obtain ⟨t', h1, h2⟩ := put_ok (v := v) hn h4 t ht
  have hble : Nat.ble h.next h.next = true := by rw [Nat.ble_eq]; exact Nat.le_refl _
  have hblt : Nat.blt h.next h.next = false := by
    cases hx : Nat.blt h.next h.next with
    | false => rfl
    | true => have := nblt hx; omega
  refine ⟨hblt, by simp only [entry, hble, Bool.true_or], t', h1, ?_⟩
  have hd : drewOn ⟨some d, .call { callee := .value f, args := args, argTypes := ats }, ty, pos, after, none⟩ i ⟨t, h, bs, segs, mem, tail⟩ t' (entry h) = ⟨t', h, bs ++ [bb], (i, h.next, h.next) :: segs, mem ||| 2 ^ i, tail⟩ := by
    unfold drewOn entry
    simp only [hble, cond_true, newer_same, List.nil_append, hb]
  rw [hd]
  exact hx t' h2

theorem newer_in {lo hi : Nat} (l : List (Nat × AObj)) (b : Nat) (h1 : lo ≤ b) (h2 : b < hi) : look (newer lo hi l) b = look l b := by
  unfold newer
  rw [beq_no (show lo ≠ hi by omega)]
  simp only [cond_false]
  induction l with
  | nil => rfl
  | cons p r ih =>
    obtain ⟨k, o⟩ := p
    rw [List.filter_cons]
    by_cases hk : k = b
    · subst hk
      have : inside lo hi (k, o) = true := by
        unfold inside
        have e1 : Nat.ble lo k = true := by rw [Nat.ble_eq]; exact h1
        have e2 : Nat.blt k hi = true := by show Nat.ble (k + 1) hi = true; rw [Nat.ble_eq]; omega
        simp only [e1, e2, Bool.and_self]
      rw [if_pos this]
      simp [look]
    · split
      · simp only [look, beq_no hk, cond_false, ih]
      · simp only [look, beq_no hk, cond_false, ih]

/-- What is left of a call in a drawn region: its value, and what it has made. -/
structure Left (h h' h2 : Heap) : Prop where
  next : h2.next = h'.next
  low : h2.low = h.low
  old : ∀ b, b < h.next → h2.get b = h.get b
  new : ∀ b, h.next ≤ b → h2.get b = h'.get b
theorem Left.aft {h' h2 : Heap} (a : After (entry h) h') (hl : Left h h' h2) : After h h2 where
  next := by rw [hl.next]; exact a.next
  get := hl.old
  ok := fun x b o hg => by
    by_cases hb : b < h.next
    · rw [hl.next]; exact Nat.lt_of_lt_of_le hb a.next
    · rw [hl.new b (by omega)] at hg
      rw [hl.next]
      exact a.ok (fun b o hg => x b o hg) b o hg
  low := fun e h3 _ => by rw [hl.low]; exact h3
theorem XD.call {f : Operand} {args : Array Operand} {ats : Array TypeId} {g : FuncId} {a b : Array Value} {vs : List Value} {bb : Nat} (hok : HOk h) (hf : evL fl f = some (.func (.func g) a b)) (ha : evA fl args.toList = some vs)
    (hb : beforeOf bs ⟨some d, .call { callee := .value f, args := args, argTypes := ats }, ty, pos, after, none⟩ = bb) (htl : (tail && !Nat.beq (mem &&& bb) mem) = false)
    (hm : (bif Nat.beq (mem &&& bb) mem then h.objs else mask bb segs h.objs) = h.objs) (hn : Nat.blt d n = true) (h4 : Nat.ble n 4000 = true)
    (hc : EvF P orc g (a.toList ++ vs ++ b.toList) (entry h) fun v h' => After (entry h) h' ∧ ∀ h2, Left h h' h2 → XD P orc ops n l (i + 1) ((d, v) :: fl) h2 (bs ++ [bb]) ((i, h.next, h2.next) :: segs) (mem ||| 2 ^ i) tail K) :
    XD P orc ops n (⟨some d, .call { callee := .value f, args := args, argTypes := ats }, ty, pos, after, none⟩ :: l) i fl h bs segs mem tail K := fun t ht => by
  refine EvD.call (o := ⟨some d, .call { callee := .value f, args := args, argTypes := ats }, ty, pos, after, none⟩) rfl rfl rfl (evL_ok ht hf) (by simp only [hb]; exact htl) ?_
  have hs : seenBy ⟨some d, .call { callee := .value f, args := args, argTypes := ats }, ty, pos, after, none⟩ ⟨t, h, bs, segs, mem, tail⟩ = entry h := by
    unfold seenBy entry
    simp only [hb, hm]
  rw [hs, evA_ok ht _ _ ha]
  refine hc.mono fun v h' hx => ?_
  obtain ⟨hA, hx⟩ := hx
  obtain ⟨t', h1, h2⟩ := put_ok (v := v) hn h4 t ht
  have hlow : Nat.ble h.next h'.low = true := by rw [Nat.ble_eq]; exact hA.low'
  have hblt : Nat.blt h'.next h.next = false := by
    cases hx : Nat.blt h'.next h.next with
    | false => rfl
    | true => have h5 := nblt hx; have h6 : h.next ≤ h'.next := hA.next; omega
  refine ⟨hblt, by simp only [hlow, Bool.true_or], t', h1, ?_⟩
  have hd : drewOn ⟨some d, .call { callee := .value f, args := args, argTypes := ats }, ty, pos, after, none⟩ i ⟨t, h, bs, segs, mem, tail⟩ t' h' =
      ⟨t', { next := h'.next, low := h.low, objs := newer h.next h'.next h'.objs ++ h.objs }, bs ++ [bb], (i, h.next, h'.next) :: segs, mem ||| 2 ^ i, tail⟩ := by
    unfold drewOn
    simp only [hlow, cond_true, hb]
  rw [hd]
  refine hx { next := h'.next, low := h.low, objs := newer h.next h'.next h'.objs ++ h.objs } ⟨rfl, rfl, fun b hbl => ?_, fun b hbg => ?_⟩ t' h2
  · show look (newer h.next h'.next h'.objs ++ h.objs) b = look h.objs b
    rw [look_append]
    cases hl : look (newer h.next h'.next h'.objs) b with
    | none => rfl
    | some o => have := (newer_some _ _ _ hl).1; omega
  · show look (newer h.next h'.next h'.objs ++ h.objs) b = look h'.objs b
    rw [look_append]
    have hold : look h.objs b = none := by
      cases hl : look h.objs b with
      | none => rfl
      | some o => have := hok b o hl; omega
    rw [hold, Option.or_none]
    cases hl : look h'.objs b with
    | none =>
      cases hl2 : look (newer h.next h'.next h'.objs) b with
      | none => rfl
      | some o => rw [(newer_some _ _ _ hl2).2] at hl; cases hl
    | some o =>
      have hlt : b < h'.next := hA.ok (fun b o hg => hok b o hg) b o hl
      rw [newer_in _ _ hbg hlt, hl]
end Go.Fs
namespace Go.Fs
variable {P : Program} {orc : FuncId → List Value → Heap → Option (Value × Heap)} {h h' : Heap} {ops : Array Oper} {n i mem : Nat} {fl : FL} {K : FL → Heap → Prop} {l : List Oper} {bs : List Nat} {segs : List (Nat × Nat × Nat)} {tail : Bool}
  {d : Tmp} {ty : TypeId} {pos : String} {after : Array Edge} {op : Op} {v : Value}

/-- A step that makes something. -/
def StepN (P : Program) (fl : FL) (h : Heap) (op : Op) (v : Value) (h' : Heap) : Prop := calm op = false ∧ ∀ t, TrIs fl t → ∀ (d : Option Tmp) (ty : TypeId) (pos : String) (after : Array Edge) (g : Option (Nat × Bool)),
  stepO P ⟨d, op, ty, pos, after, g⟩ (evalO t) h = some (v, h')
theorem StepN.buildSlice {T : TypeId} {len : Nat} {parts : Array (Nat × Operand)} {vs : List (Nat × Value)} (hx : evLs fl parts.toList = some vs) (hb : fsBuildSlice P T len vs.toArray h = some (v, h')) : StepN P fl h (.buildSlice T len parts) v h' :=
  ⟨rfl, fun t ht _ _ _ _ _ => by
    have hp : parts.map (fun p => (p.1, evalO t p.2)) = vs.toArray := by
      apply Array.toList_inj.1
      rw [Array.toList_map, evLs_ok ht _ _ hx]
    show fsBuildSlice P T len (parts.map fun p => (p.1, evalO t p.2)) h = _
    rw [hp, hb]⟩
theorem StepN.append {x y : Operand} {a : Array TypeId} {u w : Value} (hx : evL fl x = some u) (hy : evL fl y = some w) (hb : fsAppend P a u w h = some (v, h')) : StepN P fl h (.call { callee := .builtin .append, args := #[x, y], argTypes := a }) v h' :=
  ⟨rfl, fun t ht _ _ _ _ _ => by
    show fsAppend P a (evalO t x) (evalO t y) h = _
    rw [evL_ok ht hx, evL_ok ht hy, hb]⟩
theorem StepN.box {e : TypeId} {x : Operand} {u : Value} (hx : evL fl x = some u) (ho : u.cells.toList.all oneCell = true) : StepN P fl h (.box e x) (.pointer (some ⟨h.next, 0, none⟩)) (h.push (.row e u.cells.toList true false)) :=
  ⟨rfl, fun t ht _ _ _ _ _ => by
    show fsBox e (evalO t x) h = _
    rw [evL_ok ht hx]
    unfold fsBox
    rw [if_pos ho]⟩
theorem StepN.alloc {e : TypeId} {z : Value} (hz : (P.info? e).bind (·.zero) = some z) (ha : af z = true) (ho : z.cells.toList.all oneCell = true) : StepN P fl h (.alloc e) (.pointer (some ⟨h.next, 0, none⟩)) (h.push (.row e z.cells.toList true false)) :=
  ⟨rfl, fun t ht _ _ _ _ _ => by
    show (match (P.info? e).bind (·.zero) with | some z => if af z then fsBox e z h else none | none => none) = _
    rw [hz]
    simp only [ha, if_true]
    unfold fsBox
    rw [if_pos ho]⟩
theorem StepN.store {T : TypeId} {x y : Operand} {u w : Value} (hx : evL fl x = some u) (hy : evL fl y = some w) (hb : fsStore P T u w h = some h') : StepN P fl h (.store T x y) undef h' :=
  ⟨rfl, fun t ht _ _ _ _ _ => by
    show (fsStore P T (evalO t x) (evalO t y) h).map _ = _
    rw [evL_ok ht hx, evL_ok ht hy, hb]
    rfl⟩
theorem StepN.makeSlice {T : TypeId} {x y : Operand} {u w : Value} (hx : evL fl x = some u) (hy : evL fl y = some w) (hb : fsMakeSlice P T u w h = some (v, h')) : StepN P fl h (.makeSlice T x y) v h' :=
  ⟨rfl, fun t ht _ _ _ _ _ => by
    show fsMakeSlice P T (evalO t x) (evalO t y) h = _
    rw [evL_ok ht hx, evL_ok ht hy, hb]⟩

theorem put_no : ∀ t, TrIs fl t → ∃ t', put n t none v = some t' ∧ TrIs fl t' := fun t ht => ⟨t, rfl, ht⟩
theorem XO.mk (hs : StepN P fl h op v h') (hn : Nat.blt d n = true) (h4 : Nat.ble n 4000 = true) (hk : XO P orc ops n l ((d, v) :: fl) h' K) : XO P orc ops n (⟨some d, op, ty, pos, after, none⟩ :: l) fl h K :=
  XO.step (fun t ht => hs.2 t ht _ _ _ _ _) (put_ok hn h4) hk
theorem XO.mk0 (hs : StepN P fl h op v h') (hk : XO P orc ops n l fl h' K) : XO P orc ops n (⟨none, op, ty, pos, after, none⟩ :: l) fl h K :=
  XO.step (fun t ht => hs.2 t ht _ _ _ _ _) put_no hk

/-! ## Guards -/
theorem wanted_b {t : Tr} (ht : TrIs fl t) {j : Nat} {w b : Bool} {x : Tmp} {o : Oper} (ho : o.guard = some (j, w)) (hj : (ops[j]?).bind (·.dst) = some x) (hb : lk fl x = some (.bool b)) : fsWanted ops t o = some (b == w) := by
  unfold fsWanted
  rw [ho]
  simp only [hj, ht x _ hb]
theorem XO.skip {j : Nat} {w b : Bool} {x : Tmp} (hj : (ops[j]?).bind (·.dst) = some x) (hb : lk fl x = some (.bool b)) (hw : (b == w) = false) (hn : Nat.blt d n = true) (h4 : Nat.ble n 4000 = true) (hk : XO P orc ops n l ((d, undef) :: fl) h K) :
    XO P orc ops n (⟨some d, op, ty, pos, after, some (j, w)⟩ :: l) fl h K := fun t ht => by
  obtain ⟨t', h1, h2⟩ := put_ok (v := undef) hn h4 t ht
  exact EvO.skip (by rw [wanted_b ht rfl hj hb, hw]) h1 (hk t' h2)
theorem XO.gc {j : Nat} {w b : Bool} {x : Tmp} (hj : (ops[j]?).bind (·.dst) = some x) (hb : lk fl x = some (.bool b)) (hw : (b == w) = true) (hs : StepC P fl op v) (hn : Nat.blt d n = true) (h4 : Nat.ble n 4000 = true) (hk : XO P orc ops n l ((d, v) :: fl) h K) :
    XO P orc ops n (⟨some d, op, ty, pos, after, some (j, w)⟩ :: l) fl h K := fun t ht => by
  obtain ⟨t', h1, h2⟩ := put_ok (v := v) hn h4 t ht
  exact EvO.op (by rw [wanted_b ht rfl hj hb, hw]) (hs.2 t ht _ _ _ _ _ h) h1 (hk t' h2)
theorem XO.gr {j : Nat} {w b : Bool} {x : Tmp} (hj : (ops[j]?).bind (·.dst) = some x) (hb : lk fl x = some (.bool b)) (hw : (b == w) = true) (hs : StepR P fl h op v) (hn : Nat.blt d n = true) (h4 : Nat.ble n 4000 = true) (hk : XO P orc ops n l ((d, v) :: fl) h K) :
    XO P orc ops n (⟨some d, op, ty, pos, after, some (j, w)⟩ :: l) fl h K := fun t ht => by
  obtain ⟨t', h1, h2⟩ := put_ok (v := v) hn h4 t ht
  exact EvO.op (by rw [wanted_b ht rfl hj hb, hw]) (hs.2 t ht _ _ _ _ _ h.next h.low) h1 (hk t' h2)
theorem StepC.pick {c x y : Operand} {b : Bool} {u w : Value} (hc : evL fl c = some (.bool b)) (hx : evL fl x = some u) (hy : evL fl y = some w) : StepC P fl (.pick c x y) (bif b then u else w) :=
  ⟨rfl, fun t ht _ _ _ _ _ h => by
    show (match evalO t c with | .bool true => some (evalO t x, h) | .bool false => some (evalO t y, h) | _ => none) = _
    rw [evL_ok ht hc, evL_ok ht hx, evL_ok ht hy]
    cases b <;> rfl⟩
/-- The one arm alone, where the other is not known. -/
theorem StepC.pickT {c x y : Operand} {u : Value} (hc : evL fl c = some (.bool true)) (hx : evL fl x = some u) : StepC P fl (.pick c x y) u :=
  ⟨rfl, fun t ht _ _ _ _ _ h => by
    show (match evalO t c with | .bool true => some (evalO t x, h) | .bool false => some (evalO t y, h) | _ => none) = _
    rw [evL_ok ht hc, evL_ok ht hx]⟩
theorem StepC.pickF {c x y : Operand} {u : Value} (hc : evL fl c = some (.bool false)) (hy : evL fl y = some u) : StepC P fl (.pick c x y) u :=
  ⟨rfl, fun t ht _ _ _ _ _ h => by
    show (match evalO t c with | .bool true => some (evalO t x, h) | .bool false => some (evalO t y, h) | _ => none) = _
    rw [evL_ok ht hc, evL_ok ht hy]⟩

/-- In a drawn region: something new. -/
theorem XD.mk {b : Nat} (hok : HOk h) (hs : StepN P fl (entry h) op v h') (hA : After (entry h) h') (hb : beforeOf bs ⟨some d, op, ty, pos, after, none⟩ = b) (htl : (tail && !Nat.beq (mem &&& b) mem) = false)
    (hm : (bif Nat.beq (mem &&& b) mem then h.objs else mask b segs h.objs) = h.objs) (hn : Nat.blt d n = true) (h4 : Nat.ble n 4000 = true)
    (hk : ∀ h2, Left h h' h2 → XD P orc ops n l (i + 1) ((d, v) :: fl) h2 (bs ++ [b]) ((i, h.next, h2.next) :: segs) (mem ||| 2 ^ i) tail K) :
    XD P orc ops n (⟨some d, op, ty, pos, after, none⟩ :: l) i fl h bs segs mem tail K := fun t ht => by
  obtain ⟨t', h1, h2⟩ := put_ok (v := v) hn h4 t ht
  have hlow : Nat.ble h.next h'.low = true := by rw [Nat.ble_eq]; exact hA.low'
  have hblt : Nat.blt h'.next h.next = false := by
    cases hx : Nat.blt h'.next h.next with
    | false => rfl
    | true => have h5 := nblt hx; have h6 : h.next ≤ h'.next := hA.next; omega
  have hst := hs.2 t ht (some d) ty pos after none
  have hL : Left h h' { next := h'.next, low := h.low, objs := newer h.next h'.next h'.objs ++ h.objs } := ⟨rfl, rfl, fun b hbl => by
    show look (newer h.next h'.next h'.objs ++ h.objs) b = look h.objs b
    rw [look_append]
    cases hl : look (newer h.next h'.next h'.objs) b with
    | none => rfl
    | some o => have := (newer_some _ _ _ hl).1; omega, fun b hbg => by
    show look (newer h.next h'.next h'.objs ++ h.objs) b = look h'.objs b
    rw [look_append]
    have hold : look h.objs b = none := by
      cases hl : look h.objs b with
      | none => rfl
      | some o => have := hok b o hl; omega
    rw [hold, Option.or_none]
    cases hl : look h'.objs b with
    | none =>
      cases hl2 : look (newer h.next h'.next h'.objs) b with
      | none => rfl
      | some o => rw [(newer_some _ _ _ hl2).2] at hl; cases hl
    | some o =>
      have hlt : b < h'.next := hA.ok (fun b o hg => hok b o hg) b o hl
      rw [newer_in _ _ hbg hlt, hl]⟩
  refine EvD.op (s' := ⟨t', { next := h'.next, low := h.low, objs := newer h.next h'.next h'.objs ++ h.objs }, bs ++ [b], (i, h.next, h'.next) :: segs, mem ||| 2 ^ i, tail⟩) ?_ (hk _ hL t' h2)
  unfold entry at hst
  unfold fsDraw
  simp only [fsWanted, hs.1, Bool.false_eq_true, if_false, hb, htl, cond_false, hm, hst, hblt, h1, hlow, cond_true]
end Go.Fs
namespace Go.Fs
variable {P : Program} {h h' h0 h1 h2 : Heap} {S S' : List Nat}

inductive Ty where
  | int (k : IntKind)
  | bool
  | str
  | flt (k : FloatKind)
  | sl (e : Ty)
  | pair (a b : Ty)
  | unit
  | mp (a b : Ty)
  | fn

@[reducible] def Ty.den : Ty → Type
  | .int _ => Int
  | .bool => Bool
  | .str => ByteArray
  | .flt _ => Nat
  | .sl e => List e.den
  | .pair a b => a.den × b.den
  | .unit => Unit
  | .mp a b => List (a.den × b.den)
  | .fn => Option Nat
def Ty.size : Ty → Nat
  | .pair a b => a.size + b.size
  | .unit => 0
  | _ => 1
def Ty.agg : Ty → Bool
  | .pair _ _ | .unit => true
  | _ => false

/-- A slice's cell and its elements' cells; R: what an element's cells say. -/
def SlC (h : Heap) (S : List Nat) {α : Type} (s : Nat) (R : List Value → α → Prop) (v : Value) (xs : List α) : Prop :=
  (v = .slice none 0 0 ∧ xs = []) ∨ ∃ b o mk, v = .slice (some ⟨b, o, none⟩) xs.length mk ∧
    (xs = [] ∨ (b ∉ S ∧ ∃ e' rs own more, h.get b = some (.row e' rs own more) ∧ o + xs.length * s ≤ rs.length ∧ ∀ i (hi : i < xs.length), R ((rs.drop (o + i * s)).take s) xs[i]))

/-- A map's cell and its entries, in the order in which their keys came. -/
def MpC (h : Heap) (S : List Nat) {α β : Type} (K : Value → α → Prop) (R : Value → β → Prop) (v : Value) (kvs : List (α × β)) : Prop :=
  (v = .map none ∧ kvs = []) ∨ ∃ b es clock, v = .map (some b) ∧ b ∉ S ∧ h.get b = some (.mapo es clock) ∧ es.length = kvs.length ∧ ∀ i (hi : i < kvs.length) (hj : i < es.length), K es[i].key kvs[i].1 ∧ R es[i].val kvs[i].2
def isAggV : Value → Bool
  | .agg _ => true
  | _ => false
def fnV : Option Nat → Value
  | none => .nilFunc
  | some f => .func (.func f) #[] #[]
def RepC (h : Heap) (S : List Nat) : (τ : Ty) → List Value → τ.den → Prop
  | .int k, cs, x => cs = [.int k x]
  | .bool, cs, x => cs = [.bool x]
  | .str, cs, x => cs = [.string x]
  | .flt k, cs, x => cs = [.float k x]
  | .sl e, cs, xs => ∃ v, cs = [v] ∧ SlC h S e.size (RepC h S e) v xs
  | .pair a b, cs, x => RepC h S a (cs.take a.size) x.1 ∧ RepC h S b (cs.drop a.size) x.2
  | .unit, cs, _ => cs = []
  | .mp a b, cs, x => ∃ v, cs = [v] ∧ MpC h S (fun k y => isAggV k = a.agg ∧ RepC h S a k.cells.toList y) (fun u y => isAggV u = b.agg ∧ RepC h S b u.cells.toList y) v x
  | .fn, cs, f => cs = [fnV f]

def RepV (h : Heap) (S : List Nat) (τ : Ty) (v : Value) (x : τ.den) : Prop := isAggV v = τ.agg ∧ RepC h S τ v.cells.toList x

theorem cells_one {v : Value} (hv : isAggV v = false) : v.cells = #[v] := by
  cases v with
  | agg cs => cases hv
  | _ => rfl
theorem RepV.int {k : IntKind} {v : Value} {x : Int} (hv : RepV h S (.int k) v x) : v = .int k x := by
  obtain ⟨h1, h2⟩ := hv
  rw [cells_one h1] at h2
  simpa [RepC] using h2
theorem RepV.bool {v : Value} {x : Bool} (hv : RepV h S .bool v x) : v = .bool x := by
  obtain ⟨h1, h2⟩ := hv
  rw [cells_one h1] at h2
  simpa [RepC] using h2
theorem RepV.str {v : Value} {x : ByteArray} (hv : RepV h S .str v x) : v = .string x := by
  obtain ⟨h1, h2⟩ := hv
  rw [cells_one h1] at h2
  simpa [RepC] using h2
theorem RepV.flt {k : FloatKind} {v : Value} {x : Nat} (hv : RepV h S (.flt k) v x) : v = .float k x := by
  obtain ⟨h1, h2⟩ := hv
  rw [cells_one h1] at h2
  simpa [RepC] using h2
theorem RepV.ofInt (k : IntKind) (x : Int) : RepV h S (.int k) (.int k x) x := ⟨rfl, rfl⟩
theorem RepV.ofBool (x : Bool) : RepV h S .bool (.bool x) x := ⟨rfl, rfl⟩
theorem RepV.ofStr (x : ByteArray) : RepV h S .str (.string x) x := ⟨rfl, rfl⟩
theorem RepV.ofFlt (k : FloatKind) (x : Nat) : RepV h S (.flt k) (.float k x) x := ⟨rfl, rfl⟩

/-- A slice of τ. -/
def SlV (h : Heap) (S : List Nat) (τ : Ty) (v : Value) (xs : List τ.den) : Prop := SlC h S τ.size (RepC h S τ) v xs
theorem RepV.sl {τ : Ty} {v : Value} {xs : List τ.den} (hv : RepV h S (.sl τ) v xs) : SlV h S τ v xs := by
  obtain ⟨h1, h2⟩ := hv
  rw [cells_one h1] at h2
  obtain ⟨u, h3, h4⟩ := h2
  simp only [List.cons.injEq, and_true] at h3
  subst h3
  exact h4
theorem SlV.agg {τ : Ty} {v : Value} {xs : List τ.den} (hv : SlV h S τ v xs) : isAggV v = false := by
  rcases hv with ⟨rfl, _⟩ | ⟨b, o, mk, rfl, _⟩ <;> rfl
theorem SlV.rep {τ : Ty} {v : Value} {xs : List τ.den} (hv : SlV h S τ v xs) : RepV h S (.sl τ) v xs :=
  ⟨hv.agg, by rw [cells_one hv.agg]; exact ⟨v, rfl, hv⟩⟩
theorem SlV.nil {τ : Ty} : SlV h S τ (.slice none 0 0) [] := .inl ⟨rfl, rfl⟩

/-! ## Heaps that go on -/
/-- What is there, and not among S, is there still, and not among S'. -/
def Goes (h : Heap) (S : List Nat) (h' : Heap) (S' : List Nat) : Prop := ∀ b o, h.get b = some o → b ∉ S → h'.get b = some o ∧ b ∉ S'
theorem Goes.refl : Goes h S h S := fun _ _ h1 h2 => ⟨h1, h2⟩
theorem Goes.trans {S'' : List Nat} (a : Goes h S h1 S') (b : Goes h1 S' h2 S'') : Goes h S h2 S'' := fun i o h1 h2 => let ⟨h3, h4⟩ := a i o h1 h2; b i o h3 h4
theorem Goes.less (hs : ∀ b, b ∈ S' → b ∈ S) : Goes h S h S' := fun _ _ h1 h2 => ⟨h1, fun h3 => h2 (hs _ h3)⟩
theorem Goes.objs (hg : ∀ b, h'.get b = h.get b) : Goes h S h' S := fun b _ h1 h2 => ⟨by rw [hg]; exact h1, h2⟩
theorem After.nx (a : After h h') (hok : HOk h) : Goes h S h' S := fun b o h1 h2 => ⟨by rw [a.get b (hok b o h1)]; exact h1, h2⟩
theorem SlC.nx {α : Type} {s : Nat} {R R' : List Value → α → Prop} (hN : Goes h S h' S') (hR : ∀ cs x, R cs x → R' cs x) {v : Value} {xs : List α} (hv : SlC h S s R v xs) : SlC h' S' s R' v xs := by
  rcases hv with hv | ⟨b, o, mk, h1, h2⟩
  · exact .inl hv
  · refine .inr ⟨b, o, mk, h1, ?_⟩
    rcases h2 with h2 | ⟨h2, e', rs, own, more, h3, h4, h5⟩
    · exact .inl h2
    · obtain ⟨h6, h7⟩ := hN b _ h3 h2
      exact .inr ⟨h7, e', rs, own, more, h6, h4, fun i hi => hR _ _ (h5 i hi)⟩
theorem MpC.nx {α β : Type} {K K' : Value → α → Prop} {R R' : Value → β → Prop} (hN : Goes h S h' S') (hK : ∀ u x, K u x → K' u x) (hR : ∀ u x, R u x → R' u x) {v : Value} {kvs : List (α × β)} (hv : MpC h S K R v kvs) : MpC h' S' K' R' v kvs := by
  rcases hv with hv | ⟨b, es, c, h1, h2, h3, h4, h5⟩
  · exact .inl hv
  · obtain ⟨h6, h7⟩ := hN b _ h3 h2
    exact .inr ⟨b, es, c, h1, h7, h6, h4, fun i hi hj => ⟨hK _ _ (h5 i hi hj).1, hR _ _ (h5 i hi hj).2⟩⟩
theorem RepC.nx (hN : Goes h S h' S') : ∀ {τ : Ty} {cs : List Value} {x : τ.den}, RepC h S τ cs x → RepC h' S' τ cs x := by
  intro τ
  induction τ with
  | int k => exact fun hx => hx
  | bool => exact fun hx => hx
  | str => exact fun hx => hx
  | flt k => exact fun hx => hx
  | unit => exact fun hx => hx
  | pair a b iha ihb => exact fun hx => ⟨iha hx.1, ihb hx.2⟩
  | sl e ih =>
    rintro cs x ⟨v, h1, h2⟩
    exact ⟨v, h1, h2.nx hN fun cs x hx => ih hx⟩
  | fn => exact fun hx => hx
  | mp a b iha ihb =>
    rintro cs x ⟨v, h1, h2⟩
    exact ⟨v, h1, h2.nx hN (fun u x hx => ⟨hx.1, iha hx.2⟩) fun u x hx => ⟨hx.1, ihb hx.2⟩⟩
theorem RepV.nx {τ : Ty} {v : Value} {x : τ.den} (hv : RepV h S τ v x) (hN : Goes h S h' S') : RepV h' S' τ v x := ⟨hv.1, hv.2.nx hN⟩
theorem SlV.nx {τ : Ty} {v : Value} {xs : List τ.den} (hv : SlV h S τ v xs) (hN : Goes h S h' S') : SlV h' S' τ v xs := SlC.nx hN (fun _ _ hx => hx.nx hN) hv
theorem RepC.len : ∀ {τ : Ty} {cs : List Value} {x : τ.den}, RepC h S τ cs x → cs.length = τ.size := by
  intro τ
  induction τ with
  | int k => rintro cs x rfl; rfl
  | bool => rintro cs x rfl; rfl
  | str => rintro cs x rfl; rfl
  | flt k => rintro cs x rfl; rfl
  | unit => rintro cs x rfl; rfl
  | sl e ih => rintro cs x ⟨v, rfl, _⟩; rfl
  | fn => rintro cs x rfl; rfl
  | mp a b _ _ => rintro cs x ⟨v, rfl, _⟩; rfl
  | pair a b iha ihb =>
    rintro cs x ⟨h1, h2⟩
    have e1 := iha h1
    have e2 := ihb h2
    rw [List.length_take] at e1
    rw [List.length_drop] at e2
    show cs.length = a.size + b.size
    omega

/-! ## Maps, functions -/
def MpV (h : Heap) (S : List Nat) (a b : Ty) (v : Value) (kvs : List (a.den × b.den)) : Prop := MpC h S (RepV h S a) (RepV h S b) v kvs
theorem MpC.agg {α β : Type} {K : Value → α → Prop} {R : Value → β → Prop} {v : Value} {kvs : List (α × β)} (hv : MpC h S K R v kvs) : isAggV v = false := by
  rcases hv with ⟨rfl, _⟩ | ⟨b, es, c, rfl, _⟩ <;> rfl
theorem RepV.mp {a b : Ty} {v : Value} {kvs : List (a.den × b.den)} (hv : RepV h S (.mp a b) v kvs) : MpV h S a b v kvs := by
  obtain ⟨h1, h2⟩ := hv
  rw [cells_one h1] at h2
  obtain ⟨u, h3, h4⟩ := h2
  simp only [List.cons.injEq, and_true] at h3
  subst h3
  exact h4
theorem MpV.rep {a b : Ty} {v : Value} {kvs : List (a.den × b.den)} (hv : MpV h S a b v kvs) : RepV h S (.mp a b) v kvs :=
  ⟨hv.agg, by rw [cells_one hv.agg]; exact ⟨v, rfl, hv⟩⟩
theorem fnV_agg (f : Option Nat) : isAggV (fnV f) = false := by cases f <;> rfl
theorem RepV.fn {v : Value} {f : Option Nat} (hv : RepV h S .fn v f) : v = fnV f := by
  obtain ⟨h1, h2⟩ := hv
  rw [cells_one h1] at h2
  simpa [RepC] using h2
theorem RepV.ofFn (f : Option Nat) : RepV h S .fn (fnV f) f := ⟨fnV_agg f, by rw [cells_one (fnV_agg f)]; rfl⟩

/-! ## Structs -/
theorem RepC.one {τ : Ty} {cs : List Value} {x : τ.den} (ht : τ.agg = false) (hx : RepC h S τ cs x) : ∃ v, cs = [v] ∧ RepV h S τ v x := by
  cases τ with
  | int k => exact ⟨_, hx, rfl, rfl⟩
  | bool => exact ⟨_, hx, rfl, rfl⟩
  | str => exact ⟨_, hx, rfl, rfl⟩
  | flt k => exact ⟨_, hx, rfl, rfl⟩
  | sl e =>
    obtain ⟨v, h1, h2⟩ := hx
    exact ⟨v, h1, SlV.rep h2⟩
  | mp a b =>
    obtain ⟨v, h1, h2⟩ := hx
    exact ⟨v, h1, MpV.rep h2⟩
  | fn => exact ⟨_, hx, RepV.ofFn _⟩
  | pair a b => cases ht
  | unit => cases ht
theorem Ty.size_one {τ : Ty} (ht : τ.agg = false) : τ.size = 1 := by
  cases τ <;> first | rfl | cases ht
theorem RepC.head {a b : Ty} {cs : List Value} {x : (Ty.pair a b).den} (ht : a.agg = false) (hx : RepC h S (.pair a b) cs x) : ∃ u r, cs = u :: r ∧ RepV h S a u x.1 ∧ RepC h S b r x.2 := by
  obtain ⟨h1, h2⟩ := hx
  rw [Ty.size_one ht] at h1 h2
  obtain ⟨v, h3, h4⟩ := h1.one ht
  cases cs with
  | nil => simp at h3
  | cons c r =>
    simp at h3 h2
    subst h3
    exact ⟨c, r, rfl, h4, h2⟩
theorem RepC.cons {a b : Ty} {u : Value} {r : List Value} {x : (Ty.pair a b).den} (ht : a.agg = false) (h1 : RepV h S a u x.1) (h2 : RepC h S b r x.2) : RepC h S (.pair a b) (u :: r) x := by
  have hu := h1.2
  rw [cells_one (h1.1.trans ht)] at hu
  exact ⟨by rw [Ty.size_one ht]; exact hu, by rw [Ty.size_one ht]; exact h2⟩
theorem RepV.last {a : Ty} {u : Value} {x : a.den} (ht : a.agg = false) (h1 : RepV h S a u x) : RepC h S a [u] x := by
  have hu := h1.2
  rw [cells_one (h1.1.trans ht)] at hu
  exact hu
theorem RepV.cellsOf {a b : Ty} {v : Value} {x : (Ty.pair a b).den} (hv : RepV h S (.pair a b) v x) : ∃ cs, v = .agg cs.toArray ∧ RepC h S (.pair a b) cs x := by
  cases v with
  | agg cs => exact ⟨cs.toList, by simp, hv.2⟩
  | _ => cases hv.1
theorem RepV.ofCells {a b : Ty} {cs : List Value} {x : (Ty.pair a b).den} (hx : RepC h S (.pair a b) cs x) : RepV h S (.pair a b) (.agg cs.toArray) x := ⟨rfl, by simpa [Value.cells] using hx⟩
theorem RepV.st2 {a b : Ty} {v : Value} {x : (Ty.pair a b).den} (hv : RepV h S (.pair a b) v x) (ha : a.agg = false) (hb : b.agg = false) : ∃ u1 u2, v = .agg #[u1, u2] ∧ RepV h S a u1 x.1 ∧ RepV h S b u2 x.2 := by
  obtain ⟨cs, rfl, hx⟩ := hv.cellsOf
  obtain ⟨u1, r, rfl, h1, hx⟩ := hx.head ha
  obtain ⟨u2, rfl, h2⟩ := hx.one hb
  exact ⟨u1, u2, rfl, h1, h2⟩
theorem RepV.mk2 {a b : Ty} {u1 u2 : Value} {x : (Ty.pair a b).den} (h1 : RepV h S a u1 x.1) (h2 : RepV h S b u2 x.2) (ha : a.agg = false) (hb : b.agg = false) : RepV h S (.pair a b) (.agg #[u1, u2]) x :=
  RepV.ofCells (RepC.cons ha h1 (h2.last hb))
theorem RepV.st3 {a b c : Ty} {v : Value} {x : (Ty.pair a (.pair b c)).den} (hv : RepV h S (.pair a (.pair b c)) v x) (ha : a.agg = false) (hb : b.agg = false) (hc : c.agg = false) :
    ∃ u1 u2 u3, v = .agg #[u1, u2, u3] ∧ RepV h S a u1 x.1 ∧ RepV h S b u2 x.2.1 ∧ RepV h S c u3 x.2.2 := by
  obtain ⟨cs, rfl, hx⟩ := hv.cellsOf
  obtain ⟨u1, r, rfl, h1, hx⟩ := hx.head ha
  obtain ⟨u2, r, rfl, h2, hx⟩ := hx.head hb
  obtain ⟨u3, rfl, h3⟩ := hx.one hc
  exact ⟨u1, u2, u3, rfl, h1, h2, h3⟩
theorem RepV.mk3 {a b c : Ty} {u1 u2 u3 : Value} {x : (Ty.pair a (.pair b c)).den} (h1 : RepV h S a u1 x.1) (h2 : RepV h S b u2 x.2.1) (h3 : RepV h S c u3 x.2.2) (ha : a.agg = false) (hb : b.agg = false) (hc : c.agg = false) :
    RepV h S (.pair a (.pair b c)) (.agg #[u1, u2, u3]) x :=
  RepV.ofCells (RepC.cons ha h1 (RepC.cons hb h2 (h3.last hc)))
theorem RepV.st4 {a b c d : Ty} {v : Value} {x : (Ty.pair a (.pair b (.pair c d))).den} (hv : RepV h S (.pair a (.pair b (.pair c d))) v x) (ha : a.agg = false) (hb : b.agg = false) (hc : c.agg = false) (hd : d.agg = false) :
    ∃ u1 u2 u3 u4, v = .agg #[u1, u2, u3, u4] ∧ RepV h S a u1 x.1 ∧ RepV h S b u2 x.2.1 ∧ RepV h S c u3 x.2.2.1 ∧ RepV h S d u4 x.2.2.2 := by
  obtain ⟨cs, rfl, hx⟩ := hv.cellsOf
  obtain ⟨u1, r, rfl, h1, hx⟩ := hx.head ha
  obtain ⟨u2, r, rfl, h2, hx⟩ := hx.head hb
  obtain ⟨u3, r, rfl, h3, hx⟩ := hx.head hc
  obtain ⟨u4, rfl, h4⟩ := hx.one hd
  exact ⟨u1, u2, u3, u4, rfl, h1, h2, h3, h4⟩
theorem RepV.mk4 {a b c d : Ty} {u1 u2 u3 u4 : Value} {x : (Ty.pair a (.pair b (.pair c d))).den} (h1 : RepV h S a u1 x.1) (h2 : RepV h S b u2 x.2.1) (h3 : RepV h S c u3 x.2.2.1) (h4 : RepV h S d u4 x.2.2.2) (ha : a.agg = false) (hb : b.agg = false)
    (hc : c.agg = false) (hd : d.agg = false) : RepV h S (.pair a (.pair b (.pair c d))) (.agg #[u1, u2, u3, u4]) x :=
  RepV.ofCells (RepC.cons ha h1 (RepC.cons hb h2 (RepC.cons hc h3 (h4.last hd))))
theorem RepV.st5 {a b c d e : Ty} {v : Value} {x : (Ty.pair a (.pair b (.pair c (.pair d e)))).den} (hv : RepV h S (.pair a (.pair b (.pair c (.pair d e)))) v x) (ha : a.agg = false) (hb : b.agg = false) (hc : c.agg = false) (hd : d.agg = false) (he : e.agg = false) :
    ∃ u1 u2 u3 u4 u5, v = .agg #[u1, u2, u3, u4, u5] ∧ RepV h S a u1 x.1 ∧ RepV h S b u2 x.2.1 ∧ RepV h S c u3 x.2.2.1 ∧ RepV h S d u4 x.2.2.2.1 ∧ RepV h S e u5 x.2.2.2.2 := by
  obtain ⟨cs, rfl, hx⟩ := hv.cellsOf
  obtain ⟨u1, r, rfl, h1, hx⟩ := hx.head ha
  obtain ⟨u2, r, rfl, h2, hx⟩ := hx.head hb
  obtain ⟨u3, r, rfl, h3, hx⟩ := hx.head hc
  obtain ⟨u4, r, rfl, h4, hx⟩ := hx.head hd
  obtain ⟨u5, rfl, h5⟩ := hx.one he
  exact ⟨u1, u2, u3, u4, u5, rfl, h1, h2, h3, h4, h5⟩

/-! ## Slices: lengths, elements -/
/-- What is asked of a type of slices, of elements that τ tells. -/
structure ElT (P : Program) (T e : TypeId) (τ : Ty) : Prop where
  sl : SlT P T e τ.size
  agg : ∃ d, P.underlying e = some d ∧ isAggD d = τ.agg
def elB (P : Program) (T e : TypeId) (τ : Ty) : Bool := slB P T e τ.size && (match P.underlying e with | some d => isAggD d == τ.agg | none => false)
theorem elT_of {T e : TypeId} {τ : Ty} (hb : elB P T e τ = true) : ElT P T e τ := by
  unfold elB at hb
  obtain ⟨h1, h2⟩ := band hb
  refine ⟨slT_of h1, ?_⟩
  split at h2
  · rename_i d hd; exact ⟨d, hd, by simpa using h2⟩
  · cases h2

theorem SlV.len {T e : TypeId} {τ : Ty} (hT : ElT P T e τ) {v : Value} {xs : List τ.den} (hv : SlV h S τ v xs) (h' : Heap) : fsLen P #[T] v h' = some (.int .i64 (xs.length : Nat)) := by
  rcases hv with ⟨rfl, rfl⟩ | ⟨b, o, mk, rfl, _⟩
  · simp [fsLen, hT.sl.sl]
  · simp [fsLen, hT.sl.sl]

def ptrAt (v : Value) (s j : Nat) : Value :=
  match v with
  | .slice (some ⟨b, o, none⟩) _ _ => .pointer (some ⟨b, o + j * s, none⟩)
  | _ => undef
/-- A pointer to cells that tell a datum. -/
def RepP (h : Heap) (S : List Nat) (τ : Ty) (p : Value) (x : τ.den) : Prop :=
  ∃ b o e rs own more, p = .pointer (some ⟨b, o, none⟩) ∧ b ∉ S ∧ h.get b = some (.row e rs own more) ∧ o + τ.size ≤ rs.length ∧ RepC h S τ ((rs.drop o).take τ.size) x
theorem RepP.nx {τ : Ty} {p : Value} {x : τ.den} (hp : RepP h S τ p x) (hN : Goes h S h' S') : RepP h' S' τ p x := by
  obtain ⟨b, o, e, rs, own, more, h1, h2, h3, h4, h5⟩ := hp
  obtain ⟨h6, h7⟩ := hN b _ h3 h2
  exact ⟨b, o, e, rs, own, more, h1, h7, h6, h4, h5.nx hN⟩
theorem SlV.row {τ : Ty} {v : Value} {xs : List τ.den} (hv : SlV h S τ v xs) (hj : 0 < xs.length) : ∃ b o mk e' rs own more, v = .slice (some ⟨b, o, none⟩) xs.length mk ∧ b ∉ S ∧ h.get b = some (.row e' rs own more) ∧ o + xs.length * τ.size ≤ rs.length ∧
    ∀ i (hi : i < xs.length), RepC h S τ ((rs.drop (o + i * τ.size)).take τ.size) xs[i] := by
  rcases hv with ⟨rfl, rfl⟩ | ⟨b, o, mk, rfl, h2⟩
  · simp at hj
  · rcases h2 with rfl | ⟨h2, e', rs, own, more, h3, h4, h5⟩
    · simp at hj
    · exact ⟨b, o, mk, e', rs, own, more, rfl, h2, h3, h4, h5⟩
theorem SlV.at {τ : Ty} {v : Value} {xs : List τ.den} (hv : SlV h S τ v xs) {j : Nat} (hj : j < xs.length) : RepP h S τ (ptrAt v τ.size j) xs[j] := by
  obtain ⟨b, o, mk, e', rs, own, more, rfl, h2, h3, h4, h5⟩ := hv.row (by omega)
  refine ⟨b, o + j * τ.size, e', rs, own, more, rfl, h2, h3, ?_, h5 j hj⟩
  have : (j + 1) * τ.size ≤ xs.length * τ.size := Nat.mul_le_mul_right _ hj
  rw [Nat.add_mul] at this
  omega
theorem SlV.ix {T e : TypeId} {τ : Ty} (hT : ElT P T e τ) {v : Value} {xs : List τ.den} (hv : SlV h S τ v xs) {j : Nat} (hj : j < xs.length) : runPure P (Instr.indexAt T v (.int .i64 (j : Nat))) = some (ptrAt v τ.size j) := by
  obtain ⟨b, o, mk, e', rs, own, more, rfl, h2, h3, h4, h5⟩ := hv.row (by omega)
  obtain ⟨i, z, hinf, hsz, _⟩ := hT.sl.info
  unfold Instr.indexAt
  have h6 : (0 : Int) ≤ (j : Int) ∧ (j : Int) < (xs.length : Nat) := by omega
  simp only [runPure_bind, asIntOf, runPure_pure, Option.bind_some, runPure_underlying hT.sl.sl, if_pos h6, runPure_sizeOf hinf, hsz, add_none, Int.toNat_natCast, ptrAt]
theorem SlV.ixZ {T e : TypeId} {τ : Ty} (hT : ElT P T e τ) {v : Value} {xs : List τ.den} (hv : SlV h S τ v xs) {n : Int} (h0 : 0 ≤ n) (hn : n < (xs.length : Nat)) : runPure P (Instr.indexAt T v (.int .i64 n)) = some (ptrAt v τ.size n.toNat) := by
  obtain ⟨j, rfl⟩ := Int.eq_ofNat_of_zero_le h0
  exact hv.ix hT (by omega)

/-- What is asked of a type whose values τ tells. -/
structure ValT (P : Program) (e : TypeId) (τ : Ty) : Prop where
  info : ∃ i, P.info? e = some i ∧ i.size = τ.size
  agg : ∃ d, P.underlying e = some d ∧ isAggD d = τ.agg
theorem ElT.val {T e : TypeId} {τ : Ty} (hT : ElT P T e τ) : ValT P e τ := let ⟨i, _, h1, h2, _⟩ := hT.sl.info; ⟨⟨i, h1, h2⟩, hT.agg⟩
def valB (P : Program) (e : TypeId) (τ : Ty) : Bool := (match P.info? e with | some i => Nat.beq i.size τ.size | none => false) && (match P.underlying e with | some d => isAggD d == τ.agg | none => false)
theorem valT_of {e : TypeId} {τ : Ty} (hb : valB P e τ = true) : ValT P e τ := by
  unfold valB at hb
  obtain ⟨h1, h2⟩ := band hb
  refine ⟨?_, ?_⟩
  · split at h1
    · rename_i i hi; exact ⟨i, hi, nbeq h1⟩
    · cases h1
  · split at h2
    · rename_i d hd; exact ⟨d, hd, by simpa using h2⟩
    · cases h2
/-- The value behind a pointer. -/
def valAt (h : Heap) (τ : Ty) (p : Value) : Value :=
  match p with
  | .pointer (some ⟨b, o, none⟩) =>
    match h.get b with
    | some (.row _ rs _ _) => if τ.agg then .agg ((rs.drop o).take τ.size).toArray else rs.getD o undef
    | _ => undef
  | _ => undef
theorem take_one {rs : List Value} {o : Nat} (ho : o < rs.length) : (rs.drop o).take 1 = [rs[o]] := by
  rw [List.drop_eq_getElem_cons ho]; rfl
theorem RepP.load' {e : TypeId} {τ : Ty} (hT : ValT P e τ) {p : Value} {x : τ.den} (hp : RepP h S τ p x) : fsLoad P e p h = some (valAt h τ p) ∧ RepV h S τ (valAt h τ p) x := by
  obtain ⟨b, o, e', rs, own, more, rfl, h2, h3, h4, h5⟩ := hp
  obtain ⟨i, hi, hs⟩ := hT.info
  obtain ⟨d, hd, ha⟩ := hT.agg
  simp only [fsLoad, valAt, h3, hd, hi, ha, hs]
  cases hb : τ.agg with
  | true =>
    simp only [if_true, h4]
    refine ⟨trivial, by simpa [isAggV] using hb.symm, by simpa [Value.cells] using h5⟩
  | false =>
    have h1 := Ty.size_one hb
    rw [h1] at h4 h5
    have ho : o < rs.length := by omega
    rw [take_one ho] at h5
    obtain ⟨u, hu, hv⟩ := h5.one hb
    simp only [List.cons.injEq, and_true] at hu
    simp only [Bool.false_eq_true, if_false, List.getD_eq_getElem?_getD, List.getElem?_eq_getElem ho, Option.getD_some]
    exact ⟨trivial, by rw [hu]; exact hv⟩
theorem RepP.load {e : TypeId} {τ : Ty} {p : Value} {x : τ.den} (hp : RepP h S τ p x) (hT : ValT P e τ) : fsLoad P e p h = some (valAt h τ p) := (hp.load' hT).1
theorem RepP.val {τ : Ty} {p : Value} {x : τ.den} (hp : RepP h S τ p x) : RepV h S τ (valAt h τ p) x := by
  obtain ⟨b, o, e', rs, own, more, rfl, h2, h3, h4, h5⟩ := hp
  simp only [valAt, h3]
  cases hb : τ.agg with
  | true =>
    simp only [if_true]
    refine ⟨by simpa [isAggV] using hb.symm, by simpa [Value.cells] using h5⟩
  | false =>
    have h1 := Ty.size_one hb
    rw [h1] at h4 h5
    have ho : o < rs.length := by omega
    rw [take_one ho] at h5
    obtain ⟨u, hu, hv⟩ := h5.one hb
    simp only [List.cons.injEq, and_true] at hu
    simp only [Bool.false_eq_true, if_false, List.getD_eq_getElem?_getD, List.getElem?_eq_getElem ho, Option.getD_some]
    rw [hu]; exact hv
theorem RepP.ldInt {e : TypeId} {k : IntKind} {p : Value} {x : Int} (hp : RepP h S (.int k) p x) (hT : ValT P e (.int k)) : fsLoad P e p h = some (.int k x) := by rw [hp.load hT, hp.val.int]
theorem RepP.ldBool {e : TypeId} {p : Value} {x : Bool} (hp : RepP h S .bool p x) (hT : ValT P e .bool) : fsLoad P e p h = some (.bool x) := by rw [hp.load hT, hp.val.bool]
theorem RepP.ldStr {e : TypeId} {p : Value} {x : ByteArray} (hp : RepP h S .str p x) (hT : ValT P e .str) : fsLoad P e p h = some (.string x) := by rw [hp.load hT, hp.val.str]
theorem RepP.ldFlt {e : TypeId} {k : FloatKind} {p : Value} {x : Nat} (hp : RepP h S (.flt k) p x) (hT : ValT P e (.flt k)) : fsLoad P e p h = some (.float k x) := by rw [hp.load hT, hp.val.flt]

/-! ## Fields behind a pointer -/
def padd (p : Value) (k : Nat) : Value :=
  match p with
  | .pointer (some ⟨b, o, none⟩) => .pointer (some ⟨b, o + k, none⟩)
  | _ => undef
theorem RepP.fst {a b : Ty} {p : Value} {x : (Ty.pair a b).den} (hp : RepP h S (.pair a b) p x) : RepP h S a (padd p 0) x.1 := by
  obtain ⟨b', o, e', rs, own, more, rfl, h2, h3, h4, h5⟩ := hp
  have hs : (Ty.pair a b).size = a.size + b.size := rfl
  rw [hs] at h4
  refine ⟨b', o, e', rs, own, more, rfl, h2, h3, by omega, ?_⟩
  have := h5.1
  rwa [List.take_take, hs, Nat.min_eq_left (by omega)] at this
theorem RepP.snd {a b : Ty} {p : Value} {x : (Ty.pair a b).den} (hp : RepP h S (.pair a b) p x) : RepP h S b (padd p a.size) x.2 := by
  obtain ⟨b', o, e', rs, own, more, rfl, h2, h3, h4, h5⟩ := hp
  have hs : (Ty.pair a b).size = a.size + b.size := rfl
  rw [hs] at h4
  refine ⟨b', o + a.size, e', rs, own, more, rfl, h2, h3, by omega, ?_⟩
  have := h5.2
  rwa [List.drop_take, hs, Nat.add_sub_cancel_left, List.drop_drop] at this
theorem padd_padd {τ : Ty} {p : Value} {x : τ.den} (hp : RepP h S τ p x) (i k : Nat) : padd (padd p i) k = padd p (i + k) := by
  obtain ⟨b', o, e', rs, own, more, rfl, h2, h3, h4, h5⟩ := hp
  simp only [padd, Nat.add_assoc]
/-- The offset of a field, if it has cells. -/
def offB (P : Program) (s : TypeId) (f k : Nat) : Bool :=
  match P.underlying s with
  | some (.struct fs) => match fs[f]? with
    | some fd => Nat.beq fd.offset k && (match P.info? fd.type with | some i => Nat.blt 0 i.size | none => false)
    | none => false
  | _ => false
theorem RepP.fa {s : TypeId} {f k : Nat} {τ : Ty} {p : Value} {x : τ.den} (hp : RepP h S τ p x) (hb : offB P s f k = true) : runPure P (Instr.fieldAt s p f) = some (padd p k) := by
  obtain ⟨b', o, e', rs, own, more, rfl, h2, h3, h4, h5⟩ := hp
  unfold offB at hb
  split at hb
  · rename_i fs hfs
    split at hb
    · rename_i fd hfd
      obtain ⟨h6, h7⟩ := band hb
      split at h7
      · rename_i i hi
        have h8 := nblt h7
        have h9 := nbeq h6
        unfold Instr.fieldAt
        simp only [runPure_bind, runPure_underlying hfs, Option.bind_some, hfd]
        show (runPure P (Instr.sureAddr _)).bind _ = _
        simp only [Instr.sureAddr, runPure_pure, Option.bind_some, runPure_bind, fieldPlace, runPure_sizeOf hi]
        rw [if_neg (by omega)]
        simp only [runPure_pure, Option.bind_some, add_none, h9, padd]
      · cases h7
    · cases hb
  · cases hb
end Go.Fs
namespace Go.Fs
variable {P : Program} {h h' h0 h1 h2 : Heap} {S S' S0 : List Nat}

theorem fold_set (off : Nat) : ∀ (us : List Value) (j : Nat) (pre mid post : List Value), pre.length = off + j → mid.length = us.length →
    (us.zipIdx j).foldl (fun (cs : Array Value) (p : Value × Nat) => cs.setIfInBounds (off + p.2) p.1) (pre ++ mid ++ post).toArray = (pre ++ us ++ post).toArray
  | [], j, pre, mid, post, _, hm => by
    have : mid = [] := List.eq_nil_of_length_eq_zero hm
    subst this
    rfl
  | u :: us, j, pre, [], post, _, hm => by simp at hm
  | u :: us, j, pre, m :: mid, post, hp, hm => by
    simp only [List.zipIdx_cons, List.foldl_cons]
    have h1 : (pre ++ (m :: mid) ++ post).toArray.setIfInBounds (off + j) u = ((pre ++ [u]) ++ mid ++ post).toArray := by
      rw [← hp]
      simp
    rw [h1, fold_set off us (j + 1) (pre ++ [u]) mid post (by simp; omega) (by simpa using hm)]
    simp
theorem fill_at (s off : Nat) (u : Value) (pre mid post : List Value) (hp : pre.length = off) (hm : mid.length = s) (hu : u.cells.size = s) :
    u.cells.zipIdx.foldl (fun (cs : Array Value) (p : Value × Nat) => cs.setIfInBounds (off + p.2) p.1) (pre ++ mid ++ post).toArray = (pre ++ u.cells.toList ++ post).toArray := by
  have := fold_set off u.cells.toList 0 pre mid post (by omega) (by simp; omega)
  rw [← this, ← Array.foldl_toList, Array.toList_zipIdx]
def flat (vs : List Value) : List Value := vs.flatMap fun v => v.cells.toList
theorem fill_all (s : Nat) : ∀ (vs : List Value) (k : Nat) (pre rest : List Value), (∀ v ∈ vs, v.cells.size = s) → pre.length = k * s → rest.length = vs.length * s →
    Instr.fill (fun i => some (i * s, s)) (pre ++ rest).toArray (numbered k vs) = some (pre ++ flat vs).toArray
  | [], k, pre, rest, _, _, hr => by
    have : rest = [] := List.eq_nil_of_length_eq_zero (by simpa using hr)
    subst this
    rfl
  | v :: vs, k, pre, rest, hc, hp, hr => by
    have hv := hc v List.mem_cons_self
    simp only [numbered, Instr.fill, hv]
    have hr' : rest.length = vs.length * s + s := by rw [hr, List.length_cons, Nat.add_mul]; omega
    have h2 : (decide (s ≠ s) || decide (k * s + s > (pre ++ rest).toArray.size)) = false := by simp; omega
    rw [show (s ≠ s || k * s + s > (pre ++ rest).toArray.size) = false from h2]
    simp only [Bool.false_eq_true, if_false]
    have h3 := fill_at s (k * s) v pre (rest.take s) (rest.drop s) hp (by rw [List.length_take]; omega) hv
    rw [List.append_assoc, List.take_append_drop] at h3
    have h4 : v.cells.zipIdx.foldl (fun cs (c, j) => cs.setIfInBounds (k * s + j) c) (pre ++ rest).toArray = (pre ++ v.cells.toList ++ rest.drop s).toArray := h3
    rw [h4, fill_all s vs (k + 1) (pre ++ v.cells.toList) (rest.drop s) (fun u hu => hc u (List.mem_cons_of_mem _ hu)) (by simp [hv, hp, Nat.add_mul]) (by rw [List.length_drop]; omega)]
    simp [flat]

theorem RepV.cellsSize {τ : Ty} {u : Value} {x : τ.den} (hu : RepV h S τ u x) : u.cells.size = τ.size := by simpa using hu.2.len
/-- Cells that are one cell each. -/
theorem RepC.allOne : ∀ {τ : Ty} {cs : List Value} {x : τ.den}, RepC h S τ cs x → cs.all oneCell = true := by
  intro τ
  induction τ with
  | int k => rintro cs x rfl; rfl
  | bool => rintro cs x rfl; rfl
  | str => rintro cs x rfl; rfl
  | flt k => rintro cs x rfl; rfl
  | unit => rintro cs x rfl; rfl
  | sl e ih =>
    rintro cs x ⟨v, rfl, h2⟩
    rcases h2 with ⟨rfl, _⟩ | ⟨b, o, mk, rfl, _⟩ <;> rfl
  | fn => rintro cs x rfl; cases x <;> rfl
  | mp a b _ _ =>
    rintro cs x ⟨v, rfl, h2⟩
    rcases h2 with ⟨rfl, _⟩ | ⟨b, es, c, rfl, _⟩ <;> rfl
  | pair a b iha ihb =>
    rintro cs x ⟨h1, h2⟩
    have e1 := iha h1
    have e2 := ihb h2
    rw [← List.take_append_drop a.size cs, List.all_append, e1, e2]; rfl

/-- What lies in a row of n elements. -/
def Elems (h : Heap) (S : List Nat) (τ : Ty) (rs : List Value) (xs : List τ.den) : Prop := rs.length = xs.length * τ.size ∧ ∀ i (hi : i < xs.length), RepC h S τ ((rs.drop (i * τ.size)).take τ.size) xs[i]
theorem Elems.nx {τ : Ty} {rs : List Value} {xs : List τ.den} (he : Elems h S τ rs xs) (hN : Goes h S h' S') : Elems h' S' τ rs xs := ⟨he.1, fun i hi => (he.2 i hi).nx hN⟩
theorem Elems.nil {τ : Ty} : Elems h S τ [] [] := ⟨by simp, fun i hi => absurd hi (by simp)⟩
theorem Elems.append {τ : Ty} {rs rs' : List Value} {xs xs' : List τ.den} (he : Elems h S τ rs xs) (he' : Elems h S τ rs' xs') : Elems h S τ (rs ++ rs') (xs ++ xs') := by
  refine ⟨by rw [List.length_append, List.length_append, he.1, he'.1, Nat.add_mul], fun i hi => ?_⟩
  by_cases h1 : i < xs.length
  · have h2 : (i + 1) * τ.size ≤ xs.length * τ.size := Nat.mul_le_mul_right _ h1
    rw [Nat.add_mul] at h2
    have h3 : i * τ.size ≤ rs.length := by rw [he.1]; omega
    rw [List.getElem_append_left h1, List.drop_append_of_le_length h3, List.take_append_of_le_length (by rw [List.length_drop, he.1]; omega)]
    exact he.2 i h1
  · have h1' : xs.length ≤ i := by omega
    have h2 : i - xs.length < xs'.length := by rw [List.length_append] at hi; omega
    rw [List.getElem_append_right h1']
    have h3 : (rs ++ rs').drop (i * τ.size) = rs'.drop ((i - xs.length) * τ.size) := by
      have h4 : i * τ.size = rs.length + (i - xs.length) * τ.size := by rw [he.1, ← Nat.add_mul]; congr 1; omega
      rw [h4, List.drop_append, List.drop_eq_nil_of_le (by omega), Nat.add_sub_cancel_left, List.nil_append]
    rw [h3]
    exact he'.2 _ h2
theorem Elems.one {τ : Ty} {u : Value} {x : τ.den} (hu : RepV h S τ u x) : Elems h S τ u.cells.toList [x] := by
  refine ⟨by simpa using hu.cellsSize, fun i hi => ?_⟩
  have : i = 0 := by simpa using hi
  subst this
  simp only [Nat.zero_mul, List.drop_zero, List.getElem_cons_zero]
  rw [List.take_of_length_le (by rw [Array.length_toList, hu.cellsSize]; exact Nat.le_refl _)]
  exact hu.2
theorem Elems.allOne {τ : Ty} : ∀ (xs : List τ.den) (rs : List Value), Elems h S τ rs xs → rs.all oneCell = true := by
  intro xs
  induction xs with
  | nil => intro rs he; have := he.1; simp at this; subst this; rfl
  | cons x xs ih =>
    intro rs he
    have h1 := he.2 0 (by simp)
    simp only [Nat.zero_mul, List.drop_zero, List.getElem_cons_zero] at h1
    have h2 : Elems h S τ (rs.drop τ.size) xs := by
      refine ⟨by rw [List.length_drop, he.1, List.length_cons, Nat.add_mul]; omega, fun i hi => ?_⟩
      have := he.2 (i + 1) (by simpa using hi)
      rw [List.drop_drop]
      rw [Nat.add_mul, Nat.one_mul, List.getElem_cons_succ] at this
      rwa [Nat.add_comm]
    rw [← List.take_append_drop τ.size rs, List.all_append, h1.allOne, ih _ h2]; rfl
theorem Elems.slv {τ : Ty} {e' : TypeId} {rs : List Value} {xs : List τ.den} {own more : Bool} {b mk : Nat} (he : Elems h S τ rs xs) (hg : h.get b = some (.row e' rs own more)) (hb : b ∉ S) : SlV h S τ (.slice (some ⟨b, 0, none⟩) xs.length mk) xs :=
  .inr ⟨b, 0, mk, rfl, .inr ⟨hb, e', rs, own, more, hg, by rw [he.1]; omega, fun i hi => by rw [Nat.zero_add]; exact he.2 i hi⟩⟩

theorem vs1 {τ : Ty} {u : Value} {x : τ.den} (h1 : RepV h S τ u x) : ∀ i (hi : i < [u].length) (hx : i < [x].length), RepV h S τ [u][i] [x][i] := by
  intro i hi hx
  match i, hi with
  | 0, _ => exact h1
theorem vsC {τ : Ty} {u : Value} {x : τ.den} {vs : List Value} {xs : List τ.den} (h1 : RepV h S τ u x) (h2 : ∀ i (hi : i < vs.length) (hx : i < xs.length), RepV h S τ vs[i] xs[i]) : ∀ i (hi : i < (u :: vs).length) (hx : i < (x :: xs).length), RepV h S τ (u :: vs)[i] (x :: xs)[i] := by
  intro i hi hx
  match i, hi with
  | 0, _ => exact h1
  | i + 1, hi => exact h2 i (by simpa using hi) (by simpa using hx)
/-- A slice literal. -/
theorem buildEl {T e : TypeId} {τ : Ty} (hT : ElT P T e τ) {vs : List Value} {xs : List τ.den} (hl : vs.length = xs.length) (hv : ∀ i (hi : i < vs.length) (hx : i < xs.length), RepV h S τ vs[i] xs[i]) (h0 : vs ≠ []) (hsz : vs.length ≤ 1000) (hτ : τ.size ≤ 100) (h2 : Heap) :
    fsBuildSlice P T vs.length (numbered 0 vs).toArray h2 = some (.slice (some ⟨h2.next, 0, none⟩) vs.length 0, h2.push (.row e (flat vs) true false)) := by
  obtain ⟨i, z, h1, h2', _, _, h3, h4, h5⟩ := hT.sl.info
  have hpos : 0 < vs.length := List.length_pos_iff.2 h0
  have hc : ∀ v ∈ vs, v.cells.size = τ.size ∧ v.cells.toList.all oneCell = true := by
    intro v hm
    obtain ⟨k, hk, rfl⟩ := List.getElem_of_mem hm
    have := hv k hk (by omega)
    exact ⟨this.cellsSize, this.2.allOne⟩
  unfold fsBuildSlice
  have hb : Nat.beq vs.length 0 = false := beq_no (by omega)
  simp only [hT.sl.sl, h1, hb, cond_false, h3, h2']
  have hall : ∀ (k : Nat) (l : List Value), (∀ v ∈ l, v.cells.size = τ.size ∧ v.cells.toList.all oneCell = true) → ((numbered k l).all fun p => p.2.cells.toList.all oneCell) = true := by
    intro k l
    induction l generalizing k with
    | nil => intro _; rfl
    | cons u l ih =>
      intro hl
      have hu := hl u List.mem_cons_self
      have hr := ih (k + 1) fun w hw => hl w (List.mem_cons_of_mem _ hw)
      simp only [numbered, List.all_cons, hu.2, Bool.true_and]
      exact hr
  have hcc : (Nat.ble (vs.length * τ.size) 16777216 && Nat.blt 0 τ.size && z.cells.toList.all af0 && (numbered 0 vs).all fun p => p.2.cells.toList.all oneCell) = true := by
    have e1 : Nat.ble (vs.length * τ.size) 16777216 = true := by
      rw [Nat.ble_eq]
      have := Nat.mul_le_mul hsz hτ
      omega
    have e2 : Nat.blt 0 τ.size = true := by show Nat.ble 1 τ.size = true; rw [Nat.ble_eq]; exact hT.sl.pos
    rw [e1, e2, h5, hall 0 vs hc]; rfl
  rw [hcc]
  simp only [cond_true]
  have hf := fill_all τ.size vs 0 [] ((Array.range (vs.length * τ.size)).map (z.cells[· % z.cells.size]!)).toList (fun v hv' => (hc v hv').1) (by simp) (by simp)
  simp only [List.nil_append, Array.toArray_toList] at hf
  rw [hf]
theorem Elems.flat {τ : Ty} : ∀ (vs : List Value) (xs : List τ.den), vs.length = xs.length → (∀ i (hi : i < vs.length) (hx : i < xs.length), RepV h S τ vs[i] xs[i]) → Elems h S τ (Fs.flat vs) xs
  | [], [], _, _ => Elems.nil
  | v :: vs, x :: xs, hl, hv => by
    have h1 : Elems h S τ v.cells.toList [x] := Elems.one (hv 0 (by simp) (by simp))
    have h2 := Elems.flat vs xs (by simpa using hl) fun i hi hx => hv (i + 1) (by simpa using hi) (by simpa using hx)
    exact h1.append h2
  | [], x :: xs, hl, _ => by simp at hl
  | v :: vs, [], hl, _ => by simp at hl

/-! ## Slices that grow -/
def ownB (v : Value) : List Nat :=
  match v with
  | .slice (some ⟨b, _, none⟩) _ _ => [b]
  | _ => []
/-- nil, or the whole of a row of the function's own ('m': with room behind it). -/
def GrowR (h : Heap) (S : List Nat) (lo : Nat) (e : TypeId) (m : Bool) (τ : Ty) (v : Value) (xs : List τ.den) : Prop :=
  (v = .slice none 0 0 ∧ xs = []) ∨ ∃ b rs, b ∈ S ∧ lo ≤ b ∧ v = .slice (some ⟨b, 0, none⟩) xs.length 0 ∧ h.get b = some (.row e rs true m) ∧ Elems h S τ rs xs
theorem GrowR.nil {lo : Nat} {e : TypeId} {m : Bool} {τ : Ty} : GrowR h S lo e m τ (.slice none 0 0) [] := .inl ⟨rfl, rfl⟩
/-- Heaps that go on, where the function's own rows stay. -/
theorem GrowR.keep {lo : Nat} {e : TypeId} {m : Bool} {τ : Ty} {v : Value} {xs : List τ.den} (hg : GrowR h S lo e m τ v xs) (ha : After h h') (hok : HOk h) : GrowR h' S lo e m τ v xs := by
  rcases hg with hg | ⟨b, rs, h1, h2, h3, h4, h5⟩
  · exact .inl hg
  · exact .inr ⟨b, rs, h1, h2, h3, by rw [ha.get b (hok b _ h4)]; exact h4, h5.nx (ha.nx hok)⟩
/-- Shut: it is read from now on. -/
theorem GrowR.shut {lo : Nat} {e : TypeId} {m : Bool} {τ : Ty} {v : Value} {xs : List τ.den} (hg : GrowR h (ownB v ++ S0) lo e m τ v xs) (hS : ∀ b ∈ S0, b < lo) : SlV h S0 τ v xs := by
  rcases hg with hg | ⟨b, rs, h1, h2, rfl, h4, h5⟩
  · exact .inl hg
  · have hb : b ∉ S0 := fun hm => by have := hS b hm; omega
    exact Elems.slv (h5.nx (Goes.less fun c hc => List.mem_append_right _ hc)) h4 hb
theorem nx_own {v : Value} : Goes h (ownB v ++ S0) h S0 := Goes.less fun _ hc => List.mem_append_right _ hc
theorem mem_own {b n m : Nat} {o : Nat} : b ∈ ownB (.slice (some ⟨b, o, none⟩) n m) ++ S0 := by simp [ownB]

/-- What is appended lies in known cells. -/
theorem appended_row {i : TypeInfo} {z : Value} {k b o n m s : Nat} {e e2 : TypeId} {rs news : List Value} {own more : Bool} (his : i.size = s) (hk : k * s ≠ 0) (hb : h.get b = some (.row e rs own more)) (hn : k ≤ n) (ho : o + k * s ≤ rs.length) (hnews : (rs.drop o).take (k * s) = news) (hnk : n = k) :
    appended i z (isInt (.slice e2)) (.slice (some ⟨b, o, none⟩) n m) h = some (k, news) := by
  subst hnk
  simp only [appended, isInt, cond_false, lenV, cellsOf, his, hb]
  have e1 : Nat.ble n n = true := by rw [Nat.ble_eq]; exact Nat.le_refl _
  have e2 : Nat.beq (n * s) 0 = false := beq_no hk
  have e3 : Nat.ble (o + n * s) rs.length = true := by rw [Nat.ble_eq]; omega
  simp only [e1, cond_true, e2, cond_false, e3, Option.map_some, hnews]

/-- Known cells behind a slice that grows. -/
theorem GrowR.cells {T T' e : TypeId} {τ : Ty} (hT : ElT P T e τ) (hT' : ElT P T' e τ) {m : Bool} {v w : Value} {k : Nat} {news : List Value} {xs ys : List τ.den} (hg : GrowR h (ownB v ++ S0) h0.next e m τ v xs) (hA : After h0 h) (hok0 : HOk h0) (hS0 : ∀ b ∈ S0, b < h.next)
    (hap : ∀ i z, i.size = τ.size → z.cells.toList.all af0 = true → appended i z (isInt (.slice e)) w h = some (ys.length, news)) (hy : Elems h (ownB v ++ S0) τ news ys) (hk0 : 0 < ys.length) (hsz : xs.length + ys.length ≤ 1000000) (hk : k = 1) :
    ∃ v' h', fsAppend P #[T, T'] v w h = some (v', h') ∧ GrowR h' (ownB v' ++ S0) h0.next e true τ v' (xs ++ ys) ∧ After h0 h' ∧ Goes h (ownB v ++ S0) h' (ownB v' ++ S0) ∧ h.next ≤ h'.next ∧ (h.next ≤ h'.low → ∀ b, b < h.next → h'.get b = h.get b) := by
  have hok := hA.ok hok0
  obtain ⟨i, z, hi1, hi2, hi3, hi3', hi4, hi5, hi6⟩ := hT.sl.info
  have hone : news.all oneCell = true := hy.allOne
  have hnl : news.length = ys.length * τ.size := hy.1
  have hbytes : (xs.length + ys.length) * i.bytes ≤ 274877906944 := by
    have := Nat.mul_le_mul hsz hi3'
    omega
  have hfresh : h.next ∉ S0 := fun hm => by have := hS0 _ hm; omega
  unfold fsAppend
  simp only [List.getElem?_toArray, List.getElem?_cons_zero, List.getElem?_cons_succ, hT.sl.sl, hT'.sl.sl, hi1, hi4, hap i z hi2 hi6, hi2]
  have hc : (Nat.blt 0 τ.size && Nat.blt 0 i.bytes && Nat.beq news.length (ys.length * τ.size) && news.all oneCell && Nat.beq z.cells.size τ.size) = true := by
    have e1 : Nat.blt 0 τ.size = true := by show Nat.ble 1 τ.size = true; rw [Nat.ble_eq]; exact hT.sl.pos
    have e2 : Nat.blt 0 i.bytes = true := by show Nat.ble 1 i.bytes = true; rw [Nat.ble_eq]; exact hi3
    rw [e1, e2, hnl, Nat.beq_refl, hone, hi5, Nat.beq_refl]; rfl
  rw [hc]
  simp only [cond_true]
  have e0 : Nat.beq ys.length 0 = false := beq_no (by omega)
  rcases hg with ⟨rfl, rfl⟩ | ⟨b0, rs, hb0, hlo, rfl, hrow, hel⟩
  · have hN : Goes h (ownB (.slice none 0 0) ++ S0) (h.push (.row e news true true)) (ownB (.slice (some ⟨h.next, 0, none⟩) ys.length 0) ++ S0) := by
      intro b o hgb hb
      have hlt := hok b o hgb
      refine ⟨by rw [Heap.get_push, if_neg (by omega)]; exact hgb, ?_⟩
      simp only [ownB, List.cons_append, List.nil_append, List.mem_cons, not_or]
      exact ⟨by omega, fun hm => hb (by simpa [ownB] using hm)⟩
    refine ⟨.slice (some ⟨h.next, 0, none⟩) ys.length 0, h.push (.row e news true true), ?_, .inr ⟨h.next, news, mem_own, hA.next, by simp, by rw [Heap.get_push, if_pos rfl], ?_⟩, hA.trans (After.push h _), hN, Nat.le_succ _, fun _ b hb => by rw [Heap.get_push, if_neg (by omega)]⟩
    · unfold fsGrow
      have e2 : Nat.ble (ys.length * i.bytes) 274877906944 = true := by rw [Nat.ble_eq]; simpa using hbytes
      simp only [e0, cond_false, e2, cond_true, grown]
    · exact hy.nx hN
  · have hrl := hel.1
    have hks : 0 < ys.length * τ.size := Nat.mul_pos hk0 hT.sl.pos
    have hadd : (xs.length + ys.length) * τ.size = xs.length * τ.size + ys.length * τ.size := Nat.add_mul _ _ _
    have e1 : (Nat.beq ys.length 0 && Nat.beq 0 1) = false := by rw [e0]; rfl
    have e2 : Nat.beq e e = true := Nat.beq_refl _
    have e3 : Nat.ble ((xs.length + ys.length) * i.bytes) 274877906944 = true := by rw [Nat.ble_eq]; exact hbytes
    have e4 : Nat.ble (0 + xs.length * i.size) rs.length = true := by rw [Nat.ble_eq, hi2]; omega
    have e5 : Nat.ble (0 + (xs.length + ys.length) * i.size) rs.length = false := by
      cases hx : Nat.ble (0 + (xs.length + ys.length) * i.size) rs.length with
      | false => rfl
      | true => have := nble hx; rw [hi2] at this; omega
    have e6 : Nat.beq (xs.length * i.size) rs.length = true := by rw [hi2, hrl]; exact Nat.beq_refl _
    have e7 : Nat.beq 0 1 = false := rfl
    have e8 : Nat.beq 0 0 = true := rfl
    have hlt0 := hok b0 _ hrow
    cases m with
    | true =>
      have hN : Goes h (ownB (.slice (some ⟨b0, 0, none⟩) xs.length 0) ++ S0) ((h.drop b0).push (.row e (rs ++ news) true true)) (ownB (.slice (some ⟨h.next, 0, none⟩) (xs.length + ys.length) 0) ++ S0) := by
        intro b o hgb hb
        have hlt := hok b o hgb
        simp only [ownB, List.cons_append, List.nil_append, List.mem_cons, not_or] at hb
        have hnx : (h.drop b0).next = h.next := rfl
        refine ⟨by rw [Heap.get_push, if_neg (by omega), Heap.get_drop, if_neg hb.1]; exact hgb, ?_⟩
        simp only [ownB, List.cons_append, List.nil_append, List.mem_cons, not_or]
        exact ⟨by omega, hb.2⟩
      refine ⟨.slice (some ⟨h.next, 0, none⟩) (xs.length + ys.length) 0, (h.drop b0).push (.row e (rs ++ news) true true), ?_, .inr ⟨h.next, rs ++ news, mem_own, hA.next, by simp, ?_, (hel.append hy).nx hN⟩, (hA.drop hlo).trans (After.push (h.drop b0) _), hN, Nat.le_succ _, fun hl => by
        have h9 : h.next ≤ min h.low b0 := hl
        omega⟩
      · unfold fsGrow
        simp only [hrow, e1, cond_false, e2, e3, e4, Bool.and_self, cond_true, e7, e8, e5, Bool.not_true, e6, grown, Bool.true_and, Bool.and_false]
        rfl
      · have : (h.drop b0).next = h.next := rfl
        rw [Heap.get_push, if_pos this.symm]
    | false =>
      have hN : Goes h (ownB (.slice (some ⟨b0, 0, none⟩) xs.length 0) ++ S0) (h.push (.row e (rs ++ news) true true)) (ownB (.slice (some ⟨h.next, 0, none⟩) (xs.length + ys.length) 0) ++ S0) := by
        intro b o hgb hb
        have hlt := hok b o hgb
        simp only [ownB, List.cons_append, List.nil_append, List.mem_cons, not_or] at hb
        refine ⟨by rw [Heap.get_push, if_neg (by omega)]; exact hgb, ?_⟩
        simp only [ownB, List.cons_append, List.nil_append, List.mem_cons, not_or]
        exact ⟨by omega, hb.2⟩
      refine ⟨.slice (some ⟨h.next, 0, none⟩) (xs.length + ys.length) 0, h.push (.row e (rs ++ news) true true), ?_, .inr ⟨h.next, rs ++ news, mem_own, hA.next, by simp, by rw [Heap.get_push, if_pos rfl], (hel.append hy).nx hN⟩, hA.trans (After.push h _), hN, Nat.le_succ _, fun _ b hb => by rw [Heap.get_push, if_neg (by omega)]⟩
      unfold fsGrow
      have e9 : (rs.drop 0).take (xs.length * i.size) = rs := by rw [List.drop_zero, hi2, ← hrl, List.take_length]
      simp only [hrow, e1, cond_false, e2, e3, e4, Bool.and_self, cond_true, e7, e8, e5, Bool.not_false, grown, Bool.true_and, Bool.and_false, e9]

/-- 'append(s, x)': the literal of one element, and what is appended. -/
theorem GrowR.push {T T' e : TypeId} {τ : Ty} (hT : ElT P T e τ) (hT' : ElT P T' e τ) {m : Bool} {v u : Value} {xs : List τ.den} {x : τ.den} (hg : GrowR h (ownB v ++ S0) h0.next e m τ v xs) (hx : RepV h (ownB v ++ S0) τ u x) (hA : After h0 h) (hok0 : HOk h0) (hS0 : ∀ b ∈ S0, b < h.next)
    (hsz : xs.length < 1000000) (hτ : τ.size ≤ 100) :
    fsBuildSlice P T' 1 #[(0, u)] h = some (.slice (some ⟨h.next, 0, none⟩) 1 0, h.push (.row e u.cells.toList true false)) ∧
    ∃ v' h', fsAppend P #[T, T'] v (.slice (some ⟨h.next, 0, none⟩) 1 0) (h.push (.row e u.cells.toList true false)) = some (v', h') ∧ GrowR h' (ownB v' ++ S0) h0.next e true τ v' (xs ++ [x]) ∧ After h0 h' ∧ Goes h (ownB v ++ S0) h' (ownB v' ++ S0) ∧ h.next ≤ h'.next := by
  have hok := hA.ok hok0
  refine ⟨?_, ?_⟩
  · have := buildEl hT' (vs := [u]) (xs := [x]) rfl (vs1 hx) (by simp) (by simp) hτ h
    simpa [numbered, flat] using this
  · have hA1 := After.push h (.row e u.cells.toList true false)
    have hN1 : Goes h (ownB v ++ S0) (h.push (.row e u.cells.toList true false)) (ownB v ++ S0) := hA1.nx hok
    have hy := (Elems.one hx).nx hN1
    have hus := hx.cellsSize
    have hpos := hT.sl.pos
    obtain ⟨v', h', a1, a2, a3, a4, a5, _⟩ := GrowR.cells (ys := [x]) (w := .slice (some ⟨h.next, 0, none⟩) 1 0) hT hT' (hg.keep hA1 hok) (hA.trans hA1) hok0 (fun b hb => Nat.lt_succ_of_lt (hS0 b hb))
      (fun i z h1 _ => appended_row (k := 1) h1 (by omega) (by rw [Heap.get_push, if_pos rfl]) (Nat.le_refl _) (by simp [hus]) (by rw [List.drop_zero, List.take_of_length_le (by simp [hus])]) rfl) hy (by simp) (by simp; omega) rfl
    exact ⟨v', h', a1, a2, a3, hN1.trans a4, Nat.le_trans (Nat.le_succ _) a5⟩
/-- 'append(s, l...)' of a slice with elements. -/
theorem GrowR.all {T T' e : TypeId} {τ : Ty} (hT : ElT P T e τ) (hT' : ElT P T' e τ) {m : Bool} {v w : Value} {xs ys : List τ.den} (hg : GrowR h (ownB v ++ S0) h0.next e m τ v xs) (hw : SlV h (ownB v ++ S0) τ w ys) (hA : After h0 h) (hok0 : HOk h0) (hS0 : ∀ b ∈ S0, b < h.next)
    (hy0 : 0 < ys.length) (hsz : xs.length + ys.length ≤ 1000000) :
    ∃ v' h', fsAppend P #[T, T'] v w h = some (v', h') ∧ GrowR h' (ownB v' ++ S0) h0.next e true τ v' (xs ++ ys) ∧ After h0 h' ∧ Goes h (ownB v ++ S0) h' (ownB v' ++ S0) ∧ h.next ≤ h'.next ∧ (h.next ≤ h'.low → ∀ b, b < h.next → h'.get b = h.get b) := by
  obtain ⟨b, o, mk, e', rs, own, more, rfl, hb, hr, hl, hel⟩ := hw.row hy0
  have hpos := hT.sl.pos
  have hks : 0 < ys.length * τ.size := Nat.mul_pos hy0 hpos
  refine GrowR.cells (news := (rs.drop o).take (ys.length * τ.size)) hT hT' hg hA hok0 hS0 (fun i z h1 _ => ?_) ⟨by rw [List.length_take, List.length_drop]; omega, fun i hi => ?_⟩ hy0 hsz rfl
  · exact appended_row (e := e') h1 (by omega) hr (Nat.le_refl _) hl rfl rfl
  · have h2 : (i + 1) * τ.size ≤ ys.length * τ.size := Nat.mul_le_mul_right _ hi
    rw [Nat.add_mul] at h2
    have := hel i hi
    rw [List.drop_take, List.take_take, List.drop_drop, Nat.min_eq_left (by omega)]
    exact this
/-- 'append(s, l...)', whatever l is. -/
theorem GrowR.allE {T T' e : TypeId} {τ : Ty} (hT : ElT P T e τ) (hT' : ElT P T' e τ) {m : Bool} {v w : Value} {xs ys : List τ.den} (hg : GrowR h (ownB v ++ S0) h0.next e m τ v xs) (hw : SlV h (ownB v ++ S0) τ w ys) (hA : After h0 h) (hok0 : HOk h0) (hS0 : ∀ b ∈ S0, b < h.next)
    (hsz : xs.length + ys.length ≤ 1000000) :
    ∃ m' v' h', fsAppend P #[T, T'] v w h = some (v', h') ∧ GrowR h' (ownB v' ++ S0) h0.next e m' τ v' (xs ++ ys) ∧ After h0 h' ∧ Goes h (ownB v ++ S0) h' (ownB v' ++ S0) ∧ h.next ≤ h'.next := by
  by_cases hy : 0 < ys.length
  · obtain ⟨v', h', r1, r2, r3, r4, r5, _⟩ := hg.all hT hT' hw hA hok0 hS0 hy hsz
    exact ⟨true, v', h', r1, r2, r3, r4, r5⟩
  · have hy0 : ys = [] := List.eq_nil_of_length_eq_zero (by omega)
    subst hy0
    obtain ⟨i, z, hi1, hi2, hi3, hi3', hi4, hi5, hi6⟩ := hT.sl.info
    have hap : appended i z (isInt (.slice e)) w h = some (0, []) := by
      rcases hw with ⟨rfl, _⟩ | ⟨b, o, mk, rfl, _⟩
      · simp [appended, isInt, lenV, cellsOf]
      · simp only [appended, isInt, cond_false, lenV, cellsOf, List.length_nil]
        have e1 : Nat.ble 0 0 = true := rfl
        simp [e1, cond_true, Nat.zero_mul]
    refine ⟨m, v, h, ?_, by rw [List.append_nil]; exact hg, hA, Goes.refl, Nat.le_refl _⟩
    unfold fsAppend
    simp only [List.getElem?_toArray, List.getElem?_cons_zero, List.getElem?_cons_succ, hT.sl.sl, hT'.sl.sl, hi1, hi4, hap, hi2]
    have hc : (Nat.blt 0 τ.size && Nat.blt 0 i.bytes && Nat.beq ([] : List Value).length (0 * τ.size) && ([] : List Value).all oneCell && Nat.beq z.cells.size τ.size) = true := by
      have e1 : Nat.blt 0 τ.size = true := by show Nat.ble 1 τ.size = true; rw [Nat.ble_eq]; exact hT.sl.pos
      have e2 : Nat.blt 0 i.bytes = true := by show Nat.ble 1 i.bytes = true; rw [Nat.ble_eq]; exact hi3
      rw [e1, e2, hi5, Nat.beq_refl, Nat.zero_mul]; rfl
    rw [hc]
    simp only [cond_true]
    rcases hg with ⟨rfl, rfl⟩ | ⟨b0, rs, hb0, hlo, rfl, hrow, hel⟩
    · rfl
    · have hrl := hel.1
      have hbytes : (xs.length + 0) * i.bytes ≤ 274877906944 := by
        have := Nat.mul_le_mul (show xs.length + 0 ≤ 1000000 from by simpa using hsz) hi3'
        omega
      have e2 : Nat.beq e e = true := Nat.beq_refl _
      have e3 : Nat.ble ((xs.length + 0) * i.bytes) 274877906944 = true := by rw [Nat.ble_eq]; exact hbytes
      have e4 : Nat.ble (0 + xs.length * i.size) rs.length = true := by rw [Nat.ble_eq, hi2]; omega
      have e5 : Nat.ble (0 + (xs.length + 0) * i.size) rs.length = true := by rw [Nat.ble_eq, hi2]; simp only [Nat.add_zero]; omega
      have e7 : Nat.beq 0 1 = false := rfl
      have e8 : Nat.beq 0 0 = true := rfl
      unfold fsGrow
      simp only [hrow, e2, e3, e4, Bool.and_self, cond_true, e7, e8, e5, Bool.true_and, cond_false, Bool.and_false, Bool.and_true]
      simp only [Nat.add_zero] at e3 e4 e5 ⊢
      try simp only [e3, cond_true]
/-- 'T{}'. -/
theorem build0 {T e : TypeId} {τ : Ty} (hT : ElT P T e τ) (hA : After h0 h) (hok0 : HOk h0) :
    fsBuildSlice P T 0 #[] h = some (.slice (some ⟨h.next, 0, none⟩) 0 0, h.push (.row e [] true false)) ∧ GrowR (h.push (.row e [] true false)) (ownB (.slice (some ⟨h.next, 0, none⟩) 0 0) ++ S0) h0.next e false τ (.slice (some ⟨h.next, 0, none⟩) 0 0) [] ∧ After h (h.push (.row e [] true false)) ∧
      Goes h S0 (h.push (.row e [] true false)) (ownB (.slice (some ⟨h.next, 0, none⟩) 0 0) ++ S0) := by
  obtain ⟨i, z, h1, _⟩ := hT.sl.info
  have hok := hA.ok hok0
  refine ⟨?_, .inr ⟨h.next, [], mem_own, hA.next, rfl, by rw [Heap.get_push, if_pos rfl], Elems.nil⟩, After.push h _, fun b o hg hb => ?_⟩
  · unfold fsBuildSlice
    simp only [hT.sl.sl, h1]
    rfl
  · have := hok b o hg
    refine ⟨by rw [Heap.get_push, if_neg (by omega)]; exact hg, ?_⟩
    simp only [ownB, List.cons_append, List.nil_append, List.mem_cons, not_or]
    exact ⟨by omega, hb⟩
theorem GrowR.len {lo : Nat} {T e : TypeId} {m : Bool} {τ : Ty} {v : Value} {xs : List τ.den} (hg : GrowR h S lo e m τ v xs) (hT : ElT P T e τ) (h' : Heap) : fsLen P #[T] v h' = some (.int .i64 (xs.length : Nat)) := by
  rcases hg with ⟨rfl, rfl⟩ | ⟨b, rs, h1, h2, rfl, h4, h5⟩
  · simp [fsLen, hT.sl.sl]
  · simp [fsLen, hT.sl.sl]
end Go.Fs
namespace Go.Fs
variable {P : Program} {orc : FuncId → List Value → Heap → Option (Value × Heap)} {rnd : Option Nat} {h h' h0 h1 h2 : Heap} {ops : Array Oper} {n i mem : Nat} {fl : FL} {K : FL → Heap → Prop} {l : List Oper} {bs : List Nat} {segs : List (Nat × Nat × Nat)} {tail : Bool}
  {d : Tmp} {ty : TypeId} {pos : String} {after : Array Edge} {op : Op} {v : Value} {S S' S0 : List Nat} {ms : List Nat} {Q : Ex → Fr → Heap → Prop}

/-! ## Boxes -/
theorem RepV.box {τ : Ty} {e : TypeId} {u : Value} {x : τ.den} (hok : HOk h) (hS : ∀ b ∈ S, b < h.next) (hx : RepV h S τ u x) : RepP (h.push (.row e u.cells.toList true false)) S τ (.pointer (some ⟨h.next, 0, none⟩)) x := by
  have hN : Goes h S (h.push (.row e u.cells.toList true false)) S := (After.push h _).nx hok
  refine ⟨h.next, 0, e, u.cells.toList, true, false, rfl, fun hm => ?_, by rw [Heap.get_push, if_pos rfl], by rw [Array.length_toList, hx.cellsSize]; omega, ?_⟩
  · have := hS _ hm; omega
  · rw [List.drop_zero, List.take_of_length_le (by rw [Array.length_toList, hx.cellsSize]; exact Nat.le_refl _)]
    exact hx.2.nx hN
theorem XO.boxR {τ : Ty} {e : TypeId} {x : Operand} {u : Value} {y : τ.den} (hu : evL fl x = some u) (hx : RepV h S τ u y) (hok : HOk h) (hS : ∀ b ∈ S, b < h.next) (hn : Nat.blt d n = true) (h4 : Nat.ble n 4000 = true)
    (hk : ∀ p h', RepP h' S τ p y → After h h' → XO P orc ops n l ((d, p) :: fl) h' K) : XO P orc ops n (⟨some d, .box e x, ty, pos, after, none⟩ :: l) fl h K :=
  XO.mk (.box hu hx.2.allOne) hn h4 (hk _ _ (hx.box hok hS) (After.push h _))

/-! ## Literals of slices -/
theorem XO.lit {T e : TypeId} {τ : Ty} {parts : Array (Nat × Operand)} {len : Nat} {vs : List Value} {xs : List τ.den} (hv : ∀ i (hi : i < vs.length) (hx : i < xs.length), RepV h S τ vs[i] xs[i]) (hT : ElT P T e τ) (he : evLs fl parts.toList = some (numbered 0 vs)) (hln : len = vs.length) (hl : vs.length = xs.length)
    (h0 : vs ≠ []) (hsz : vs.length ≤ 1000) (hτ : τ.size ≤ 100) (hok : HOk h) (hS : ∀ b ∈ S, b < h.next) (hn : Nat.blt d n = true) (h4 : Nat.ble n 4000 = true)
    (hk : ∀ w h', SlV h' S τ w xs → After h h' → XO P orc ops n l ((d, w) :: fl) h' K) : XO P orc ops n (⟨some d, .buildSlice T len parts, ty, pos, after, none⟩ :: l) fl h K := by
  subst hln
  refine XO.mk (.buildSlice he (buildEl hT hl hv h0 hsz hτ h)) hn h4 (hk _ _ ?_ (After.push h _))
  have hN : Goes h S (h.push (.row e (flat vs) true false)) S := (After.push h _).nx hok
  have he : Elems (h.push (.row e (flat vs) true false)) S τ (flat vs) xs := (Elems.flat vs xs hl hv).nx hN
  rw [hl]
  exact he.slv (by rw [Heap.get_push, if_pos rfl]) fun hm => by have := hS _ hm; omega
theorem vsI {xs : List Int} : ∀ i (hi : i < (xs.map (Value.int .i64)).length) (hx : i < xs.length), RepV h S (.int .i64) (xs.map (Value.int .i64))[i] xs[i] := by
  intro i hi hx
  simp only [List.getElem_map]
  exact RepV.ofInt _ _

/-! ## 'append(s, x)' -/
theorem XO.pushR {T T' e : TypeId} {τ : Ty} {m : Bool} {x y : Operand} {v u : Value} {d2 : Tmp} {ty2 : TypeId} {pos2 : String} {after2 : Array Edge} {xs : List τ.den} {z : τ.den} (hT : ElT P T e τ) (hT' : ElT P T' e τ) (hu : evL fl x = some u) (hv : evL ((d, .slice (some ⟨h.next, 0, none⟩) 1 0) :: fl) y = some v)
    (hg : GrowR h (ownB v ++ S0) h0.next e m τ v xs) (hx : RepV h (ownB v ++ S0) τ u z) (hA : After h0 h) (hok0 : HOk h0) (hS0 : ∀ b ∈ S0, b < h.next) (hsz : xs.length < 1000000) (hτ : τ.size ≤ 100) (hn : Nat.blt d n = true) (hn2 : Nat.blt d2 n = true) (h4 : Nat.ble n 4000 = true)
    (hk : ∀ v' h', GrowR h' (ownB v' ++ S0) h0.next e true τ v' (xs ++ [z]) → After h0 h' → Goes h (ownB v ++ S0) h' (ownB v' ++ S0) → h.next ≤ h'.next → XO P orc ops n l ((d2, v') :: (d, .slice (some ⟨h.next, 0, none⟩) 1 0) :: fl) h' K) :
    XO P orc ops n (⟨some d, .buildSlice T' 1 #[(0, x)], ty, pos, after, none⟩ :: ⟨some d2, .call { callee := .builtin .append, args := #[y, .tmp d], argTypes := #[T, T'] }, ty2, pos2, after2, none⟩ :: l) fl h K := by
  obtain ⟨e1, v', h', e2, e3, e4, e5, e6⟩ := hg.push hT hT' hx hA hok0 hS0 hsz hτ
  refine XO.mk (.buildSlice (vs := [(0, u)]) (by simp only [evLs, hu]) e1) hn h4 ?_
  refine XO.mk (.append hv (by show lk ((d, _) :: fl) d = _; simp only [lk, Nat.beq_refl, cond_true]) e2) hn2 h4 ?_
  exact hk v' h' e3 e4 e5 e6

/-! ## Loops -/
/-- What is asked behind a round: behind a normal end the invariant, at less. -/
def loopQ (n : Nat) (ms : List Nat) (I : Nat → FL → Heap → Prop) (k : Nat) (Q : Ex → Fr → Heap → Prop) : Ex → Fr → Heap → Prop
  | .normal, fr, h' => fr.n = n ∧ fr.marks = ms ∧ ∃ k' fl', k' < k ∧ TrIs fl' fr.t ∧ I k' fl' h'
  | e, fr, h' => Q e fr h'
theorem XC.loopI {c : Code} {I : Nat → FL → Heap → Prop} (hs : ∀ k fl h, I k fl h → XC P orc rnd c n ms fl h (loopQ n ms I k Q)) : ∀ k fl h, I k fl h → XC P orc rnd (.loop c) n ms fl h Q := by
  intro k
  induction k using Nat.strongRecOn with
  | ind k ih =>
    intro fl h hI
    refine XC.loop ?_
    intro t ht
    refine EvC.mono (hs k fl h hI t ht) ?_
    intro e fr h' hq
    cases e with
    | normal =>
      obtain ⟨h1, h2, k', fl', hlt, ht', hI'⟩ := hq
      obtain ⟨t', n', ms'⟩ := fr
      simp only at h1 h2
      subst h1 h2
      exact ih k' hlt fl' h' hI' t' ht'
    | exit id => exact hq
    | ret => exact hq
section
variable {fr : Fr} {id id' : Nat} {b : Code} {I : Nat → FL → Heap → Prop} {k : Nat}
theorem thenC_exit (hq : Q (.exit id) fr h) : thenC P orc rnd b Q (.exit id) fr h := hq
theorem thenC_ret (hq : Q .ret fr h) : thenC P orc rnd b Q .ret fr h := hq
theorem loopQ_exit (hq : Q (.exit id) fr h) : loopQ n ms I k Q (.exit id) fr h := hq
theorem loopQ_ret (hq : Q .ret fr h) : loopQ n ms I k Q .ret fr h := hq
theorem inBlock_ret (hq : Q .ret fr h) : inBlock id Q .ret fr h := hq
theorem inBlock_nrm (hq : Q .normal fr h) : inBlock id Q .normal fr h := hq
end

/-! ## Results -/
theorem endF.two {fn : Func} {h h1 : Heap} {QF : Value → Heap → Prop} {e : Ex} {t : Tr} {n i j : Nat} {v w : Value} (he : e.goes = true) (hr : fn.results = #[.tmp i, .tmp j]) (hv : t.get i = v) (hw : t.get j = w) (hq : QF (.tuple #[v, w]) (leftOf h h1 (.tuple #[v, w]))) : endF P fn h QF e ⟨t, n, []⟩ h1 :=
  ⟨he, h1, [v, w], rfl, by rw [hr]; show fsResults P t h1 [ResultVar.tmp i, ResultVar.tmp j] = _; simp [fsResults, fsResult, hv, hw], hq⟩
theorem endF.three {fn : Func} {h h1 : Heap} {QF : Value → Heap → Prop} {e : Ex} {t : Tr} {n i j k : Nat} {v w u : Value} (he : e.goes = true) (hr : fn.results = #[.tmp i, .tmp j, .tmp k]) (hv : t.get i = v) (hw : t.get j = w) (hu : t.get k = u)
    (hq : QF (.tuple #[v, w, u]) (leftOf h h1 (.tuple #[v, w, u]))) : endF P fn h QF e ⟨t, n, []⟩ h1 :=
  ⟨he, h1, [v, w, u], rfl, by rw [hr]; show fsResults P t h1 [ResultVar.tmp i, ResultVar.tmp j, ResultVar.tmp k] = _; simp [fsResults, fsResult, hv, hw, hu], hq⟩
theorem endF.cell {fn : Func} {h h1 : Heap} {QF : Value → Heap → Prop} {e : Ex} {t : Tr} {n i : Nat} {T : TypeId} {p v : Value} (he : e.goes = true) (hr : fn.results = #[.cell i T]) (hp : t.get i = p) (hv : fsLoad P T p h1 = some v) (hq : QF v (leftOf h h1 v)) : endF P fn h QF e ⟨t, n, []⟩ h1 :=
  ⟨he, h1, [v], rfl, by rw [hr]; show fsResults P t h1 [ResultVar.cell i T] = _; simp [fsResults, fsResult, hp, hv], hq⟩

/-- The objects behind a call. -/
theorem leftOf_nx {v : Value} (a : After (entry h) h1) (hv : af v = false) : Goes h1 S (leftOf h h1 v) S := Goes.objs fun b => leftOf_get a hv b
theorem RepC.anyHeap : ∀ {τ : Ty} {cs : List Value} {x : τ.den}, cs.all af0 = true → RepC h S τ cs x → RepC h' S' τ cs x := by
  intro τ
  induction τ with
  | int k => exact fun _ hx => hx
  | bool => exact fun _ hx => hx
  | str => exact fun _ hx => hx
  | flt k => exact fun _ hx => hx
  | unit => exact fun _ hx => hx
  | pair a b iha ihb =>
    intro cs x ha hx
    rw [← List.take_append_drop a.size cs, List.all_append] at ha
    obtain ⟨h1, h2⟩ := band ha
    exact ⟨iha h1 hx.1, ihb h2 hx.2⟩
  | sl e ih =>
    rintro cs x ha ⟨v, rfl, h2⟩
    rcases h2 with h2 | ⟨b, o, mk, rfl, _⟩
    · exact ⟨v, rfl, .inl h2⟩
    · cases ha
  | fn => exact fun _ hx => hx
  | mp a b _ _ =>
    rintro cs x ha ⟨v, rfl, h2⟩
    rcases h2 with h2 | ⟨b, es, c, rfl, _⟩
    · exact ⟨v, rfl, .inl h2⟩
    · cases ha
theorem RepV.anyHeap {τ : Ty} {v : Value} {x : τ.den} (hv : RepV h S τ v x) (ha : af1 v = true) : RepV h' S' τ v x := by
  refine ⟨hv.1, hv.2.anyHeap ?_⟩
  cases v with
  | agg cs => exact ha
  | _ => simpa [Value.cells, af1] using ha
/-- Data that are handed back are there. -/
theorem RepV.retT {τ : Ty} {w : Value} {vs : Array Value} {x : τ.den} (a : After (entry h) h1) (hv : RepV h1 S τ w x) (hm : w ∈ vs.toList) : RepV (leftOf h h1 (.tuple vs)) S τ w x := by
  cases hx : af (.tuple vs) with
  | false => exact hv.nx (leftOf_nx a hx)
  | true => exact hv.anyHeap (List.all_eq_true.1 hx _ hm)
theorem RepV.ret {τ : Ty} {w : Value} {x : τ.den} (a : After (entry h) h1) (hv : RepV h1 S τ w x) : RepV (leftOf h h1 w) S τ w x := by
  cases hx : af w with
  | false => exact hv.nx (leftOf_nx a hx)
  | true =>
    refine hv.anyHeap ?_
    cases w with
    | tuple vs =>
      obtain ⟨h2, h3⟩ := hv
      exfalso
      cases τ with
      | sl e => obtain ⟨u, h4, h5⟩ := h3; simp [Value.cells] at h4; subst h4; rcases h5 with ⟨h5, _⟩ | ⟨b, o, mk, h5, _⟩ <;> cases h5
      | pair a b => cases h2
      | unit => cases h2
      | mp a b => obtain ⟨u, h4, h5⟩ := h3; simp [Value.cells] at h4; subst h4; rcases h5 with ⟨h5, _⟩ | ⟨b, es, c, h5, _⟩ <;> cases h5
      | fn => cases x <;> simp [RepC, Value.cells, fnV] at h3
      | _ => simp [RepC, Value.cells] at h3
    | _ => exact hx
theorem SlV.ret {τ : Ty} {w : Value} {xs : List τ.den} (a : After (entry h) h1) (hv : SlV h1 S τ w xs) : SlV (leftOf h h1 w) S τ w xs := (hv.rep.ret a).sl
theorem SlV.retT {τ : Ty} {w : Value} {vs : Array Value} {xs : List τ.den} (a : After (entry h) h1) (hv : SlV h1 S τ w xs) (hm : w ∈ vs.toList) : SlV (leftOf h h1 (.tuple vs)) S τ w xs := (hv.rep.retT a hm).sl
end Go.Fs
namespace Go.Fs
variable {P : Program} {orc : FuncId → List Value → Heap → Option (Value × Heap)} {rnd : Option Nat} {h h' h0 h1 h2 hs : Heap} {ops : Array Oper} {n i mem b : Nat} {fl : FL} {K : FL → Heap → Prop} {l : List Oper} {bs : List Nat} {segs : List (Nat × Nat × Nat)} {tail : Bool}
  {d : Tmp} {ty : TypeId} {pos : String} {after : Array Edge} {op : Op} {v : Value} {S S' S0 : List Nat}

/-- What was made in the region lies behind its beginning. -/
def SegsOk (hs : Heap) (segs : List (Nat × Nat × Nat)) : Prop := ∀ s ∈ segs, hs.next ≤ s.2.1
theorem SegsOk.nil : SegsOk hs [] := fun _ h => by cases h
theorem SegsOk.cons {lo hi : Nat} (h1 : hs.next ≤ lo) (h2 : SegsOk hs segs) : SegsOk hs ((i, lo, hi) :: segs) := fun s hm => by
  rcases List.mem_cons.1 hm with rfl | hm
  · exact h1
  · exact h2 s hm
theorem look_filter_all {p : Nat × AObj → Bool} {b : Nat} (hp : ∀ o, p (b, o) = true) : ∀ l : List (Nat × AObj), look (l.filter p) b = look l b
  | [] => rfl
  | (k, o) :: r => by
    rw [List.filter_cons]
    by_cases hk : k = b
    · subst hk
      rw [if_pos (hp o)]
      simp [look]
    · split
      · simp only [look, beq_no hk, cond_false, look_filter_all hp r]
      · simp only [look, beq_no hk, cond_false, look_filter_all hp r]
theorem mask_old {m lo b : Nat} (hb : b < lo) : ∀ (segs : List (Nat × Nat × Nat)) (objs : List (Nat × AObj)), (∀ s ∈ segs, lo ≤ s.2.1) → look (mask m segs objs) b = look objs b
  | [], _, _ => rfl
  | (k, l, hi) :: segs, objs, hs => by
    simp only [mask]
    rw [mask_old hb segs _ fun s hm => hs s (List.mem_cons_of_mem _ hm)]
    split
    · rfl
    · refine look_filter_all (fun o => ?_) objs
      have := hs _ List.mem_cons_self
      unfold outside
      simp only [Bool.not_eq_true', Bool.and_eq_false_iff, decide_eq_false_iff_not]
      left; simp only at this; omega
theorem mask_sees {m b : Nat} {o : AObj} : ∀ (segs : List (Nat × Nat × Nat)) (objs : List (Nat × AObj)), look (mask m segs objs) b = some o → look objs b = some o
  | [], _, h => h
  | (k, l, hi) :: segs, objs, h => by
    simp only [mask] at h
    have := mask_sees segs _ h
    split at this
    · exact this
    · exact (look_filter (outside l hi) (fun b => !(decide (l ≤ b) && decide (b < hi))) (fun _ _ => rfl) objs b o this).1
/-- What an operation sees that is not ordered behind all. -/
def msk (m : Nat) (segs : List (Nat × Nat × Nat)) (h : Heap) : Heap := { next := h.next, low := h.next, objs := mask m segs h.objs }
theorem msk_after {m : Nat} (hA : After hs h) (hsg : SegsOk hs segs) : After hs (msk m segs h) where
  next := hA.next
  get := fun b hb => (mask_old hb segs h.objs hsg).trans (hA.get b hb)
  ok := fun hok b o hg => hA.ok hok b o (mask_sees segs h.objs hg)
  low := fun e h1 h2 => Nat.le_trans h2 hA.next
theorem fsLoad_after {T : TypeId} {u v : Value} (hA : After hs h) (hok : HOk hs) (hv : fsLoad P T u hs = some v) : fsLoad P T u h = some v := by
  unfold fsLoad at hv ⊢
  split at hv
  · rename_i b o
    cases hg : hs.get b with
    | none => rw [hg] at hv; cases hv
    | some ob =>
      rw [hA.get b (hok b ob hg), hg]
      rw [hg] at hv
      exact hv
  · cases hv
theorem fsLoad_msk {T : TypeId} {u v : Value} {m : Nat} (hA : After hs h) (hsg : SegsOk hs segs) (hok : HOk hs) (hv : fsLoad P T u hs = some v) : fsLoad P T u (msk m segs h) = some v := fsLoad_after (msk_after hA hsg) hok hv

theorem ble_refl' (a : Nat) : Nat.ble a a = true := by rw [Nat.ble_eq]; exact Nat.le_refl _
theorem blt_refl' (a : Nat) : Nat.blt a a = false := by
  cases hx : Nat.blt a a with
  | false => rfl
  | true => have := nblt hx; omega
theorem blt_of_le {a b : Nat} (hl : b ≤ a) : Nat.blt a b = false := by
  cases hx : Nat.blt a b with
  | false => rfl
  | true => have := nblt hx; omega

/-- A load of something that lay there when the region began. -/
theorem XD.ld {b : Nat} {T : TypeId} {x : Operand} {u : Value} (hA : After hs h) (hsg : SegsOk hs segs) (hok : HOk hs) (hx : evL fl x = some u) (hv : fsLoad P T u hs = some v) (hb : beforeOf bs ⟨some d, .load T x, ty, pos, after, none⟩ = b) (htl : (tail && !Nat.beq (mem &&& b) mem) = false)
    (hn : Nat.blt d n = true) (h4 : Nat.ble n 4000 = true) (hk : XD P orc ops n l (i + 1) ((d, v) :: fl) h (bs ++ [b]) ((i, h.next, h.next) :: segs) (mem ||| 2 ^ i) tail K) :
    XD P orc ops n (⟨some d, .load T x, ty, pos, after, none⟩ :: l) i fl h bs segs mem tail K := fun t ht => by
  obtain ⟨t', h1, h2⟩ := put_ok (v := v) hn h4 t ht
  refine EvD.op (s' := ⟨t', h, bs ++ [b], (i, h.next, h.next) :: segs, mem ||| 2 ^ i, tail⟩) ?_ (hk t' h2)
  have hv' : fsLoad P T (evalO t x) { next := h.next, low := h.next, objs := bif Nat.beq (mem &&& b) mem then h.objs else mask b segs h.objs } = some v := by
    rw [evL_ok ht hx]
    cases Nat.beq (mem &&& b) mem with
    | true => exact fsLoad_after (h := entry h) ⟨hA.next, hA.get, hA.ok, fun e h1 h2 => Nat.le_trans h2 hA.next⟩ hok hv
    | false => exact fsLoad_msk hA hsg hok hv
  unfold fsDraw
  have hs : stepO P ⟨some d, .load T x, ty, pos, after, none⟩ (evalO t) { next := h.next, low := h.next, objs := bif Nat.beq (mem &&& b) mem then h.objs else mask b segs h.objs } = some (v, { next := h.next, low := h.next, objs := bif Nat.beq (mem &&& b) mem then h.objs else mask b segs h.objs }) := by
    show (fsLoad P T (evalO t x) _).map _ = _
    rw [hv']; rfl
  simp only [fsWanted, show calm (Op.load T x) = false from rfl, Bool.false_eq_true, if_false, hb, htl, cond_false, hs, blt_refl', h1, ble_refl', cond_true, newer_same, List.nil_append]
/-- A load, ordered behind all that was made. -/
theorem XD.ldO {b : Nat} {T : TypeId} {x : Operand} {u : Value} (hx : evL fl x = some u) (hv : fsLoad P T u h = some v) (hb : beforeOf bs ⟨some d, .load T x, ty, pos, after, none⟩ = b) (ho : Nat.beq (mem &&& b) mem = true)
    (hn : Nat.blt d n = true) (h4 : Nat.ble n 4000 = true) (hk : XD P orc ops n l (i + 1) ((d, v) :: fl) h (bs ++ [b]) ((i, h.next, h.next) :: segs) (mem ||| 2 ^ i) tail K) :
    XD P orc ops n (⟨some d, .load T x, ty, pos, after, none⟩ :: l) i fl h bs segs mem tail K :=
  XD.r (.load hx hv) hb (by rw [ho]; simp) (by rw [ho]; rfl) hn h4 hk
theorem XD.len {b : Nat} {a : Array TypeId} {x : Operand} {u : Value} (hx : evL fl x = some u) (hv : ∀ h, fsLen P a u h = some v) (hb : beforeOf bs ⟨some d, .call { callee := .builtin .len, args := #[x], argTypes := a }, ty, pos, after, none⟩ = b) (htl : (tail && !Nat.beq (mem &&& b) mem) = false)
    (hn : Nat.blt d n = true) (h4 : Nat.ble n 4000 = true) (hk : XD P orc ops n l (i + 1) ((d, v) :: fl) h (bs ++ [b]) ((i, h.next, h.next) :: segs) (mem ||| 2 ^ i) tail K) :
    XD P orc ops n (⟨some d, .call { callee := .builtin .len, args := #[x], argTypes := a }, ty, pos, after, none⟩ :: l) i fl h bs segs mem tail K := fun t ht => by
  obtain ⟨t', h1, h2⟩ := put_ok (v := v) hn h4 t ht
  refine EvD.op (s' := ⟨t', h, bs ++ [b], (i, h.next, h.next) :: segs, mem ||| 2 ^ i, tail⟩) ?_ (hk t' h2)
  unfold fsDraw
  have hs : ∀ H, stepO P ⟨some d, .call { callee := .builtin .len, args := #[x], argTypes := a }, ty, pos, after, none⟩ (evalO t) H = some (v, H) := fun H => by
    show (fsLen P a (evalO t x) H).map _ = _
    rw [evL_ok ht hx, hv]; rfl
  simp only [fsWanted, show calm (Op.call { callee := .builtin .len, args := #[x], argTypes := a }) = false from rfl, Bool.false_eq_true, if_false, hb, htl, cond_false, hs, blt_refl', h1, ble_refl', cond_true, newer_same, List.nil_append]

/-- What a call has made, beside what lay there. -/
theorem newer_left {M : Heap} (hok : HOk h) (hM : ∀ b o, M.get b = some o → h.get b = some o) (hMn : M.next = h.next) (hA : After M h') (hMok : HOk M) :
    After h { next := h'.next, low := h.low, objs := newer h.next h'.next h'.objs ++ h.objs } ∧ ∀ S, Goes h' S { next := h'.next, low := h.low, objs := newer h.next h'.next h'.objs ++ h.objs } S := by
  have hold : ∀ b, b < h.next → look (newer h.next h'.next h'.objs ++ h.objs) b = look h.objs b := fun b hb => by
    rw [look_append]
    cases hl : look (newer h.next h'.next h'.objs) b with
    | none => rfl
    | some o => have := (newer_some _ _ _ hl).1; omega
  have hnew : ∀ b o, h.next ≤ b → look h'.objs b = some o → look (newer h.next h'.next h'.objs ++ h.objs) b = some o := fun b o hb hl => by
    rw [look_append]
    have hlt : b < h'.next := hA.ok hMok b o hl
    rw [newer_in _ _ hb hlt, hl]; rfl
  have hnx : h.next ≤ h'.next := by have := hA.next; omega
  refine ⟨⟨hnx, hold, fun _ b o hg => ?_, fun e h1 _ => h1⟩, fun S b o hg hS => ⟨?_, hS⟩⟩
  · by_cases hb : b < h.next
    · exact Nat.lt_of_lt_of_le hb hnx
    · have hg' : look (newer h.next h'.next h'.objs ++ h.objs) b = some o := hg
      rw [look_append] at hg'
      cases hl : look (newer h.next h'.next h'.objs) b with
      | some o' => exact (newer_some _ _ _ hl).1.2
      | none => rw [hl] at hg'; exact absurd (hok b o hg') hb
  · by_cases hb : b < h.next
    · have h3 : M.get b = some o := by rw [← hA.get b (by omega)]; exact hg
      exact (hold b hb).trans (hM b o h3)
    · exact hnew b o (by omega) hg
/-- A call in a drawn region. -/
theorem XD.callU {f : Operand} {args : Array Operand} {ats : Array TypeId} {g : FuncId} {a c : Array Value} {vs : List Value} {bb : Nat} (hA : After hs h) (hsg : SegsOk hs segs) (hokS : HOk hs) (hf : evL fl f = some (.func (.func g) a c)) (ha : evA fl args.toList = some vs)
    (hb : beforeOf bs ⟨some d, .call { callee := .value f, args := args, argTypes := ats }, ty, pos, after, none⟩ = bb) (htl : (tail && !Nat.beq (mem &&& bb) mem) = false) (hn : Nat.blt d n = true) (h4 : Nat.ble n 4000 = true)
    (hc : ∀ M, After hs M → HOk M → M.next = h.next → (∀ b o, M.get b = some o → h.get b = some o) → (Nat.beq (mem &&& bb) mem = true → M = entry h) → EvF P orc g (a.toList ++ vs ++ c.toList) M fun v h' => After M h' ∧ ∀ h2, After h h2 → (∀ S, Goes h' S h2 S) → XD P orc ops n l (i + 1) ((d, v) :: fl) h2 (bs ++ [bb]) ((i, h.next, h2.next) :: segs) (mem ||| 2 ^ i) tail K) :
    XD P orc ops n (⟨some d, .call { callee := .value f, args := args, argTypes := ats }, ty, pos, after, none⟩ :: l) i fl h bs segs mem tail K := fun t ht => by
  refine EvD.call (o := ⟨some d, .call { callee := .value f, args := args, argTypes := ats }, ty, pos, after, none⟩) rfl rfl rfl (evL_ok ht hf) (by simp only [hb]; exact htl) ?_
  have hok := hA.ok hokS
  have hM : ∃ M, seenBy ⟨some d, .call { callee := .value f, args := args, argTypes := ats }, ty, pos, after, none⟩ ⟨t, h, bs, segs, mem, tail⟩ = M ∧ After hs M ∧ M.next = h.next ∧ M.low = h.next ∧ (∀ b o, M.get b = some o → h.get b = some o) ∧ (Nat.beq (mem &&& bb) mem = true → M = entry h) := by
    refine ⟨_, rfl, ?_, rfl, rfl, ?_, ?_⟩
    · unfold seenBy
      simp only [hb]
      cases Nat.beq (mem &&& bb) mem with
      | true => exact ⟨hA.next, hA.get, hA.ok, fun e h1 h2 => Nat.le_trans h2 hA.next⟩
      | false => exact msk_after hA hsg
    · unfold seenBy
      simp only [hb]
      cases Nat.beq (mem &&& bb) mem with
      | true => exact fun b o hg => hg
      | false => exact fun b o hg => mask_sees segs h.objs hg
    · intro ho
      unfold seenBy entry
      simp only [hb, ho, cond_true]
  obtain ⟨M, hM1, hM2, hM3, hM4, hM5, hM6⟩ := hM
  rw [hM1, evA_ok ht _ _ ha]
  have hMok := hM2.ok hokS
  refine (hc M hM2 hMok hM3 hM5 hM6).mono fun v h' hx => ?_
  obtain ⟨hA', hx⟩ := hx
  obtain ⟨t', h1, h2⟩ := put_ok (v := v) hn h4 t ht
  have hl : h.next ≤ h'.low := hA'.low h.next (by omega) (by omega)
  have hlow : Nat.ble h.next h'.low = true := by rw [Nat.ble_eq]; exact hl
  have hnx : h.next ≤ h'.next := by have := hA'.next; omega
  refine ⟨blt_of_le hnx, by simp only [hlow, Bool.true_or], t', h1, ?_⟩
  have hd : drewOn ⟨some d, .call { callee := .value f, args := args, argTypes := ats }, ty, pos, after, none⟩ i ⟨t, h, bs, segs, mem, tail⟩ t' h' =
      ⟨t', { next := h'.next, low := h.low, objs := newer h.next h'.next h'.objs ++ h.objs }, bs ++ [bb], (i, h.next, h'.next) :: segs, mem ||| 2 ^ i, tail⟩ := by
    unfold drewOn
    simp only [hlow, cond_true, hb]
  rw [hd]
  obtain ⟨e1, e2⟩ := newer_left hok hM5 hM3 hA' hMok
  exact hx _ e1 e2 t' h2
/-- A call that leaves nothing but a value without an address. -/
theorem XD.callV {f : Operand} {args : Array Operand} {ats : Array TypeId} {g : FuncId} {a c : Array Value} {vs : List Value} {bb : Nat} (hA : After hs h) (hsg : SegsOk hs segs) (hf : evL fl f = some (.func (.func g) a c)) (ha : evA fl args.toList = some vs)
    (hb : beforeOf bs ⟨some d, .call { callee := .value f, args := args, argTypes := ats }, ty, pos, after, none⟩ = bb) (htl : (tail && !Nat.beq (mem &&& bb) mem) = false) (hn : Nat.blt d n = true) (h4 : Nat.ble n 4000 = true)
    (hc : ∀ M, After hs M → (Nat.beq (mem &&& bb) mem = true → M = entry h) → EvF P orc g (a.toList ++ vs ++ c.toList) M fun v h' => h' = M ∧ XD P orc ops n l (i + 1) ((d, v) :: fl) h (bs ++ [bb]) ((i, h.next, h.next) :: segs) (mem ||| 2 ^ i) tail K) :
    XD P orc ops n (⟨some d, .call { callee := .value f, args := args, argTypes := ats }, ty, pos, after, none⟩ :: l) i fl h bs segs mem tail K := fun t ht => by
  refine EvD.call (o := ⟨some d, .call { callee := .value f, args := args, argTypes := ats }, ty, pos, after, none⟩) rfl rfl rfl (evL_ok ht hf) (by simp only [hb]; exact htl) ?_
  have hM : ∃ M, seenBy ⟨some d, .call { callee := .value f, args := args, argTypes := ats }, ty, pos, after, none⟩ ⟨t, h, bs, segs, mem, tail⟩ = M ∧ After hs M ∧ (Nat.beq (mem &&& bb) mem = true → M = entry h) ∧ M.next = h.next ∧ M.low = h.next := by
    refine ⟨_, rfl, ?_, ?_, rfl, rfl⟩
    · unfold seenBy
      simp only [hb]
      cases Nat.beq (mem &&& bb) mem with
      | true => exact ⟨hA.next, hA.get, hA.ok, fun e h1 h2 => Nat.le_trans h2 hA.next⟩
      | false => exact msk_after hA hsg
    · intro ho
      unfold seenBy entry
      simp only [hb, ho, cond_true]
  obtain ⟨M, hM1, hM2, hM3, hM4, hM5⟩ := hM
  rw [hM1, evA_ok ht _ _ ha]
  refine (hc M hM2 hM3).mono fun v h' hx => ?_
  obtain ⟨rfl, hx⟩ := hx
  obtain ⟨t', h1, h2⟩ := put_ok (v := v) hn h4 t ht
  have hlow : Nat.ble h.next h'.low = true := by rw [Nat.ble_eq]; omega
  refine ⟨by rw [hM4]; exact blt_refl' _, by simp only [hlow, Bool.true_or], t', h1, ?_⟩
  have hd : drewOn ⟨some d, .call { callee := .value f, args := args, argTypes := ats }, ty, pos, after, none⟩ i ⟨t, h, bs, segs, mem, tail⟩ t' h' = ⟨t', h, bs ++ [bb], (i, h.next, h.next) :: segs, mem ||| 2 ^ i, tail⟩ := by
    unfold drewOn
    simp only [hlow, cond_true, hM4, newer_same, List.nil_append, hb]
  rw [hd]
  exact hx t' h2

/-- A literal of a slice. -/
theorem XD.lit {b : Nat} {T e : TypeId} {τ : Ty} {parts : Array (Nat × Operand)} {len : Nat} {vs : List Value} {xs : List τ.den} (hv : ∀ i (hi : i < vs.length) (hx : i < xs.length), RepV h S τ vs[i] xs[i]) (hT : ElT P T e τ) (he : evLs fl parts.toList = some (numbered 0 vs)) (hln : len = vs.length) (hl : vs.length = xs.length)
    (h0 : vs ≠ []) (hsz : vs.length ≤ 1000) (hτ : τ.size ≤ 100) (hok : HOk h) (hS : ∀ b ∈ S, b < h.next)
    (hb : beforeOf bs ⟨some d, .buildSlice T len parts, ty, pos, after, none⟩ = b) (htl : (tail && !Nat.beq (mem &&& b) mem) = false) (hn : Nat.blt d n = true) (h4 : Nat.ble n 4000 = true)
    (hk : ∀ w h', SlV h' S τ w xs → After h h' → XD P orc ops n l (i + 1) ((d, w) :: fl) h' (bs ++ [b]) ((i, h.next, h'.next) :: segs) (mem ||| 2 ^ i) tail K) :
    XD P orc ops n (⟨some d, .buildSlice T len parts, ty, pos, after, none⟩ :: l) i fl h bs segs mem tail K := fun t ht => by
  subst hln
  have hN : Goes h S (h.push (.row e (flat vs) true false)) S := (After.push h _).nx hok
  have hel : Elems (h.push (.row e (flat vs) true false)) S τ (flat vs) xs := (Elems.flat vs xs hl hv).nx hN
  have hw : SlV (h.push (.row e (flat vs) true false)) S τ (.slice (some ⟨h.next, 0, none⟩) vs.length 0) xs := by
    rw [hl]; exact hel.slv (by rw [Heap.get_push, if_pos rfl]) fun hm => by have := hS _ hm; omega
  obtain ⟨t', h1, h2⟩ := put_ok (v := .slice (some ⟨h.next, 0, none⟩) vs.length 0) hn h4 t ht
  refine EvD.op (s' := ⟨t', h.push (.row e (flat vs) true false), bs ++ [b], (i, h.next, h.next + 1) :: segs, mem ||| 2 ^ i, tail⟩) ?_ (hk _ _ hw (After.push h _) t' h2)
  unfold fsDraw
  have hp : parts.map (fun p => (p.1, evalO t p.2)) = (numbered 0 vs).toArray := by
    apply Array.toList_inj.1
    rw [Array.toList_map, evLs_ok ht _ _ he]
  have hs : ∀ H, stepO P ⟨some d, .buildSlice T vs.length parts, ty, pos, after, none⟩ (evalO t) H = some (.slice (some ⟨H.next, 0, none⟩) vs.length 0, H.push (.row e (flat vs) true false)) := fun H => by
    show fsBuildSlice P T vs.length (parts.map fun p => (p.1, evalO t p.2)) H = _
    rw [hp]
    exact buildEl hT hl hv h0 hsz hτ H
  simp only [fsWanted, show calm (Op.buildSlice T vs.length parts) = false from rfl, Bool.false_eq_true, if_false, hb, htl, cond_false, hs]
  have hlt : Nat.blt (h.next + 1) h.next = false := blt_of_le (Nat.le_succ _)
  simp only [Heap.push, hlt, cond_false, h1, ble_refl', cond_true]
  have hnew : newer h.next (h.next + 1) ((h.next, AObj.row e (flat vs) true false) :: (bif Nat.beq (mem &&& b) mem then h.objs else mask b segs h.objs)) = [(h.next, AObj.row e (flat vs) true false)] := by
    unfold newer
    rw [beq_no (show h.next ≠ h.next + 1 by omega)]
    simp only [cond_false]
    rw [List.filter_cons]
    have e1 : inside h.next (h.next + 1) (h.next, AObj.row e (flat vs) true false) = true := by
      unfold inside
      have : Nat.blt h.next (h.next + 1) = true := by show Nat.ble (h.next + 1) (h.next + 1) = true; exact ble_refl' _
      simp only [ble_refl', this, Bool.and_self]
    rw [if_pos e1]
    congr 1
    refine List.filter_eq_nil_iff.2 fun p hp hin => ?_
    obtain ⟨k, o⟩ := p
    have hk1 : h.next ≤ k := by
      unfold inside at hin
      exact nble (band hin).1
    have hex : ∃ o', look (bif Nat.beq (mem &&& b) mem then h.objs else mask b segs h.objs) k = some o' := by
      clear hin
      generalize (bif Nat.beq (mem &&& b) mem then h.objs else mask b segs h.objs) = L at hp
      induction L with
      | nil => cases hp
      | cons q r ih =>
        obtain ⟨k', o'⟩ := q
        by_cases hkk : k' = k
        · exact ⟨o', by simp [look, hkk]⟩
        · rcases List.mem_cons.1 hp with hp | hp
          · simp only [Prod.mk.injEq] at hp; exact absurd hp.1.symm hkk
          · obtain ⟨o2, h2⟩ := ih hp
            exact ⟨o2, by simp only [look, beq_no hkk, cond_false, h2]⟩
    obtain ⟨o', ho'⟩ := hex
    have hlk : look h.objs k = some o' := by
      cases hx : Nat.beq (mem &&& b) mem with
      | true => rw [hx] at ho'; exact ho'
      | false => rw [hx] at ho'; exact mask_sees segs h.objs ho'
    have := hok k o' hlk
    omega
  rw [hnew]
  rfl

/-- A step that may turn something of the function's own: ordered behind all. -/
theorem XD.turn {b : Nat} (hs : StepN P fl (entry h) op v h') (hok : HOk h) (hb : beforeOf bs ⟨some d, op, ty, pos, after, none⟩ = b) (ho : Nat.beq (mem &&& b) mem = true) (hnx : h.next ≤ h'.next) (hok' : HOk h') (hkeep : ∀ b, b < h.next → h.next ≤ h'.low → h'.get b = h.get b) (hn : Nat.blt d n = true) (h4 : Nat.ble n 4000 = true)
    (hk : ∀ h2 t2, (∀ b, h2.get b = h'.get b) → h2.next = h'.next → (∀ h0, After h0 h → After h0 h' → After h0 h2) → XD P orc ops n l (i + 1) ((d, v) :: fl) h2 (bs ++ [b]) ((i, h.next, h2.next) :: segs) (mem ||| 2 ^ i) t2 K) :
    XD P orc ops n (⟨some d, op, ty, pos, after, none⟩ :: l) i fl h bs segs mem tail K := fun t ht => by
  obtain ⟨t', h1, h2⟩ := put_ok (v := v) hn h4 t ht
  have hst := hs.2 t ht (some d) ty pos after none
  have htl : (tail && !true) = false := by simp
  unfold entry at hst
  cases hlow : Nat.ble h.next h'.low with
  | true =>
    have hl := nble hlow
    have hg : ∀ b, Heap.get { next := h'.next, low := h.low, objs := newer h.next h'.next h'.objs ++ h.objs } b = h'.get b := fun b => by
      show look (newer h.next h'.next h'.objs ++ h.objs) b = look h'.objs b
      rw [look_append]
      by_cases hb : b < h.next
      · have h5 : look (newer h.next h'.next h'.objs) b = none := by
          cases hl : look (newer h.next h'.next h'.objs) b with
          | none => rfl
          | some o => have := (newer_some _ _ _ hl).1; omega
        rw [h5]
        exact (hkeep b hb hl).symm
      · have h6 : look h.objs b = none := by
          cases hl : look h.objs b with
          | none => rfl
          | some o => have := hok b o hl; omega
        rw [h6, Option.or_none]
        cases hl : look h'.objs b with
        | some o => rw [newer_in _ _ (by omega) (hok' b o hl), hl]
        | none =>
          cases hl2 : look (newer h.next h'.next h'.objs) b with
          | none => rfl
          | some o => rw [(newer_some _ _ _ hl2).2] at hl; cases hl
    refine EvD.op (s' := ⟨t', { next := h'.next, low := h.low, objs := newer h.next h'.next h'.objs ++ h.objs }, bs ++ [b], (i, h.next, h'.next) :: segs, mem ||| 2 ^ i, tail⟩) ?_
      (hk _ tail hg rfl (fun h0 a1 a2 => ⟨a2.next, fun b hb => (hg b).trans (a2.get b hb), fun hok0 b o hgb => a2.ok hok0 b o (by rw [← hg b]; exact hgb), a1.low⟩) t' h2)
    unfold fsDraw
    simp only [fsWanted, hs.1, Bool.false_eq_true, if_false, hb, ho, htl, cond_false, cond_true, hst, blt_of_le hnx, h1, hlow]
  | false =>
    refine EvD.op (s' := ⟨t', { next := h'.next, low := min h.low h'.low, objs := h'.objs }, bs ++ [b], (i, h.next, h'.next) :: segs, mem ||| 2 ^ i, true⟩) ?_
      (hk { next := h'.next, low := min h.low h'.low, objs := h'.objs } true (fun _ => rfl) rfl (fun h0 a1 a2 => ⟨a2.next, a2.get, a2.ok, fun e h3 h4 => Nat.le_min.2 ⟨a1.low e h3 h4, a2.low e h3 h4⟩⟩) t' h2)
    unfold fsDraw
    simp only [fsWanted, hs.1, Bool.false_eq_true, if_false, hb, ho, htl, cond_false, cond_true, hst, blt_of_le hnx, h1, hlow]
end Go.Fs
namespace Go.Fs
variable {P : Program} {orc : FuncId → List Value → Heap → Option (Value × Heap)} {rnd : Option Nat} {h h' h0 h1 h2 hs : Heap} {ops : Array Oper} {n i mem b : Nat} {fl : FL} {K : FL → Heap → Prop} {l : List Oper} {bs : List Nat} {segs : List (Nat × Nat × Nat)} {tail : Bool}
  {d : Tmp} {ty : TypeId} {pos : String} {after : Array Edge} {op : Op} {v : Value} {S S' S0 : List Nat} {ms : List Nat} {Q : Ex → Fr → Heap → Prop} {c : Code}

def big64 : Int := 9223372036854775807
theorem wrap64 {n : Int} (h0 : -9223372036854775808 ≤ n) (h1 : n ≤ 9223372036854775807) : IntKind.i64.wrap n = n := by
  unfold IntKind.wrap
  simp only [IntKind.bits, IntKind.signed, Bool.true_and]
  have e : (2 ^ 64 : Int) = 18446744073709551616 := by decide
  have e' : (2 ^ (64 - 1) : Int) = 9223372036854775808 := by decide
  simp only [e, e', decide_eq_true_eq, ge_iff_le]
  split <;> omega
variable {T T' : TypeId} {x y : Operand} {p q : Int}
theorem StepC.add (hx : evL fl x = some (.int .i64 p)) (hy : evL fl y = some (.int .i64 q)) (h0 : -9223372036854775808 ≤ p + q ∧ p + q ≤ 9223372036854775807) : StepC P fl (.binOp .add T x y T') (.int .i64 (p + q)) := by
  have := StepC.bin (P := P) (op := .add) (T := T) (T' := T') (v := .int .i64 (IntKind.i64.wrap (p + q))) hx hy rfl rfl
  rwa [wrap64 h0.1 h0.2] at this
theorem StepC.sub (hx : evL fl x = some (.int .i64 p)) (hy : evL fl y = some (.int .i64 q)) (h0 : -9223372036854775808 ≤ p - q ∧ p - q ≤ 9223372036854775807) : StepC P fl (.binOp .sub T x y T') (.int .i64 (p - q)) := by
  have := StepC.bin (P := P) (op := .sub) (T := T) (T' := T') (v := .int .i64 (IntKind.i64.wrap (p - q))) hx hy rfl rfl
  rwa [wrap64 h0.1 h0.2] at this
theorem StepC.mul (hx : evL fl x = some (.int .i64 p)) (hy : evL fl y = some (.int .i64 q)) (h0 : -9223372036854775808 ≤ p * q ∧ p * q ≤ 9223372036854775807) : StepC P fl (.binOp .mul T x y T') (.int .i64 (p * q)) := by
  have := StepC.bin (P := P) (op := .mul) (T := T) (T' := T') (v := .int .i64 (IntKind.i64.wrap (p * q))) hx hy rfl rfl
  rwa [wrap64 h0.1 h0.2] at this
theorem StepC.quo (hx : evL fl x = some (.int .i64 p)) (hy : evL fl y = some (.int .i64 q)) (hq : q ≠ 0) (h0 : -9223372036854775808 ≤ p.tdiv q ∧ p.tdiv q ≤ 9223372036854775807) : StepC P fl (.binOp .quo T x y T') (.int .i64 (p.tdiv q)) := by
  have := StepC.bin (P := P) (op := .quo) (T := T) (T' := T') (v := .int .i64 (IntKind.i64.wrap (p.tdiv q))) hx hy rfl
    (by show (runPure P (Op.intDiv .quo .i64 p q)).bind _ = _
        unfold Op.intDiv
        rw [if_neg hq]; rfl)
  rwa [wrap64 h0.1 h0.2] at this
theorem StepC.rem (hx : evL fl x = some (.int .i64 p)) (hy : evL fl y = some (.int .i64 q)) (hq : q ≠ 0) : StepC P fl (.binOp .rem T x y T') (.int .i64 (p.tmod q)) :=
  StepC.bin (P := P) (op := .rem) (T := T) (T' := T') (v := .int .i64 (p.tmod q)) hx hy rfl
    (by show (runPure P (Op.intDiv .rem .i64 p q)).bind _ = _
        unfold Op.intDiv
        rw [if_neg hq]; rfl)
theorem StepC.shr (hx : evL fl x = some (.int .i64 p)) (hy : evL fl y = some (.int .i64 q)) (hq : 0 ≤ q ∧ q ≤ 64) : StepC P fl (.binOp .shr T x y T') (.int .i64 (p.fdiv (2 ^ q.toNat))) :=
  StepC.bin (P := P) (op := .shr) (T := T) (T' := T') hx hy rfl
    (by show (runPure P (Op.shift .shr .i64 p .i64 q)).bind _ = _
        unfold Op.shift
        rw [if_neg (by omega)]
        have : min q.toNat IntKind.i64.bits = q.toNat := Nat.min_eq_left (by show q.toNat ≤ 64; omega)
        simp only [this]
        rfl)
theorem StepC.lss (hx : evL fl x = some (.int .i64 p)) (hy : evL fl y = some (.int .i64 q)) : StepC P fl (.binOp .lss T x y T') (.bool (decide (p < q))) := StepC.bin hx hy rfl rfl
theorem StepC.leq (hx : evL fl x = some (.int .i64 p)) (hy : evL fl y = some (.int .i64 q)) : StepC P fl (.binOp .leq T x y T') (.bool (decide (p ≤ q))) := StepC.bin hx hy rfl rfl
theorem StepC.gtr (hx : evL fl x = some (.int .i64 p)) (hy : evL fl y = some (.int .i64 q)) : StepC P fl (.binOp .gtr T x y T') (.bool (decide (q < p))) := StepC.bin hx hy rfl rfl
theorem StepC.geq (hx : evL fl x = some (.int .i64 p)) (hy : evL fl y = some (.int .i64 q)) : StepC P fl (.binOp .geq T x y T') (.bool (decide (q ≤ p))) := StepC.bin hx hy rfl rfl
theorem StepC.eql (hx : evL fl x = some (.int .i64 p)) (hy : evL fl y = some (.int .i64 q)) : StepC P fl (.binOp .eql T x y T') (.bool (decide (p = q))) := by
  have := StepC.bin (P := P) (op := .eql) (T := T) (T' := T') (v := .bool (p == q)) hx hy rfl rfl
  rwa [show (p == q) = decide (p = q) from by by_cases h : p = q <;> simp [h]] at this
theorem StepC.neq (hx : evL fl x = some (.int .i64 p)) (hy : evL fl y = some (.int .i64 q)) : StepC P fl (.binOp .neq T x y T') (.bool (decide (p ≠ q))) := by
  have := StepC.bin (P := P) (op := .neq) (T := T) (T' := T') (v := .bool (p != q)) hx hy rfl rfl
  rwa [show (p != q) = decide (p ≠ q) from by by_cases h : p = q <;> simp [h]] at this
theorem StepC.not {r : Bool} (hx : evL fl x = some (.bool r)) : StepC P fl (.unOp .not T x) (.bool (!r)) := StepC.un hx rfl rfl
/-! ## min, max -/
theorem stepMax {a : Array TypeId} (hx : evL fl x = some (.int .i64 p)) (hy : evL fl y = some (.int .i64 q)) : ∀ t, TrIs fl t → ∀ (d : Option Tmp) (ty : TypeId) (pos : String) (after : Array Edge) (g : Option (Nat × Bool)) (H : Heap),
    stepO P ⟨d, .call { callee := .builtin .max, args := #[x, y], argTypes := a }, ty, pos, after, g⟩ (evalO t) H = some (.int .i64 (max p q), H) := fun t ht d ty pos after g H => by
  show (if [evalO t x, evalO t y].all af = true then (purely P (Builtin.max_ a ty [evalO t x, evalO t y].toArray)).map fun v => (v, H) else none) = _
  rw [evL_ok ht hx, evL_ok ht hy]
  have : (purely P (Builtin.max_ a ty [Value.int .i64 p, Value.int .i64 q].toArray)) = some (.int .i64 (if q > p then q else p)) := rfl
  rw [this]
  have e : (if q > p then q else p) = max p q := by
    rw [Int.max_def]; split <;> split <;> omega
  rw [e]; rfl
theorem stepMin {a : Array TypeId} (hx : evL fl x = some (.int .i64 p)) (hy : evL fl y = some (.int .i64 q)) : ∀ t, TrIs fl t → ∀ (d : Option Tmp) (ty : TypeId) (pos : String) (after : Array Edge) (g : Option (Nat × Bool)) (H : Heap),
    stepO P ⟨d, .call { callee := .builtin .min, args := #[x, y], argTypes := a }, ty, pos, after, g⟩ (evalO t) H = some (.int .i64 (min p q), H) := fun t ht d ty pos after g H => by
  show (if [evalO t x, evalO t y].all af = true then (purely P (Builtin.min_ a ty [evalO t x, evalO t y].toArray)).map fun v => (v, H) else none) = _
  rw [evL_ok ht hx, evL_ok ht hy]
  have : (purely P (Builtin.min_ a ty [Value.int .i64 p, Value.int .i64 q].toArray)) = some (.int .i64 (if q < p then q else p)) := rfl
  rw [this]
  have e : (if q < p then q else p) = min p q := by
    rw [Int.min_def]; split <;> split <;> omega
  rw [e]; rfl
/-- Steps that look at no object of the heap, whatever it is. -/
def StepA (P : Program) (fl : FL) (op : Op) (v : Value) : Prop := ∀ t, TrIs fl t → ∀ (d : Option Tmp) (ty : TypeId) (pos : String) (after : Array Edge) (g : Option (Nat × Bool)) (H : Heap), stepO P ⟨d, op, ty, pos, after, g⟩ (evalO t) H = some (v, H)
theorem StepA.max {a : Array TypeId} (hx : evL fl x = some (.int .i64 p)) (hy : evL fl y = some (.int .i64 q)) : StepA P fl (.call { callee := .builtin .max, args := #[x, y], argTypes := a }) (.int .i64 (Max.max p q)) := stepMax hx hy
theorem StepA.min {a : Array TypeId} (hx : evL fl x = some (.int .i64 p)) (hy : evL fl y = some (.int .i64 q)) : StepA P fl (.call { callee := .builtin .min, args := #[x, y], argTypes := a }) (.int .i64 (Min.min p q)) := stepMin hx hy
theorem StepA.len {a : Array TypeId} {u : Value} (hx : evL fl x = some u) (hv : ∀ h, fsLen P a u h = some v) : StepA P fl (.call { callee := .builtin .len, args := #[x], argTypes := a }) v := fun t ht d ty pos after g H => by
  show (fsLen P a (evalO t x) H).map _ = _
  rw [evL_ok ht hx, hv]; rfl
theorem XO.a (hs : StepA P fl op v) (hn : Nat.blt d n = true) (h4 : Nat.ble n 4000 = true) (hk : XO P orc ops n l ((d, v) :: fl) h K) : XO P orc ops n (⟨some d, op, ty, pos, after, none⟩ :: l) fl h K :=
  XO.step (fun t ht => hs t ht _ _ _ _ _ h) (put_ok hn h4) hk
theorem XD.a {b : Nat} (hc : calm op = false) (hs : StepA P fl op v) (hb : beforeOf bs ⟨some d, op, ty, pos, after, none⟩ = b) (htl : (tail && !Nat.beq (mem &&& b) mem) = false) (hn : Nat.blt d n = true) (h4 : Nat.ble n 4000 = true)
    (hk : XD P orc ops n l (i + 1) ((d, v) :: fl) h (bs ++ [b]) ((i, h.next, h.next) :: segs) (mem ||| 2 ^ i) tail K) : XD P orc ops n (⟨some d, op, ty, pos, after, none⟩ :: l) i fl h bs segs mem tail K := fun t ht => by
  obtain ⟨t', h1, h2⟩ := put_ok (v := v) hn h4 t ht
  refine EvD.op (s' := ⟨t', h, bs ++ [b], (i, h.next, h.next) :: segs, mem ||| 2 ^ i, tail⟩) ?_ (hk t' h2)
  unfold fsDraw
  simp only [fsWanted, hc, Bool.false_eq_true, if_false, hb, htl, cond_false, hs t ht, blt_refl', h1, ble_refl', cond_true, newer_same, List.nil_append]
theorem XO.ga {j : Nat} {w b : Bool} {x : Tmp} (hj : (ops[j]?).bind (·.dst) = some x) (hb : lk fl x = some (.bool b)) (hw : (b == w) = true) (hs : StepA P fl op v) (hn : Nat.blt d n = true) (h4 : Nat.ble n 4000 = true) (hk : XO P orc ops n l ((d, v) :: fl) h K) :
    XO P orc ops n (⟨some d, op, ty, pos, after, some (j, w)⟩ :: l) fl h K := fun t ht => by
  obtain ⟨t', h1, h2⟩ := put_ok (v := v) hn h4 t ht
  exact EvO.op (by rw [wanted_b ht rfl hj hb, hw]) (hs t ht _ _ _ _ _ h) h1 (hk t' h2)
theorem XO.gcall {j : Nat} {w b : Bool} {x : Tmp} {f : Operand} {args : Array Operand} {ats : Array TypeId} {g : FuncId} {a c : Array Value} {vs : List Value} (hj : (ops[j]?).bind (·.dst) = some x) (hb : lk fl x = some (.bool b)) (hw : (b == w) = true)
    (hf : evL fl f = some (.func (.func g) a c)) (ha : evA fl args.toList = some vs) (hn : Nat.blt d n = true) (h4 : Nat.ble n 4000 = true) (hc : EvF P orc g (a.toList ++ vs ++ c.toList) h fun v h' => XO P orc ops n l ((d, v) :: fl) h' K) :
    XO P orc ops n (⟨some d, .call { callee := .value f, args := args, argTypes := ats }, ty, pos, after, some (j, w)⟩ :: l) fl h K := fun t ht => by
  refine EvO.call (by rw [wanted_b ht rfl hj hb, hw]) rfl rfl (evL_ok ht hf) ?_
  rw [evA_ok ht _ _ ha]
  refine hc.mono fun v h' hx => ?_
  obtain ⟨t', h1, h2⟩ := put_ok (v := v) hn h4 t ht
  exact ⟨t', h1, hx t' h2⟩

/-! ## Tests -/
theorem XO.split {x : Tmp} {p : Prop} [Decidable p] (hc : lk fl x = some (.bool (decide p))) (ht : p → XO P orc ops n l ((x, .bool true) :: fl) h K) (hf : ¬ p → XO P orc ops n l ((x, .bool false) :: fl) h K) : XO P orc ops n l fl h K := by
  intro t hT
  have hs : ∀ v, lk fl x = some v → TrIs ((x, v) :: fl) t := fun v hv k u hk => by
    simp only [lk] at hk
    cases hb : Nat.beq x k with
    | true => rw [hb] at hk; simp only [cond_true, Option.some.injEq] at hk; subst hk; rw [← nbeq hb]; exact hT x _ hv
    | false => rw [hb] at hk; exact hT k u hk
  by_cases hp : p
  · rw [decide_eq_true hp] at hc; exact ht hp t (hs _ hc)
  · rw [decide_eq_false hp] at hc; exact hf hp t (hs _ hc)
theorem XO.splitB {x : Tmp} {r : Bool} (hc : lk fl x = some (.bool r)) (ht : r = true → XO P orc ops n l ((x, .bool true) :: fl) h K) (hf : r = false → XO P orc ops n l ((x, .bool false) :: fl) h K) : XO P orc ops n l fl h K := by
  intro t hT
  have hs : ∀ v, lk fl x = some v → TrIs ((x, v) :: fl) t := fun v hv k u hk => by
    simp only [lk] at hk
    cases hb : Nat.beq x k with
    | true => rw [hb] at hk; simp only [cond_true, Option.some.injEq] at hk; subst hk; rw [← nbeq hb]; exact hT x _ hv
    | false => rw [hb] at hk; exact hT k u hk
  cases r with
  | true => exact ht rfl t (hs _ hc)
  | false => exact hf rfl t (hs _ hc)
theorem XC.condT {x : Operand} {a b : Code} (hc : evL fl x = some (.bool true)) (hx : XC P orc rnd a n ms fl h Q) : XC P orc rnd (.cond x a b) n ms fl h Q := XC.cond (c := true) hc hx
theorem XC.condF {x : Operand} {a b : Code} (hc : evL fl x = some (.bool false)) (hx : XC P orc rnd b n ms fl h Q) : XC P orc rnd (.cond x a b) n ms fl h Q := XC.cond (c := false) hc hx

theorem XC.condD {x : Operand} {a b : Code} {p : Prop} {inst : Decidable p} (hc : evL fl x = some (.bool (@decide p inst))) (ht : p → XC P orc rnd a n ms fl h Q) (hf : ¬ p → XC P orc rnd b n ms fl h Q) : XC P orc rnd (.cond x a b) n ms fl h Q := XC.condP hc ht hf
theorem XO.splitD {x : Tmp} {p : Prop} {inst : Decidable p} (hc : lk fl x = some (.bool (@decide p inst))) (ht : p → XO P orc ops n l ((x, .bool true) :: fl) h K) (hf : ¬ p → XO P orc ops n l ((x, .bool false) :: fl) h K) : XO P orc ops n l fl h K := XO.split hc ht hf

/-! ## Entry, ends -/
theorem RepV.entry {τ : Ty} {v : Value} {x : τ.den} (hv : RepV h S τ v x) : RepV (entry h) S τ v x := hv.nx (Goes.objs fun _ => rfl)
theorem SlV.entry {τ : Ty} {v : Value} {xs : List τ.den} (hv : SlV h S τ v xs) : SlV (entry h) S τ v xs := hv.nx (Goes.objs fun _ => rfl)
theorem After.inS (a : After h h') (hS : ∀ b ∈ S, b < h.next) : ∀ b ∈ S, b < h'.next := fun b hb => Nat.lt_of_lt_of_le (hS b hb) a.next
theorem GrowR.inS {lo : Nat} {e : TypeId} {m : Bool} {τ : Ty} {v : Value} {xs : List τ.den} (hg : GrowR h (ownB v ++ S) lo e m τ v xs) (hok : HOk h) (hS : ∀ b ∈ S, b < h.next) : ∀ b ∈ ownB v ++ S, b < h.next := by
  intro b hb
  rcases List.mem_append.1 hb with hb | hb
  · rcases hg with ⟨rfl, _⟩ | ⟨b', rs, h1, h2, rfl, h4, h5⟩
    · cases hb
    · simp only [ownB, List.mem_singleton] at hb
      subst hb
      exact hok b _ h4
  · exact hS b hb
theorem inBlock_ne {id id' : Nat} {fr : Fr} (hne : id' ≠ id) (hq : Q (.exit id') fr h) : inBlock id Q (.exit id') fr h := by simp only [inBlock, if_neg hne]; exact hq
theorem TrIs.keep {t : Tr} (ht : TrIs fl t) (fl' : FL) (hs : subFL fl fl') : TrIs fl' t := by
  refine ht.sub fl' ?_
  induction fl' with
  | nil => intro p hp; cases hp
  | cons a r ih =>
    obtain ⟨k, v⟩ := a
    intro p hp
    rcases List.mem_cons.1 hp with rfl | hp
    · exact hs.1
    · exact ih hs.2 p hp
theorem RepP.base {τ : Ty} {p : Value} {x : τ.den} (hp : RepP h S τ p x) : RepP h S τ (padd p 0) x := by
  obtain ⟨b', o, e', rs, own, more, rfl, h2⟩ := hp
  exact ⟨b', o, e', rs, own, more, rfl, h2⟩
theorem RepP.fst' {a b : Ty} {p : Value} {x : (Ty.pair a b).den} (hp : RepP h S (.pair a b) p x) : RepP h S a p x.1 := by
  have := hp.fst
  obtain ⟨b', o, e', rs, own, more, rfl, h2⟩ := hp
  exact this
theorem RepP.snd' {a b : Ty} {p : Value} {k m : Nat} {x : (Ty.pair a b).den} (hp : RepP h S (.pair a b) (padd p k) x) (hm : k + a.size = m) (h0 : ∃ b o, p = .pointer (some ⟨b, o, none⟩)) : RepP h S b (padd p m) x.2 := by
  obtain ⟨b', o, rfl⟩ := h0
  subst hm
  have := hp.snd
  simpa [padd, Nat.add_assoc] using this
theorem RepP.isP {τ : Ty} {p : Value} {x : τ.den} (hp : RepP h S τ p x) : ∃ b o, p = .pointer (some ⟨b, o, none⟩) := by
  obtain ⟨b', o, e', rs, own, more, rfl, h2⟩ := hp
  exact ⟨b', o, rfl⟩
theorem RepP.ldSl {e : TypeId} {τ : Ty} {p : Value} {xs : List τ.den} (hp : RepP h S (.sl τ) p xs) (hT : ValT P e (.sl τ)) : ∃ u, fsLoad P e p h = some u ∧ SlV h S τ u xs := ⟨_, hp.load hT, hp.val.sl⟩
theorem RepP.ldV {e : TypeId} {τ : Ty} {p : Value} {x : τ.den} (hp : RepP h S τ p x) (hT : ValT P e τ) : ∃ u, fsLoad P e p h = some u ∧ RepV h S τ u x := ⟨_, hp.load hT, hp.val⟩
end Go.Fs
namespace Go.Fs
variable {P : Program} {orc : FuncId → List Value → Heap → Option (Value × Heap)} {rnd : Option Nat} {h h' h0 h1 h2 hs : Heap} {ops : Array Oper} {n i mem b : Nat} {fl : FL} {K : FL → Heap → Prop} {l : List Oper} {bs : List Nat} {segs : List (Nat × Nat × Nat)} {tail : Bool}
  {d : Tmp} {ty : TypeId} {pos : String} {after : Array Edge} {op : Op} {v : Value} {S S' S0 : List Nat} {ms : List Nat} {Q : Ex → Fr → Heap → Prop} {c : Code}

def ownP (p : Value) : List Nat :=
  match p with
  | .pointer (some ⟨b, _, none⟩) => [b]
  | _ => []
/-- A variable behind a pointer, of the function's own: its cells. -/
def BoxR (h : Heap) (lo : Nat) (p : Value) (cs : List Value) : Prop := ∃ b e, p = .pointer (some ⟨b, 0, none⟩) ∧ lo ≤ b ∧ h.get b = some (.row e cs true false)
theorem BoxR.keep {lo : Nat} {p : Value} {cs : List Value} (hb : BoxR h lo p cs) (ha : After h h') (hok : HOk h) : BoxR h' lo p cs := by
  obtain ⟨b, e, h1, h2, h3⟩ := hb
  exact ⟨b, e, h1, h2, by rw [ha.get b (hok b _ h3)]; exact h3⟩
theorem BoxR.inS {lo : Nat} {p : Value} {cs : List Value} (hb : BoxR h lo p cs) (hok : HOk h) (hS : ∀ b ∈ S, b < h.next) : ∀ b ∈ ownP p ++ S, b < h.next := by
  obtain ⟨b, e, rfl, h2, h3⟩ := hb
  intro i hi
  rcases List.mem_append.1 hi with hi | hi
  · simp only [ownP, List.mem_singleton] at hi; subst hi; exact hok _ _ h3
  · exact hS i hi
theorem BoxR.objs {lo : Nat} {p : Value} {cs : List Value} (hb : BoxR h lo p cs) (hg : ∀ b, h'.get b = h.get b) : BoxR h' lo p cs := by
  obtain ⟨b, e, h1, h2, h3⟩ := hb
  exact ⟨b, e, h1, h2, by rw [hg]; exact h3⟩
theorem goes_ownP {p : Value} : Goes h (ownP p ++ S0) h S0 := Goes.less fun _ hc => List.mem_append_right _ hc

/-- A new variable. -/
theorem BoxR.new {e : TypeId} {cs : List Value} (hA : After h0 h) (hok0 : HOk h0) : BoxR (h.push (.row e cs true false)) h0.next (.pointer (some ⟨h.next, 0, none⟩)) cs ∧ After h (h.push (.row e cs true false)) ∧ Goes h S (h.push (.row e cs true false)) (ownP (.pointer (some ⟨h.next, 0, none⟩)) ++ S) := by
  have hok := hA.ok hok0
  refine ⟨⟨h.next, e, rfl, hA.next, by rw [Heap.get_push, if_pos rfl]⟩, After.push h _, fun b o hg hb => ?_⟩
  have := hok b o hg
  refine ⟨by rw [Heap.get_push, if_neg (by omega)]; exact hg, ?_⟩
  simp only [ownP, List.cons_append, List.nil_append, List.mem_cons, not_or]
  exact ⟨by omega, hb⟩
theorem XO.boxB {e : TypeId} {x : Operand} {u : Value} (hu : evL fl x = some u) (ho : u.cells.toList.all oneCell = true) (hA : After h0 h) (hok0 : HOk h0) (hn : Nat.blt d n = true) (h4 : Nat.ble n 4000 = true)
    (hk : ∀ p h', BoxR h' h0.next p u.cells.toList → After h h' → (∀ S, Goes h S h' (ownP p ++ S)) → XO P orc ops n l ((d, p) :: fl) h' K) : XO P orc ops n (⟨some d, .box e x, ty, pos, after, none⟩ :: l) fl h K :=
  XO.mk (.box hu ho) hn h4 (hk _ _ (BoxR.new (S := []) hA hok0).1 (After.push h _) fun S => (BoxR.new hA hok0).2.2)
theorem XO.allocB {e : TypeId} {z : Value} (hz : (P.info? e).bind (·.zero) = some z) (ha : af z = true) (ho : z.cells.toList.all oneCell = true) (hA : After h0 h) (hok0 : HOk h0) (hn : Nat.blt d n = true) (h4 : Nat.ble n 4000 = true)
    (hk : ∀ p h', BoxR h' h0.next p z.cells.toList → After h h' → (∀ S, Goes h S h' (ownP p ++ S)) → XO P orc ops n l ((d, p) :: fl) h' K) : XO P orc ops n (⟨some d, .alloc e, ty, pos, after, none⟩ :: l) fl h K :=
  XO.mk (.alloc hz ha ho) hn h4 (hk _ _ (BoxR.new (S := []) hA hok0).1 (After.push h _) fun S => (BoxR.new hA hok0).2.2)

/-- What is read. -/
theorem BoxR.ld1 {lo : Nat} {p u : Value} {e : TypeId} {cs : List Value} {k : Nat} {τ : Ty} (hb : BoxR h lo p cs) (hT : ValT P e τ) (ha : τ.agg = false) (hk : cs[k]? = some u) : fsLoad P e (padd p k) h = some u := by
  obtain ⟨b, e', rfl, h2, h3⟩ := hb
  obtain ⟨i, hi, hs⟩ := hT.info
  obtain ⟨d, hd, hag⟩ := hT.agg
  have h4 : h.get b = some (.row e' cs true false) := h3
  simp only [fsLoad, padd, h4, hd, hi, hag, ha, Nat.zero_add, hk]
  rfl
theorem BoxR.ld0 {lo : Nat} {p u : Value} {e : TypeId} {cs : List Value} {τ : Ty} (hb : BoxR h lo p cs) (hT : ValT P e τ) (ha : τ.agg = false) (hk : cs[0]? = some u) : fsLoad P e p h = some u := by
  have := hb.ld1 (k := 0) hT ha hk
  obtain ⟨b, e', rfl, h2, h3⟩ := hb
  exact this
theorem BoxR.ldA {lo : Nat} {p : Value} {e : TypeId} {cs : List Value} {τ : Ty} (hb : BoxR h lo p cs) (hT : ValT P e τ) (ha : τ.agg = true) (hk : cs.length = τ.size) : fsLoad P e p h = some (.agg cs.toArray) := by
  obtain ⟨b, e', rfl, h2, h3⟩ := hb
  obtain ⟨i, hi, hs⟩ := hT.info
  obtain ⟨d, hd, hag⟩ := hT.agg
  have h4 : h.get b = some (.row e' cs true false) := h3
  simp only [fsLoad, h4, hd, hi, hag, ha, hs, if_true]
  rw [if_pos (by omega), List.drop_zero, ← hk, List.take_length]
theorem BoxR.fa {lo : Nat} {p : Value} {cs : List Value} {s : TypeId} {f k : Nat} (hp : BoxR h lo p cs) (hb : offB P s f k = true) : runPure P (Instr.fieldAt s p f) = some (padd p k) := by
  obtain ⟨b', e', rfl, h2, h3⟩ := hp
  unfold offB at hb
  split at hb
  · rename_i fs hfs
    split at hb
    · rename_i fd hfd
      obtain ⟨h6, h7⟩ := band hb
      split at h7
      · rename_i i hi
        have h8 := nblt h7
        have h9 := nbeq h6
        unfold Instr.fieldAt
        simp only [runPure_bind, runPure_underlying hfs, Option.bind_some, hfd]
        show (runPure P (Instr.sureAddr _)).bind _ = _
        simp only [Instr.sureAddr, runPure_pure, Option.bind_some, runPure_bind, fieldPlace, runPure_sizeOf hi]
        rw [if_neg (by omega)]
        simp only [runPure_pure, Option.bind_some, add_none, h9, padd]
      · cases h7
    · cases hb
  · cases hb
/-- What is written. -/
theorem BoxR.st {p u : Value} {e : TypeId} {cs us : List Value} {k : Nat} {τ : Ty} (hb : BoxR h h0.next p cs) (hT : ValT P e τ) (hu : u.cells.toList = us) (hl : us.length = τ.size) (hk : k + τ.size ≤ cs.length) (ho : us.all oneCell = true) (hA : After h0 h) (hok : HOk h) :
    ∃ h', fsStore P e (padd p k) u h = some h' ∧ BoxR h' h0.next p (splice cs k us) ∧ After h0 h' ∧ Goes h (ownP p ++ S) h' (ownP p ++ S) ∧ h'.next = h.next ∧ (∀ b, b ∉ ownP p → h'.get b = h.get b) ∧ h'.low < h.next := by
  obtain ⟨b, e', rfl, h2, h3⟩ := hb
  obtain ⟨i, hi, hs⟩ := hT.info
  refine ⟨h.set b (.row e' (splice cs k us) true false), ?_, ⟨b, e', rfl, h2, by rw [Heap.get_set h3, if_pos rfl]⟩, hA.set h3 h2, fun c o hg hc => ⟨?_, hc⟩, rfl, fun c hc => ?_, ?_⟩
  · simp only [fsStore, padd, h3, hi, hu, hl, hs, ho, Nat.zero_add]
    rw [if_pos ⟨trivial, hk, trivial⟩]
  · rw [Heap.get_set h3, if_neg (fun e => hc (by subst e; simp [ownP]))]; exact hg
  · rw [Heap.get_set h3, if_neg (fun e => hc (by subst e; simp [ownP]))]
  · have h9 := hok _ _ h3
    show min h.low b < h.next
    omega
theorem BoxR.st0 {p u : Value} {e : TypeId} {cs us : List Value} {τ : Ty} (hb : BoxR h h0.next p cs) (hT : ValT P e τ) (hu : u.cells.toList = us) (hl : us.length = τ.size) (hk : τ.size ≤ cs.length) (ho : us.all oneCell = true) (hA : After h0 h) (hok : HOk h) :
    ∃ h', fsStore P e p u h = some h' ∧ BoxR h' h0.next p (splice cs 0 us) ∧ After h0 h' ∧ Goes h (ownP p ++ S) h' (ownP p ++ S) ∧ h'.next = h.next ∧ (∀ b, b ∉ ownP p → h'.get b = h.get b) ∧ h'.low < h.next := by
  have := hb.st (S := S) (k := 0) hT hu hl (by omega) ho hA hok
  obtain ⟨b, e', rfl, h2, h3⟩ := hb
  exact this
theorem XO.st {T : TypeId} {x y : Operand} {u w : Value} (hx : evL fl x = some u) (hy : evL fl y = some w) (hb : fsStore P T u w h = some h') (hk : XO P orc ops n l fl h' K) : XO P orc ops n (⟨none, .store T x y, ty, pos, after, none⟩ :: l) fl h K :=
  XO.mk0 (.store hx hy hb) hk

/-- In a drawn region: something of the function's own is written, ordered behind all. -/
theorem XD.st {b : Nat} {T : TypeId} {x y : Operand} {u w : Value} (hx : evL fl x = some u) (hy : evL fl y = some w) (hst : fsStore P T u w (entry h) = some h') (hb : beforeOf bs ⟨none, .store T x y, ty, pos, after, none⟩ = b) (ho : Nat.beq (mem &&& b) mem = true) (hok : HOk h) (hnx : h'.next = h.next) (hok' : HOk h')
    (hkeep : h.next ≤ h'.low → ∀ b, b < h.next → h'.get b = h.get b)
    (hk : ∀ h2 t2, (∀ b, h2.get b = h'.get b) → h2.next = h'.next → (∀ h0, After h0 h → After h0 h' → After h0 h2) → XD P orc ops n l (i + 1) fl h2 (bs ++ [b]) ((i, h.next, h2.next) :: segs) (mem ||| 2 ^ i) t2 K) :
    XD P orc ops n (⟨none, .store T x y, ty, pos, after, none⟩ :: l) i fl h bs segs mem tail K := fun t ht => by
  have hst' : stepO P ⟨none, .store T x y, ty, pos, after, none⟩ (evalO t) { next := h.next, low := h.next, objs := h.objs } = some (undef, h') := by
    show (fsStore P T (evalO t x) (evalO t y) _).map _ = _
    rw [evL_ok ht hx, evL_ok ht hy]
    unfold entry at hst
    rw [hst]; rfl
  have htl : (tail && !true) = false := by simp
  have hblt : Nat.blt h'.next h.next = false := blt_of_le (by omega)
  cases hlow : Nat.ble h.next h'.low with
  | true =>
    have hl := nble hlow
    have hnew : newer h.next h'.next h'.objs = [] := by
      unfold newer
      rw [hnx, Nat.beq_refl]; rfl
    have hg : ∀ b, Heap.get { next := h'.next, low := h.low, objs := newer h.next h'.next h'.objs ++ h.objs } b = h'.get b := fun b => by
      show look (newer h.next h'.next h'.objs ++ h.objs) b = look h'.objs b
      rw [hnew, List.nil_append]
      by_cases hb : b < h.next
      · exact (hkeep hl b hb).symm
      · have h6 : look h.objs b = none := by
          cases hl : look h.objs b with
          | none => rfl
          | some o => have := hok b o hl; omega
        have h7 : look h'.objs b = none := by
          cases hl : look h'.objs b with
          | none => rfl
          | some o => have := hok' b o hl; omega
        rw [h6, h7]
    refine EvD.op (s' := ⟨t, { next := h'.next, low := h.low, objs := newer h.next h'.next h'.objs ++ h.objs }, bs ++ [b], (i, h.next, h'.next) :: segs, mem ||| 2 ^ i, tail⟩) ?_
      (hk _ tail hg rfl (fun h0 a1 a2 => ⟨a2.next, fun b hb => (hg b).trans (a2.get b hb), fun hok0 b o hgb => a2.ok hok0 b o (by rw [← hg b]; exact hgb), a1.low⟩) t ht)
    unfold fsDraw
    simp only [fsWanted, show calm (Op.store T x y) = false from rfl, Bool.false_eq_true, if_false, hb, ho, htl, cond_false, cond_true, hst', hblt, hlow]
    rfl
  | false =>
    refine EvD.op (s' := ⟨t, { next := h'.next, low := min h.low h'.low, objs := h'.objs }, bs ++ [b], (i, h.next, h'.next) :: segs, mem ||| 2 ^ i, true⟩) ?_
      (hk { next := h'.next, low := min h.low h'.low, objs := h'.objs } true (fun _ => rfl) rfl (fun h0 a1 a2 => ⟨a2.next, a2.get, a2.ok, fun e h3 h4 => Nat.le_min.2 ⟨a1.low e h3 h4, a2.low e h3 h4⟩⟩) t ht)
    unfold fsDraw
    simp only [fsWanted, show calm (Op.store T x y) = false from rfl, Bool.false_eq_true, if_false, hb, ho, htl, cond_false, cond_true, hst', hblt, hlow]
    rfl
theorem inBlock_eq {id : Nat} {fr : Fr} (hq : Q .normal fr h) : inBlock id Q (.exit id) fr h := by simp only [inBlock, if_true]; exact hq
theorem tup2 {a b c d : Value} (h1 : a = c) (h2 : b = d) : (#[a, b] : Array Value) = #[c, d] := by rw [h1, h2]
theorem tup3 {a b c d e f : Value} (h1 : a = d) (h2 : b = e) (h3 : c = f) : (#[a, b, c] : Array Value) = #[d, e, f] := by rw [h1, h2, h3]

/-- 'append(s, x)' in a drawn region. -/
theorem XD.pushR {b b2 : Nat} {T T' e : TypeId} {τ : Ty} {m : Bool} {x y : Operand} {u v : Value} {d2 : Tmp} {ty2 : TypeId} {pos2 : String} {after2 : Array Edge} {xs : List τ.den} {z : τ.den} (hT : ElT P T e τ) (hT' : ElT P T' e τ) (hu : evL fl x = some u) (hv : ∀ w, evL ((d, w) :: fl) y = some v)
    (hg : GrowR h (ownB v ++ S0) h0.next e m τ v xs) (hx : RepV h (ownB v ++ S0) τ u z) (hA : After h0 h) (hok0 : HOk h0) (hS0 : ∀ b ∈ S0, b < h.next) (hsz : xs.length < 1000000) (hτ : τ.size ≤ 100)
    (hb : beforeOf bs ⟨some d, .buildSlice T' 1 #[(0, x)], ty, pos, after, none⟩ = b) (htl : (tail && !Nat.beq (mem &&& b) mem) = false) (hb2 : beforeOf (bs ++ [b]) ⟨some d2, .call { callee := .builtin .append, args := #[y, .tmp d], argTypes := #[T, T'] }, ty2, pos2, after2, none⟩ = b2)
    (ho2 : Nat.beq ((mem ||| 2 ^ i) &&& b2) (mem ||| 2 ^ i) = true) (hn : Nat.blt d n = true) (hn2 : Nat.blt d2 n = true) (h4 : Nat.ble n 4000 = true)
    (hk : ∀ v' h' t2, GrowR h' (ownB v' ++ S0) h0.next e true τ v' (xs ++ [z]) → After h0 h' → Goes h (ownB v ++ S0) h' (ownB v' ++ S0) → h.next ≤ h'.next → ∀ w k, XD P orc ops n l (i + 1 + 1) ((d2, v') :: (d, w) :: fl) h' (bs ++ [b] ++ [b2]) ((i + 1, k, h'.next) :: (i, h.next, k) :: segs) (mem ||| 2 ^ i ||| 2 ^ (i + 1)) t2 K) :
    XD P orc ops n (⟨some d, .buildSlice T' 1 #[(0, x)], ty, pos, after, none⟩ :: ⟨some d2, .call { callee := .builtin .append, args := #[y, .tmp d], argTypes := #[T, T'] }, ty2, pos2, after2, none⟩ :: l) i fl h bs segs mem tail K := by
  have hok := hA.ok hok0
  have hS : ∀ b ∈ ownB v ++ S0, b < h.next := hg.inS hok hS0
  refine XD.lit (vs := [u]) (xs := [z]) (vs1 hx) hT' (by simp only [evLs, hu]; rfl) rfl rfl (by simp) (by simp) hτ hok hS hb htl hn h4 ?_
  intro w h1 hw a1
  have hok1 := a1.ok hok
  have hN1 : Goes h (ownB v ++ S0) h1 (ownB v ++ S0) := a1.nx hok
  have aE : After h0 (entry h1) := ⟨Nat.le_trans hA.next a1.next, fun b hb => (a1.get b (Nat.lt_of_lt_of_le hb hA.next)).trans (hA.get b hb), fun k => a1.ok (hA.ok k), fun e _ h2 => Nat.le_trans h2 (Nat.le_trans hA.next a1.next)⟩
  have hgE : GrowR (entry h1) (ownB v ++ S0) h0.next e m τ v xs := by
    have := hg.keep a1 hok
    rcases this with h2 | ⟨b, rs, h2, h3, h4, h5, h6⟩
    · exact .inl h2
    · exact .inr ⟨b, rs, h2, h3, h4, h5, h6.nx (Goes.objs fun _ => rfl)⟩
  have hwE : SlV (entry h1) (ownB v ++ S0) τ w [z] := hw.nx (Goes.objs fun _ => rfl)
  obtain ⟨v', h', e1, e2, e3, e4, e5, e6⟩ := hgE.all hT hT' hwE aE hok0 (fun b hb => Nat.lt_of_lt_of_le (hS0 b hb) a1.next) (by simp) (by simp; omega)
  have hl : ∀ b, b < h1.next → h1.next ≤ h'.low → h'.get b = h1.get b := fun b hb hlow => e6 hlow b hb
  refine XD.turn (.append (hv w) (by show lk ((d, _) :: fl) d = _; simp only [lk, Nat.beq_refl, cond_true]) e1) hok1 hb2 ho2 e5 (e3.ok hok0) hl hn2 h4 ?_
  intro h2 t2 hg2 hn2 hA2
  have hG : Goes h' (ownB v' ++ S0) h2 (ownB v' ++ S0) := Goes.objs hg2
  have e2' : GrowR h2 (ownB v' ++ S0) h0.next e true τ v' (xs ++ [z]) := by
    rcases e2 with h5 | ⟨b, rs, h5, h6, h7, h8, h9⟩
    · exact .inl h5
    · exact .inr ⟨b, rs, h5, h6, h7, by rw [hg2]; exact h8, h9.nx hG⟩
  exact hk v' h2 t2 e2' (hA2 h0 (hA.trans a1) e3) (hN1.trans ((show Goes h1 (ownB v ++ S0) (entry h1) (ownB v ++ S0) from Goes.objs fun _ => rfl).trans (e4.trans hG))) (by rw [hn2]; exact Nat.le_trans a1.next e5) w h1.next
theorem After.ofEntry (a : After (entry h) h1) : After h h1 := ⟨a.next, a.get, a.ok, fun e _ h4 => a.low e h4 h4⟩
theorem After.toEntry (a : After h0 h) : After h0 (entry h) := ⟨a.next, a.get, a.ok, fun e _ h2 => Nat.le_trans h2 a.next⟩
/-- Beside a variable that is written: the other things of the function's own. -/
theorem GrowR.beside {lo lo2 : Nat} {e : TypeId} {τ : Ty} {v p : Value} {cs : List Value} {xs : List τ.den} (hg : GrowR h S lo e true τ v xs) (hb : BoxR h lo2 p cs) (hf : ∀ b, b ∉ ownP p → h'.get b = h.get b) (hN : Goes h S h' S) : GrowR h' S lo e true τ v xs := by
  rcases hg with hg | ⟨b, rs, h1, h2, h3, h4, h5⟩
  · exact .inl hg
  · refine .inr ⟨b, rs, h1, h2, h3, ?_, h5.nx hN⟩
    rw [hf b ?_]
    · exact h4
    · obtain ⟨b', e', rfl, _, h6⟩ := hb
      intro hm
      simp only [ownP, List.mem_singleton] at hm
      subst hm
      rw [h4] at h6
      simp at h6
end Go.Fs
namespace Go.Fs
variable {P : Program} {h h' : Heap} {fl : FL} {S : List Nat}

theorem runPure_build {T : TypeId} {parts : Array (Nat × Value)} {fields : Array Field} {places : Array (Nat × Nat)} {z : Value} (hu : P.underlying T = some (.struct fields)) (hz : runPure P (zeroValue T) = some z)
    (hp : runPure P (fields.mapM fun f => do pure (f.offset, ← sizeOf f.type)) = some places) {cs : Array Value} (hf : Instr.fill (places[·]?) z.cells parts.toList = some cs) : runPure P (Instr.build T parts) = some (.agg cs) := by
  unfold Instr.build
  rw [runPure_bind, hz]
  simp only [Option.bind_some]
  rw [runPure_bind, runPure_underlying hu]
  simp only [Option.bind_some]
  rw [runPure_bind, hp]
  simp only [Option.bind_some, hf]
  rfl

def One : List Value → Prop
  | [] => True
  | v :: vs => (v.cells = #[v] ∧ oneCell v = true) ∧ One vs
theorem One.all : ∀ {vs : List Value}, One vs → ∀ v ∈ vs, v.cells = #[v] ∧ oneCell v = true
  | [], _, _, hm => by cases hm
  | u :: vs, h, v, hm => by
    rcases List.mem_cons.1 hm with rfl | hm
    · exact h.1
    · exact One.all h.2 v hm
theorem SlV.one {τ : Ty} {v : Value} {xs : List τ.den} (hv : SlV h S τ v xs) : v.cells = #[v] ∧ oneCell v = true := by
  rcases hv with ⟨rfl, _⟩ | ⟨b, o, mk, rfl, _⟩ <;> exact ⟨rfl, rfl⟩
/-- A struct of n fields of one cell each. -/
def stB (P : Program) (T : TypeId) (n : Nat) : Bool :=
  match P.underlying T, runPure P (zeroValue T) with
  | some (.struct fields), some z =>
    match runPure P (fields.mapM fun f => do pure (f.offset, ← sizeOf f.type)) with
    | some places => (places.toList == (List.range n).map fun i => (i, 1)) && Nat.beq z.cells.size n && ((((P.info? T).bind (·.zero)).map fun z => z.cells.toList.all af0) == some true)
    | none => false
  | _, _ => false
theorem fill_numbered' (pl : Nat → Option (Nat × Nat)) : ∀ (vs pre rest : List Value), (∀ i, i < vs.length → pl (pre.length + i) = some (pre.length + i, 1)) → (∀ v ∈ vs, v.cells = #[v]) → rest.length = vs.length → Instr.fill pl (pre ++ rest).toArray (numbered pre.length vs) = some (pre ++ vs).toArray
  | [], pre, rest, _, _, hl => by
    have : rest = [] := List.eq_nil_of_length_eq_zero hl
    subst this
    rfl
  | v :: vs, pre, [], _, _, hl => by simp at hl
  | v :: vs, pre, r :: rest, hpl, hc, hl => by
    have hv := hc v List.mem_cons_self
    have h0 := hpl 0 (by simp)
    rw [Nat.add_zero] at h0
    have ih := fill_numbered' pl vs (pre ++ [v]) rest (fun i hi => by
      have := hpl (i + 1) (by simpa using hi)
      rw [List.length_append, List.length_singleton, Nat.add_assoc, Nat.add_comm 1 i]
      exact this) (fun u hu => hc u (List.mem_cons_of_mem _ hu)) (by simpa using hl)
    simp only [List.length_append, List.length_cons, List.length_nil, Nat.zero_add, List.append_assoc, List.cons_append, List.nil_append] at ih
    simp only [numbered, Instr.fill, hv, h0]
    have h2 : ((#[v] : Array Value).size ≠ 1 || pre.length + (#[v] : Array Value).size > (pre ++ r :: rest).toArray.size) = false := by simp
    simp only [h2, Bool.false_eq_true, if_false]
    have h3 : (#[v] : Array Value).zipIdx.foldl (fun cs (c, j) => cs.setIfInBounds (pre.length + j) c) (pre ++ r :: rest).toArray = (pre ++ v :: rest).toArray := by
      simp
    rw [h3]
    exact ih
theorem StepC.buildS {T : TypeId} {parts : Array (Nat × Operand)} {vs : List Value} (h1 : One vs) (hb : stB P T vs.length = true) (hx : evLs fl parts.toList = some (numbered 0 vs)) : StepC P fl (.build T parts) (.agg vs.toArray) := by
  unfold stB at hb
  split at hb
  · rename_i fields z hu hz
    split at hb
    · rename_i places hp
      obtain ⟨h2, h4⟩ := band hb
      obtain ⟨h2, h3⟩ := band h2
      have h3 := nbeq h3
      refine StepC.build hx ?_ (by simpa using h4) (runPure_build hu hz hp ?_)
      · have : ∀ (k : Nat) (l : List Value), One l → ((numbered k l).all fun p => p.2.cells.toList.all oneCell) = true := by
          intro k l
          induction l generalizing k with
          | nil => intro _; rfl
          | cons u l ih =>
            intro hl
            have hone : ((#[u] : Array Value).toList.all oneCell) = true := by simp [hl.1.2]
            simp only [numbered, List.all_cons, hl.1.1, hone, Bool.true_and]
            exact ih (k + 1) hl.2
        exact this 0 vs h1
      · have hpl : ∀ i, i < vs.length → places[i]? = some (i, 1) := fun i hi => by
          have e : places.toList = (List.range vs.length).map fun i => (i, 1) := by simpa using h2
          rw [← Array.getElem?_toList, e]
          simp [hi]
        have := fill_numbered' (fun i => places[i]?) vs [] z.cells.toList (fun i hi => by simpa using hpl i hi) (fun v hv => (h1.all v hv).1) (by simpa using h3)
        simpa using this
    · cases hb
  · cases hb
theorem One.oneAll : ∀ {vs : List Value}, One vs → vs.all oneCell = true
  | [], _ => rfl
  | v :: vs, h => by simp only [List.all_cons, h.1.2, Bool.true_and]; exact One.oneAll h.2
theorem XO.skipU {orc : FuncId → List Value → Heap → Option (Value × Heap)} {ops : Array Oper} {n : Nat} {l : List Oper} {K : FL → Heap → Prop} {d : Tmp} {ty : TypeId} {pos : String} {after : Array Edge} {op : Op} {j : Nat} {w : Bool} {x : Tmp} (hj : (ops[j]?).bind (·.dst) = some x) (hb : lk fl x = some undef) (hn : Nat.blt d n = true) (h4 : Nat.ble n 4000 = true) (hk : XO P orc ops n l ((d, undef) :: fl) h K) :
    XO P orc ops n (⟨some d, op, ty, pos, after, some (j, w)⟩ :: l) fl h K := fun t ht => by
  obtain ⟨t', h1, h2⟩ := put_ok (v := undef) hn h4 t ht
  refine EvO.skip ?_ h1 (hk t' h2)
  unfold fsWanted
  simp only [hj, ht x _ hb]
  rfl
theorem junk2 (a b : Value) : isJunk (.tuple #[a, b]) = false := by
  unfold isJunk
  split
  · rename_i h; simp at h
  · rfl
theorem junk3 (a b c : Value) : isJunk (.tuple #[a, b, c]) = false := by
  unfold isJunk
  split
  · rename_i h; simp at h
  · rfl
end Go.Fs
