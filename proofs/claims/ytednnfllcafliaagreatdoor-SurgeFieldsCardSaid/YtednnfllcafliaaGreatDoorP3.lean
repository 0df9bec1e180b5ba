/- Variables that are written once, slices that are made and written, closures. No condition. Structs of two whole numbers, compared. No condition. Slices whose room is known: slices.Grow, appends that stay in their row. No condition. Functions that write the slice that they are handed. No condition. Values without addresses: structures within structures. No condition. What the evaluator's slots tell, with the heap hidden: data by their types, the function's own cells. No condition. Runs told by what the slots tell: code. No condition. Runs told by what the slots tell: kinds of operations, in the order of the text. No condition. Runs told by what the slots tell: calls, functions. No condition. Runs told by what the slots tell: regions whose order is not laid down. No condition. More operations: max of several, shifts to the left, parts up to the end. No condition. Runs told by what the slots tell: operations. No condition. Runs told by what the slots tell: operations that read the heap, and that make something. No condition. -/
import Derived.Test.YtednnfllcafliaaGreatDoorP2
import Derived.KernelRfl
set_option linter.all false
namespace Go.Fs
variable {P : Program} {orc : FuncId → List Value → Heap → Option (Value × Heap)} {rnd : Option Nat} {h h' h0 h1 h2 hs : Heap} {ops : Array Oper} {n i mem b : Nat} {fl : FL} {K : FL → Heap → Prop} {l : List Oper} {bs : List Nat} {segs : List (Nat × Nat × Nat)} {tail : Bool}
  {d : Tmp} {ty : TypeId} {pos : String} {after : Array Edge} {op : Op} {v : Value} {S S' S0 : List Nat} {ms : List Nat} {Q : Ex → Fr → Heap → Prop} {c : Code}

/-- A variable that is made, and will be written once. -/
def Pend (h : Heap) (lo : Nat) (S : List Nat) (p : Value) (m : Nat) : Prop := ∃ b e cs, p = .pointer (some ⟨b, 0, none⟩) ∧ lo ≤ b ∧ b ∉ S ∧ h.get b = some (.row e cs true false) ∧ cs.length = m
theorem Pend.keep {lo m : Nat} {p : Value} (hp : Pend h lo S p m) (ha : After h h') (hok : HOk h) : Pend h' lo S p m := by
  obtain ⟨b, e, cs, h1, h2, h3, h4, h5⟩ := hp
  exact ⟨b, e, cs, h1, h2, h3, by rw [ha.get b (hok b _ h4)]; exact h4, h5⟩
theorem Pend.inS {lo m : Nat} {p : Value} (hp : Pend h lo S p m) (hok : HOk h) (hS : ∀ b ∈ S', b < h.next) : ∀ b ∈ ownP p ++ S', b < h.next := by
  obtain ⟨b, e, cs, rfl, h2, h3, h4, h5⟩ := hp
  intro i hi
  rcases List.mem_append.1 hi with hi | hi
  · simp only [ownP, List.mem_singleton] at hi; subst hi; exact hok _ _ h4
  · exact hS i hi
theorem XO.allocP {e : TypeId} {z : Value} (hz : (P.info? e).bind (·.zero) = some z) (ha : af z = true) (ho : z.cells.toList.all oneCell = true) (hA : After h0 h) (hok0 : HOk h0) (hS : ∀ b ∈ S, b < h.next) (hn : Nat.blt d n = true) (h4 : Nat.ble n 4000 = true)
    (hk : ∀ p h', Pend h' h0.next S p z.cells.toList.length → After h h' → Goes h S h' (ownP p ++ S) → XO P orc ops n l ((d, p) :: fl) h' K) : XO P orc ops n (⟨some d, .alloc e, ty, pos, after, none⟩ :: l) fl h K :=
  XO.mk (.alloc hz ha ho) hn h4 (hk _ _ ⟨h.next, e, z.cells.toList, rfl, hA.next, fun hm => by have := hS _ hm; omega, by rw [Heap.get_push, if_pos rfl], rfl⟩ (After.push h _) (BoxR.new hA hok0).2.2)
theorem splice_all {cs us : List Value} (hl : us.length = cs.length) : splice cs 0 us = us := by
  unfold splice
  rw [List.take_zero, List.nil_append, Nat.zero_add, hl, List.drop_length, List.append_nil]
theorem XO.stP {T : TypeId} {x y : Operand} {u p : Value} {τ : Ty} {w : τ.den} (hx : evL fl x = some p) (hy : evL fl y = some u) (hp : Pend h h0.next S p τ.size) (hu : RepV h (ownP p ++ S) τ u w) (hT : ValT P T τ) (hA : After h0 h)
    (hk : ∀ h', RepP h' S τ p w → After h0 h' → Goes h (ownP p ++ S) h' S → h'.next = h.next → (∀ b ∈ S, h'.get b = h.get b) → XO P orc ops n l fl h' K) : XO P orc ops n (⟨none, .store T x y, ty, pos, after, none⟩ :: l) fl h K := by
  obtain ⟨b, e, cs, rfl, h2, h3, h4, h5⟩ := hp
  obtain ⟨i, hi, hs⟩ := hT.info
  have hul : u.cells.toList.length = τ.size := hu.2.len
  have hst : fsStore P T (.pointer (some ⟨b, 0, none⟩)) u h = some (h.set b (.row e u.cells.toList true false)) := by
    have hsp : splice cs 0 u.cells.toList = u.cells.toList := splice_all (by omega)
    simp only [fsStore, h4, hi, hs, hul, hu.2.allOne]
    rw [if_pos ⟨trivial, by omega, trivial⟩, hsp]
  have hG : Goes h (ownP (.pointer (some ⟨b, 0, none⟩)) ++ S) (h.set b (.row e u.cells.toList true false)) S := fun c o hg hc => by
    simp only [ownP, List.cons_append, List.nil_append, List.mem_cons, not_or] at hc
    exact ⟨by rw [Heap.get_set h4, if_neg hc.1]; exact hg, hc.2⟩
  refine XO.st hx hy hst (hk _ ⟨b, 0, e, u.cells.toList, true, false, rfl, h3, by rw [Heap.get_set h4, if_pos rfl], by omega, ?_⟩ (hA.set h4 h2) hG rfl fun c hc => ?_)
  · rw [List.drop_zero, List.take_of_length_le (by omega)]
    exact hu.2.nx hG
  · rw [Heap.get_set h4, if_neg (fun e => h3 (by subst e; exact hc))]

/-- The function's own slices, as the heap goes on. -/
theorem GrowR.up {lo : Nat} {e : TypeId} {m : Bool} {τ : Ty} {v : Value} {xs : List τ.den} (hg : GrowR h S lo e m τ v xs) (ha : After h h') (hok : HOk h) (hN : Goes h S h' S') (hs : ∀ b ∈ ownB v, b ∈ S') : GrowR h' S' lo e m τ v xs := by
  rcases hg with hg | ⟨b, rs, h1, h2, rfl, h4, h5⟩
  · exact .inl hg
  · exact .inr ⟨b, rs, hs b (by simp [ownB]), h2, rfl, by rw [ha.get b (hok b _ h4)]; exact h4, h5.nx hN⟩
theorem GrowR.chg {lo : Nat} {e : TypeId} {m : Bool} {τ : Ty} {v : Value} {xs : List τ.den} (hg : GrowR h S lo e m τ v xs) (hget : ∀ b ∈ ownB v, h'.get b = h.get b) (hN : Goes h S h' S') (hs : ∀ b ∈ ownB v, b ∈ S') : GrowR h' S' lo e m τ v xs := by
  rcases hg with hg | ⟨b, rs, h1, h2, rfl, h4, h5⟩
  · exact .inl hg
  · exact .inr ⟨b, rs, hs b (by simp [ownB]), h2, rfl, by rw [hget b (by simp [ownB])]; exact h4, h5.nx hN⟩

/-! ## 'make([]T, n)', and elements that are written -/
theorem zeros1 {z : Value} (hz : z.cells.size = 1) (n : Nat) : zeros z n = List.replicate n (z.cells[0]'(by omega)) := by
  unfold zeros
  rw [show n * z.cells.size = n by rw [hz, Nat.mul_one]]
  refine List.ext_getElem (by simp) fun i h1 h2 => ?_
  simp only [List.getElem_map, List.getElem_range, List.getElem_replicate]
  have h3 : i % z.cells.size = 0 := by rw [hz, Nat.mod_one]
  simp only [h3]
  rw [getElem!_pos z.cells 0 (by omega)]
theorem elems_replicate {τ : Ty} {u : Value} {x : τ.den} (h1 : τ.size = 1) (hx : RepC h S τ [u] x) (n : Nat) : Elems h S τ (List.replicate n u) (List.replicate n x) := by
  refine ⟨by simp [h1], fun i hi => ?_⟩
  have hi' : i < n := by simpa using hi
  rw [h1, Nat.mul_one, take_one (by simpa using hi'), List.getElem_replicate, List.getElem_replicate]
  exact hx
theorem GrowR.made {T e : TypeId} {τ : Ty} (hT : ElT P T e τ) (h1 : τ.size = 1) {u : Value} {x0 : τ.den} (hz : (P.info? e).bind (·.zero) = some u) (hu : u.cells = #[u]) (hx : ∀ (h : Heap) (S : List Nat), RepC h S τ [u] x0) {k : Nat} (hk : k ≤ 1000000) (hA : After h0 h) (hok0 : HOk h0) :
    ∃ v h', fsMakeSlice P T (.int .i64 (k : Nat)) (.int .i64 (k : Nat)) h = some (v, h') ∧ GrowR h' (ownB v ++ S) h0.next e false τ v (List.replicate k x0) ∧ After h h' ∧ Goes h S h' (ownB v ++ S) := by
  obtain ⟨i, z, hi1, hi2, hi3, hi3', hi4, hi5, hi6⟩ := hT.sl.info
  have hok := hA.ok hok0
  have hzu : z = u := by
    rw [hi1] at hz
    simp only [Option.bind_some, hi4, Option.some.injEq] at hz
    exact hz
  subst hzu
  have hz0 : z.cells[0]'(by rw [hi5, h1]; omega) = z := by simp [hu]
  refine ⟨.slice (some ⟨h.next, 0, none⟩) k 0, h.push (.row e (zeros z k) true false), ?_, .inr ⟨h.next, zeros z k, mem_own, hA.next, by simp, by rw [Heap.get_push, if_pos rfl], ?_⟩, After.push h _, fun b o hg hb => ?_⟩
  · unfold fsMakeSlice
    simp only [hT.sl.sl, hi1, hi4]
    have hb : i.bytes * k ≤ 1099511627776 := by
      have := Nat.mul_le_mul hi3' hk
      omega
    have hc : (decide (0 ≤ ((k : Nat) : Int)) && decide (((k : Nat) : Int) ≤ ((k : Nat) : Int)) && decide (((k : Nat) : Int) ≤ 1099511627776) && Nat.ble (i.bytes * ((k : Nat) : Int).toNat) 1099511627776 && Nat.blt 0 i.size && Nat.beq z.cells.size i.size && z.cells.toList.all af0) = true := by
      have e1 : Nat.ble (i.bytes * ((k : Nat) : Int).toNat) 1099511627776 = true := by rw [Nat.ble_eq, Int.toNat_natCast]; exact hb
      have e2 : Nat.blt 0 i.size = true := by show Nat.ble 1 i.size = true; rw [Nat.ble_eq, hi2, h1]; exact Nat.le_refl _
      rw [e1, e2, hi5, hi2, Nat.beq_refl, hi6]
      simp
      omega
    rw [hc]
    rfl
  · have := elems_replicate (h := h.push (.row e (zeros z k) true false)) (S := ownB (.slice (some ⟨h.next, 0, none⟩) k 0) ++ S) h1 (hx _ _) k
    rw [zeros1 (by omega), hz0]
    rw [zeros1 (by omega), hz0] at this
    exact this
  · have := hok b o hg
    refine ⟨by rw [Heap.get_push, if_neg (by omega)]; exact hg, ?_⟩
    simp only [ownB, List.cons_append, List.nil_append, List.mem_cons, not_or]
    exact ⟨by omega, hb⟩

theorem elems_set {τ : Ty} {rs us : List Value} {xs : List τ.den} {x : τ.den} {j : Nat} (he : Elems h S τ rs xs) (hj : j < xs.length) (hx : RepC h S τ us x) : Elems h S τ (splice rs (j * τ.size) us) (xs.set j x) := by
  have hul := hx.len
  have hrl := he.1
  have hjs : (j + 1) * τ.size ≤ xs.length * τ.size := Nat.mul_le_mul_right _ hj
  rw [Nat.add_mul, Nat.one_mul] at hjs
  have hl1 : (rs.take (j * τ.size)).length = j * τ.size := by rw [List.length_take]; omega
  refine ⟨?_, fun i hi => ?_⟩
  · unfold splice
    rw [List.length_append, List.length_append, hl1, List.length_drop, List.length_set]
    omega
  · rw [List.length_set] at hi
    have hold := he.2 i hi
    unfold splice
    rw [List.append_assoc]
    by_cases h1 : i < j
    · have h2 : (i + 1) * τ.size ≤ j * τ.size := Nat.mul_le_mul_right _ h1
      rw [Nat.add_mul, Nat.one_mul] at h2
      rw [List.getElem_set_ne (by omega), List.drop_append_of_le_length (by omega), List.take_append_of_le_length (by rw [List.length_drop]; omega), List.drop_take, List.take_take, Nat.min_eq_left (by omega)]
      exact hold
    · by_cases h2 : i = j
      · subst h2
        have e1 : (rs.take (i * τ.size) ++ (us ++ rs.drop (i * τ.size + us.length))).drop (i * τ.size) = us ++ rs.drop (i * τ.size + us.length) := by
          have := List.drop_left' (l₂ := us ++ rs.drop (i * τ.size + us.length)) hl1
          exact this
        rw [e1, List.getElem_set_self, List.take_left' hul]
        exact hx
      · have h3 : (j + 1) * τ.size ≤ i * τ.size := Nat.mul_le_mul_right _ (by omega)
        rw [Nat.add_mul, Nat.one_mul] at h3
        have e1 : (rs.take (j * τ.size) ++ (us ++ rs.drop (j * τ.size + us.length))).drop (i * τ.size) = rs.drop (i * τ.size) := by
          rw [List.drop_append, List.drop_eq_nil_of_le (by omega), List.nil_append, hl1, List.drop_append, List.drop_eq_nil_of_le (by omega), List.nil_append, List.drop_drop]
          congr 1
          omega
        rw [e1, List.getElem_set_ne (by omega)]
        exact hold
theorem GrowR.own {lo : Nat} {e : TypeId} {m : Bool} {τ : Ty} {v : Value} {xs : List τ.den} (hg : GrowR h S lo e m τ v xs) (h0 : 0 < xs.length) : ∃ b rs, b ∈ S ∧ lo ≤ b ∧ v = .slice (some ⟨b, 0, none⟩) xs.length 0 ∧ h.get b = some (.row e rs true m) ∧ Elems h S τ rs xs := by
  rcases hg with ⟨rfl, rfl⟩ | hg
  · simp at h0
  · exact hg
theorem GrowR.ix {lo : Nat} {T e : TypeId} {m : Bool} {τ : Ty} {v : Value} {xs : List τ.den} (hg : GrowR h S lo e m τ v xs) (hT : ElT P T e τ) {j : Nat} (hj : j < xs.length) : runPure P (Instr.indexAt T v (.int .i64 (j : Nat))) = some (ptrAt v τ.size j) := by
  obtain ⟨b, rs, _, _, rfl, _, _⟩ := hg.own (by omega)
  obtain ⟨i, z, hinf, hsz, _⟩ := hT.sl.info
  unfold Instr.indexAt
  have h6 : (0 : Int) ≤ (j : Int) ∧ (j : Int) < (xs.length : Nat) := by omega
  simp only [runPure_bind, asIntOf, runPure_pure, Option.bind_some, runPure_underlying hT.sl.sl, if_pos h6, runPure_sizeOf hinf, hsz, add_none, Int.toNat_natCast, ptrAt]
theorem GrowR.ixZ {lo : Nat} {T e : TypeId} {m : Bool} {τ : Ty} {v : Value} {xs : List τ.den} (hg : GrowR h S lo e m τ v xs) (hT : ElT P T e τ) {z : Int} (h0 : 0 ≤ z) (hn : z < (xs.length : Nat)) : runPure P (Instr.indexAt T v (.int .i64 z)) = some (ptrAt v τ.size z.toNat) := by
  obtain ⟨j, rfl⟩ := Int.eq_ofNat_of_zero_le h0
  exact hg.ix hT (by omega)
/-- What is read of the function's own slice. -/
theorem GrowR.ld {lo : Nat} {e : TypeId} {m : Bool} {τ : Ty} {v : Value} {xs : List τ.den} (hg : GrowR h S lo e m τ v xs) (hT : ValT P e τ) {j : Nat} (hj : j < xs.length) : fsLoad P e (ptrAt v τ.size j) h = some (valAt h τ (ptrAt v τ.size j)) ∧ RepV h S τ (valAt h τ (ptrAt v τ.size j)) xs[j] := by
  obtain ⟨b, rs, _, _, rfl, h4, h5⟩ := hg.own (by omega)
  have hjs : (j + 1) * τ.size ≤ xs.length * τ.size := Nat.mul_le_mul_right _ hj
  rw [Nat.add_mul, Nat.one_mul] at hjs
  have hrl := h5.1
  obtain ⟨i, hi, hs⟩ := hT.info
  obtain ⟨d, hd, ha⟩ := hT.agg
  have hx := h5.2 j hj
  simp only [fsLoad, valAt, ptrAt, h4, hd, hi, ha, hs, Nat.zero_add]
  cases hb : τ.agg with
  | true =>
    simp only [if_true, show j * τ.size + τ.size ≤ rs.length by omega]
    exact ⟨trivial, by simpa [isAggV] using hb.symm, by simpa [Value.cells] using hx⟩
  | false =>
    have h1 := Ty.size_one hb
    rw [h1] at hx hjs hrl ⊢
    have ho : j * 1 < rs.length := by omega
    rw [take_one ho] at hx
    obtain ⟨u, hu, hv⟩ := hx.one hb
    simp only [List.cons.injEq, and_true] at hu
    simp only [Bool.false_eq_true, if_false, List.getD_eq_getElem?_getD, List.getElem?_eq_getElem ho, Option.getD_some]
    exact ⟨trivial, by rw [hu]; exact hv⟩
theorem GrowR.ldInt {lo : Nat} {e : TypeId} {m : Bool} {k : IntKind} {v : Value} {xs : List Int} (hg : GrowR h S lo e m (.int k) v xs) (hT : ValT P e (.int k)) {j : Nat} (hj : j < xs.length) : fsLoad P e (ptrAt v 1 j) h = some (.int k xs[j]) := by
  obtain ⟨h1, h2⟩ := hg.ld hT hj
  rw [show ptrAt v 1 j = ptrAt v (Ty.int k).size j from rfl, h1, h2.int]
/-- What is written into it. -/
theorem GrowR.set {e : TypeId} {m : Bool} {τ : Ty} {v u : Value} {xs : List τ.den} {x : τ.den} (hg : GrowR h S h0.next e m τ v xs) (hT : ValT P e τ) {j : Nat} (hj : j < xs.length) (hu : RepV h S τ u x) (hA : After h0 h) (hok : HOk h) :
    ∃ h', fsStore P e (ptrAt v τ.size j) u h = some h' ∧ GrowR h' S h0.next e m τ v (xs.set j x) ∧ After h0 h' ∧ Goes h S h' S ∧ h'.next = h.next ∧ (∀ b, b ∉ ownB v → h'.get b = h.get b) ∧ h'.low < h.next := by
  obtain ⟨b, rs, hbS, hlo, rfl, h4, h5⟩ := hg.own (by omega)
  have hjs : (j + 1) * τ.size ≤ xs.length * τ.size := Nat.mul_le_mul_right _ hj
  rw [Nat.add_mul, Nat.one_mul] at hjs
  have hrl := h5.1
  obtain ⟨i, hi, hs⟩ := hT.info
  have hul : u.cells.toList.length = τ.size := hu.2.len
  have hG : Goes h S (h.set b (.row e (splice rs (j * τ.size) u.cells.toList) true m)) S := fun c o hg hc => ⟨by rw [Heap.get_set h4, if_neg (fun e => hc (by rw [e]; exact hbS))]; exact hg, hc⟩
  refine ⟨h.set b (.row e (splice rs (j * τ.size) u.cells.toList) true m), ?_, .inr ⟨b, splice rs (j * τ.size) u.cells.toList, hbS, hlo, by rw [List.length_set], by rw [Heap.get_set h4, if_pos rfl], (elems_set h5 hj hu.2).nx hG⟩, hA.set h4 hlo, hG, rfl, fun c hc => ?_, ?_⟩
  · simp only [fsStore, ptrAt, h4, hi, hs, hul, hu.2.allOne, Nat.zero_add]
    rw [if_pos ⟨trivial, by omega, trivial⟩]
  · rw [Heap.get_set h4, if_neg (fun e => hc (by subst e; simp [ownB]))]
  · have := hok b _ h4
    show min h.low b < h.next
    omega

/-! ## Closures -/
theorem evList_ok {t : Tr} (ht : TrIs fl t) {l : List Operand} {vs : List Value} (h : evA fl l = some vs) : l.map (evalO t) = vs := evA_ok ht l vs h
theorem StepC.func {f : FuncId} {a c : Array Operand} {us vs : List Value} (ha : evA fl a.toList = some us) (hc : evA fl c.toList = some vs) : StepC P fl (.makeFunc (.func f) a c) (.func (.func f) us.toArray vs.toArray) :=
  ⟨rfl, fun t ht _ _ _ _ _ h => by
    have e1 : a.map (evalO t) = us.toArray := by
      apply Array.toList_inj.1
      rw [Array.toList_map, evA_ok ht _ _ ha]
    have e2 : c.map (evalO t) = vs.toArray := by
      apply Array.toList_inj.1
      rw [Array.toList_map, evA_ok ht _ _ hc]
    show some (Value.func (.func f) (a.map (evalO t)) (c.map (evalO t)), h) = _
    rw [e1, e2]⟩

/-! ## Guards in drawn regions -/
theorem XD.splitD {x : Tmp} {p : Prop} {inst : Decidable p} (hc : lk fl x = some (.bool (@decide p inst))) (ht : p → XD P orc ops n l i ((x, .bool true) :: fl) h bs segs mem tail K) (hf : ¬ p → XD P orc ops n l i ((x, .bool false) :: fl) h bs segs mem tail K) : XD P orc ops n l i fl h bs segs mem tail K := by
  intro t hT
  have hs : ∀ v, lk fl x = some v → TrIs ((x, v) :: fl) t := fun v hv k u hk => by
    simp only [lk] at hk
    cases hb : Nat.beq x k with
    | true => rw [hb] at hk; simp only [cond_true, Option.some.injEq] at hk; subst hk; rw [← nbeq hb]; exact hT x _ hv
    | false => rw [hb] at hk; exact hT k u hk
  by_cases hp : p
  · rw [decide_eq_true hp] at hc; exact ht hp t (hs _ hc)
  · rw [decide_eq_false hp] at hc; exact hf hp t (hs _ hc)
theorem XD.splitB {x : Tmp} {r : Bool} (hc : lk fl x = some (.bool r)) (ht : r = true → XD P orc ops n l i ((x, .bool true) :: fl) h bs segs mem tail K) (hf : r = false → XD P orc ops n l i ((x, .bool false) :: fl) h bs segs mem tail K) : XD P orc ops n l i fl h bs segs mem tail K := by
  intro t hT
  have hs : ∀ v, lk fl x = some v → TrIs ((x, v) :: fl) t := fun v hv k u hk => by
    simp only [lk] at hk
    cases hb : Nat.beq x k with
    | true => rw [hb] at hk; simp only [cond_true, Option.some.injEq] at hk; subst hk; rw [← nbeq hb]; exact hT x _ hv
    | false => rw [hb] at hk; exact hT k u hk
  cases r with
  | true => exact ht rfl t (hs _ hc)
  | false => exact hf rfl t (hs _ hc)
theorem XD.skip {b j : Nat} {w r : Bool} {x : Tmp} (hj : (ops[j]?).bind (·.dst) = some x) (hb : lk fl x = some (.bool r)) (hw : (r == w) = false) (hbb : beforeOf bs ⟨some d, op, ty, pos, after, some (j, w)⟩ = b) (hn : Nat.blt d n = true) (h4 : Nat.ble n 4000 = true)
    (hk : XD P orc ops n l (i + 1) ((d, undef) :: fl) h (bs ++ [b]) segs mem tail K) : XD P orc ops n (⟨some d, op, ty, pos, after, some (j, w)⟩ :: l) i fl h bs segs mem tail K := fun t ht => by
  have hwt : fsWanted ops t ⟨some d, op, ty, pos, after, some (j, w)⟩ = some false := by rw [wanted_b ht rfl hj hb, hw]
  obtain ⟨t', h1, h2⟩ := put_ok (v := undef) hn h4 t ht
  refine EvD.op (s' := ⟨t', h, bs ++ [b], segs, mem, tail⟩) ?_ (hk t' h2)
  unfold fsDraw
  simp only [hwt, h1, Option.map_some, hbb]
theorem XD.skipU {b j : Nat} {w : Bool} {x : Tmp} (hj : (ops[j]?).bind (·.dst) = some x) (hb : lk fl x = some undef) (hbb : beforeOf bs ⟨some d, op, ty, pos, after, some (j, w)⟩ = b) (hn : Nat.blt d n = true) (h4 : Nat.ble n 4000 = true)
    (hk : XD P orc ops n l (i + 1) ((d, undef) :: fl) h (bs ++ [b]) segs mem tail K) : XD P orc ops n (⟨some d, op, ty, pos, after, some (j, w)⟩ :: l) i fl h bs segs mem tail K := fun t ht => by
  obtain ⟨t', h1, h2⟩ := put_ok (v := undef) hn h4 t ht
  refine EvD.op (s' := ⟨t', h, bs ++ [b], segs, mem, tail⟩) ?_ (hk t' h2)
  have hw : fsWanted ops t ⟨some d, op, ty, pos, after, some (j, w)⟩ = some false := by
    unfold fsWanted
    simp only [hj, ht x _ hb]
    rfl
  unfold fsDraw
  simp only [hw, h1, Option.map_some, hbb]
theorem XD.gc {b j : Nat} {w r : Bool} {x : Tmp} (hj : (ops[j]?).bind (·.dst) = some x) (hb : lk fl x = some (.bool r)) (hw : (r == w) = true) (hs : StepC P fl op v) (hbb : beforeOf bs ⟨some d, op, ty, pos, after, some (j, w)⟩ = b) (hn : Nat.blt d n = true) (h4 : Nat.ble n 4000 = true)
    (hk : XD P orc ops n l (i + 1) ((d, v) :: fl) h (bs ++ [b]) segs mem tail K) : XD P orc ops n (⟨some d, op, ty, pos, after, some (j, w)⟩ :: l) i fl h bs segs mem tail K := fun t ht => by
  have hwt : fsWanted ops t ⟨some d, op, ty, pos, after, some (j, w)⟩ = some true := by rw [wanted_b ht rfl hj hb, hw]
  obtain ⟨t', h1, h2⟩ := put_ok (v := v) hn h4 t ht
  refine EvD.op (s' := ⟨t', h, bs ++ [b], segs, mem, tail⟩) ?_ (hk t' h2)
  unfold fsDraw
  simp only [hwt, hs.1, if_true, hs.2 t ht, Nat.beq_refl, cond_true, h1, Option.map_some, hbb]
theorem XD.ga {b j : Nat} {w r : Bool} {x : Tmp} (hj : (ops[j]?).bind (·.dst) = some x) (hb : lk fl x = some (.bool r)) (hw : (r == w) = true) (hc : calm op = false) (hs : StepA P fl op v) (hbb : beforeOf bs ⟨some d, op, ty, pos, after, some (j, w)⟩ = b) (htl : (tail && !Nat.beq (mem &&& b) mem) = false) (hn : Nat.blt d n = true) (h4 : Nat.ble n 4000 = true)
    (hk : XD P orc ops n l (i + 1) ((d, v) :: fl) h (bs ++ [b]) ((i, h.next, h.next) :: segs) (mem ||| 2 ^ i) tail K) : XD P orc ops n (⟨some d, op, ty, pos, after, some (j, w)⟩ :: l) i fl h bs segs mem tail K := fun t ht => by
  have hwt : fsWanted ops t ⟨some d, op, ty, pos, after, some (j, w)⟩ = some true := by rw [wanted_b ht rfl hj hb, hw]
  obtain ⟨t', h1, h2⟩ := put_ok (v := v) hn h4 t ht
  refine EvD.op (s' := ⟨t', h, bs ++ [b], (i, h.next, h.next) :: segs, mem ||| 2 ^ i, tail⟩) ?_ (hk t' h2)
  unfold fsDraw
  simp only [hwt, hc, Bool.false_eq_true, if_false, hbb, htl, cond_false, hs t ht, blt_refl', h1, ble_refl', cond_true, newer_same, List.nil_append]
theorem XD.gld {b j : Nat} {w r : Bool} {xx : Tmp} {T : TypeId} {x : Operand} {u : Value} (hj : (ops[j]?).bind (·.dst) = some xx) (hb : lk fl xx = some (.bool r)) (hw : (r == w) = true) (hA : After hs h) (hsg : SegsOk hs segs) (hok : HOk hs) (hx : evL fl x = some u) (hv : fsLoad P T u hs = some v)
    (hbb : beforeOf bs ⟨some d, .load T x, ty, pos, after, some (j, w)⟩ = b) (htl : (tail && !Nat.beq (mem &&& b) mem) = false) (hn : Nat.blt d n = true) (h4 : Nat.ble n 4000 = true)
    (hk : XD P orc ops n l (i + 1) ((d, v) :: fl) h (bs ++ [b]) ((i, h.next, h.next) :: segs) (mem ||| 2 ^ i) tail K) : XD P orc ops n (⟨some d, .load T x, ty, pos, after, some (j, w)⟩ :: l) i fl h bs segs mem tail K := fun t ht => by
  have hwt : fsWanted ops t ⟨some d, .load T x, ty, pos, after, some (j, w)⟩ = some true := by rw [wanted_b ht rfl hj hb, hw]
  obtain ⟨t', h1, h2⟩ := put_ok (v := v) hn h4 t ht
  refine EvD.op (s' := ⟨t', h, bs ++ [b], (i, h.next, h.next) :: segs, mem ||| 2 ^ i, tail⟩) ?_ (hk t' h2)
  have hv' : fsLoad P T (evalO t x) { next := h.next, low := h.next, objs := bif Nat.beq (mem &&& b) mem then h.objs else mask b segs h.objs } = some v := by
    rw [evL_ok ht hx]
    cases Nat.beq (mem &&& b) mem with
    | true => exact fsLoad_after (h := entry h) ⟨hA.next, hA.get, hA.ok, fun e h1 h2 => Nat.le_trans h2 hA.next⟩ hok hv
    | false => exact fsLoad_msk hA hsg hok hv
  unfold fsDraw
  have hs : stepO P ⟨some d, .load T x, ty, pos, after, some (j, w)⟩ (evalO t) { next := h.next, low := h.next, objs := bif Nat.beq (mem &&& b) mem then h.objs else mask b segs h.objs } = some (v, { next := h.next, low := h.next, objs := bif Nat.beq (mem &&& b) mem then h.objs else mask b segs h.objs }) := by
    show (fsLoad P T (evalO t x) _).map _ = _
    rw [hv']; rfl
  simp only [hwt, show calm (Op.load T x) = false from rfl, Bool.false_eq_true, if_false, hbb, htl, cond_false, hs, blt_refl', h1, ble_refl', cond_true, newer_same, List.nil_append]
theorem XD.gcallV {jj : Nat} {w r : Bool} {xx : Tmp} {f : Operand} {args : Array Operand} {ats : Array TypeId} {g : FuncId} {a c : Array Value} {vs : List Value} {bb : Nat} (hj : (ops[jj]?).bind (·.dst) = some xx) (hb' : lk fl xx = some (.bool r)) (hw : (r == w) = true) (hA : After hs h) (hsg : SegsOk hs segs)
    (hf : evL fl f = some (.func (.func g) a c)) (ha : evA fl args.toList = some vs)
    (hb : beforeOf bs ⟨some d, .call { callee := .value f, args := args, argTypes := ats }, ty, pos, after, some (jj, w)⟩ = bb) (htl : (tail && !Nat.beq (mem &&& bb) mem) = false) (hn : Nat.blt d n = true) (h4 : Nat.ble n 4000 = true)
    (hc : ∀ M, After hs M → (Nat.beq (mem &&& bb) mem = true → M = entry h) → EvF P orc g (a.toList ++ vs ++ c.toList) M fun v h' => h' = M ∧ XD P orc ops n l (i + 1) ((d, v) :: fl) h (bs ++ [bb]) ((i, h.next, h.next) :: segs) (mem ||| 2 ^ i) tail K) :
    XD P orc ops n (⟨some d, .call { callee := .value f, args := args, argTypes := ats }, ty, pos, after, some (jj, w)⟩ :: l) i fl h bs segs mem tail K := fun t ht => by
  have hwt : fsWanted ops t ⟨some d, .call { callee := .value f, args := args, argTypes := ats }, ty, pos, after, some (jj, w)⟩ = some true := by rw [wanted_b ht rfl hj hb', hw]
  refine EvD.call (o := ⟨some d, .call { callee := .value f, args := args, argTypes := ats }, ty, pos, after, some (jj, w)⟩) hwt rfl rfl (evL_ok ht hf) (by simp only [hb]; exact htl) ?_
  have hM : ∃ M, seenBy ⟨some d, .call { callee := .value f, args := args, argTypes := ats }, ty, pos, after, some (jj, w)⟩ ⟨t, h, bs, segs, mem, tail⟩ = M ∧ After hs M ∧ (Nat.beq (mem &&& bb) mem = true → M = entry h) ∧ M.next = h.next ∧ M.low = h.next := by
    refine ⟨_, rfl, ?_, ?_, rfl, rfl⟩
    · unfold seenBy
      simp only [hb]
      cases Nat.beq (mem &&& bb) mem with
      | true => exact ⟨hA.next, hA.get, hA.ok, fun e h1 h2 => Nat.le_trans h2 hA.next⟩
      | false => exact msk_after hA hsg
    · intro ho
      unfold seenBy entry
      simp only [hb, ho, cond_true]
  obtain ⟨M, hM1, hM2, hM3, hM4, hM5⟩ := hM
  rw [hM1, evA_ok ht _ _ ha]
  refine (hc M hM2 hM3).mono fun v h' hx => ?_
  obtain ⟨rfl, hx⟩ := hx
  obtain ⟨t', h1, h2⟩ := put_ok (v := v) hn h4 t ht
  have hlow : Nat.ble h.next h'.low = true := by rw [Nat.ble_eq]; omega
  refine ⟨by rw [hM4]; exact blt_refl' _, by simp only [hlow, Bool.true_or], t', h1, ?_⟩
  have hd : drewOn ⟨some d, .call { callee := .value f, args := args, argTypes := ats }, ty, pos, after, some (jj, w)⟩ i ⟨t, h, bs, segs, mem, tail⟩ t' h' = ⟨t', h, bs ++ [bb], (i, h.next, h.next) :: segs, mem ||| 2 ^ i, tail⟩ := by
    unfold drewOn
    simp only [hlow, cond_true, hM4, newer_same, List.nil_append, hb]
  rw [hd]
  exact hx t' h2

theorem BoxR.chg {lo : Nat} {p : Value} {cs : List Value} (hb : BoxR h lo p cs) (hg : ∀ b ∈ ownP p, h'.get b = h.get b) : BoxR h' lo p cs := by
  obtain ⟨b, e, rfl, h2, h3⟩ := hb
  exact ⟨b, e, rfl, h2, by rw [hg b (by simp [ownP])]; exact h3⟩

/-! ## Parts of a slice -/
theorem SlV.cut {T e : TypeId} {τ : Ty} (hT : ElT P T e τ) {v : Value} {xs : List τ.den} (hv : SlV h S τ v xs) {a b : Int} (h0 : 0 ≤ a ∧ a ≤ b ∧ b ≤ (xs.length : Nat)) :
    ∃ w, (∀ nn ll, fsSlice P T v (some (.int .i64 a)) (some (.int .i64 b)) none { next := nn, low := ll, objs := h.objs } = some w) ∧ SlV h S τ w ((xs.take b.toNat).drop a.toNat) := by
  obtain ⟨i, z, hinf, hsz, _⟩ := hT.sl.info
  obtain ⟨a', rfl⟩ := Int.eq_ofNat_of_zero_le h0.1
  obtain ⟨b', rfl⟩ := Int.eq_ofNat_of_zero_le (show 0 ≤ b by omega)
  have hb : b' ≤ xs.length := by omega
  have hab : a' ≤ b' := by omega
  simp only [Int.toNat_natCast]
  rcases hv with ⟨rfl, rfl⟩ | ⟨bl, o, mk, rfl, h2⟩
  · have : a' = 0 ∧ b' = 0 := by simp at hb; omega
    obtain ⟨rfl, rfl⟩ := this
    refine ⟨.slice none 0 0, fun nn ll => ?_, .inl ⟨rfl, rfl⟩⟩
    simp [fsSlice, hT.sl.sl, boundOf, hinf]
  · have e1 : Nat.ble a' b' = true := by rw [Nat.ble_eq]; exact hab
    have e2 : Nat.ble b' xs.length = true := by rw [Nat.ble_eq]; exact hb
    have hl : ((xs.take b').drop a').length = b' - a' := by simp; omega
    by_cases hab' : a' < b' ∨ a' = 0
    · refine ⟨.slice (some ⟨bl, o + a' * τ.size, none⟩) (b' - a') (bif Nat.beq mk 1 then (bif Nat.beq b' xs.length then 1 else 2) else markOf e bl a' mk h), fun nn ll => ?_, ?_⟩
      · have hmk : markOf e bl a' mk { next := nn, low := ll, objs := h.objs } = markOf e bl a' mk h := rfl
        have hcut : (Nat.blt a' b' || Nat.beq a' 0) = true := by
          rcases hab' with h3 | rfl
          · have : Nat.blt a' b' = true := by show Nat.ble (a' + 1) b' = true; rw [Nat.ble_eq]; exact h3
            rw [this]; rfl
          · simp
        simp only [fsSlice, hT.sl.sl, hinf, boundOf, Int.natCast_nonneg, if_true, Int.toNat_natCast, e1, e2, Bool.and_self, cond_true, cutAt, hcut, hsz, hmk]
      · refine .inr ⟨bl, o + a' * τ.size, _, by rw [hl], ?_⟩
        by_cases hz : a' = b'
        · left; exact List.eq_nil_of_length_eq_zero (by omega)
        · right
          rcases h2 with rfl | ⟨h2, e', rs, own, more, h3, h4, h5⟩
          · simp at hb; omega
          · have hbs : b' * τ.size ≤ xs.length * τ.size := Nat.mul_le_mul_right _ hb
            have habs : a' * τ.size + (b' - a') * τ.size = b' * τ.size := by rw [← Nat.add_mul]; congr 1; omega
            refine ⟨h2, e', rs, own, more, h3, by rw [hl]; omega, fun i hi => ?_⟩
            rw [hl] at hi
            have := h5 (a' + i) (by omega)
            rw [List.getElem_drop, List.getElem_take]
            rwa [Nat.add_mul, ← Nat.add_assoc] at this
    · have hab2 : a' = b' := by omega
      subst hab2
      refine ⟨.slice (some ⟨0, 0, none⟩) 0 2, fun nn ll => ?_, .inr ⟨0, 0, 2, by rw [hl]; simp, .inl (List.eq_nil_of_length_eq_zero (by omega))⟩⟩
      have hcut : (Nat.blt a' a' || Nat.beq a' 0) = false := by
        rw [blt_refl', beq_no (by omega)]; rfl
      simp only [fsSlice, hT.sl.sl, hinf, boundOf, Int.natCast_nonneg, if_true, Int.toNat_natCast, e1, e2, Bool.and_self, cond_true, cutAt, hcut, cond_false]
theorem StepR.slice {T : TypeId} {x lo hi : Operand} {u a b w : Value} (hx : evL fl x = some u) (hl : evL fl lo = some a) (hh : evL fl hi = some b) (hv : ∀ nn ll, fsSlice P T u (some a) (some b) none { next := nn, low := ll, objs := h.objs } = some w) : StepR P fl h (.slice T x (some lo) (some hi) none) w :=
  ⟨rfl, fun t ht _ _ _ _ _ n l => by
    show (fsSlice P T (evalO t x) (some (evalO t lo)) (some (evalO t hi)) none { next := n, low := l, objs := h.objs }).map _ = _
    rw [evL_ok ht hx, evL_ok ht hl, evL_ok ht hh, hv]; rfl⟩
theorem RepV.nil0 {τ : Ty} {v : Value} {x : τ.den} (hv : RepV h S τ v x) : RepV h [] τ v x := hv.nx (Goes.less fun _ hb => by cases hb)
theorem SlV.nil0 {τ : Ty} {v : Value} {xs : List τ.den} (hv : SlV h S τ v xs) : SlV h [] τ v xs := hv.nx (Goes.less fun _ hb => by cases hb)
theorem RepP.nil0 {τ : Ty} {p : Value} {x : τ.den} (hv : RepP h S τ p x) : RepP h [] τ p x := hv.nx (Goes.less fun _ hb => by cases hb)
theorem noS : ∀ b ∈ ([] : List Nat), b < h.next := fun _ hb => by cases hb
end Go.Fs
namespace Go.Fs
variable {P : Program} {fl : FL}

/-- A struct of two fields of int. -/
def iiB (P : Program) (T : TypeId) : Bool :=
  match P.underlying T with
  | some (.struct ⟨[f0, f1]⟩) => !P.stoodInHeld T && !P.eqGuardType P.depth T && !(f0.name == "_") && !(f1.name == "_") && Nat.beq f0.offset 0 && Nat.beq f1.offset 1 &&
      (match P.underlying f0.type with | some (.int .i64) => true | _ => false) && (match P.underlying f1.type with | some (.int .i64) => true | _ => false)
  | _ => false
theorem iiB_inv {T : TypeId} (h : iiB P T = true) : ∃ f0 f1 : Field, P.underlying T = some (.struct #[f0, f1]) ∧ P.stoodInHeld T = false ∧ P.eqGuardType P.depth T = false ∧ f0.name ≠ "_" ∧ f1.name ≠ "_" ∧ f0.offset = 0 ∧ f1.offset = 1 ∧ P.underlying f0.type = some (.int .i64) ∧ P.underlying f1.type = some (.int .i64) := by
  unfold iiB at h
  split at h
  · rename_i f0 f1 hu
    obtain ⟨h, h8⟩ := band h
    obtain ⟨h, h7⟩ := band h
    obtain ⟨h, h6⟩ := band h
    obtain ⟨h, h5⟩ := band h
    obtain ⟨h, h4⟩ := band h
    obtain ⟨h, h3⟩ := band h
    obtain ⟨h1, h2⟩ := band h
    refine ⟨f0, f1, hu, by simpa using h1, by simpa using h2, by simpa using h3, by simpa using h4, nbeq h5, nbeq h6, ?_, ?_⟩
    · split at h7
      · assumption
      · cases h7
    · split at h8
      · assumption
      · cases h8
  · cases h
theorem runPure_program : runPure P program = some P := rfl
theorem runPure_isAgg {t : TypeId} (h : P.underlying t = some (.int .i64)) : runPure P (isAgg t) = some false := by
  unfold isAgg
  rw [runPure_bind, runPure_underlying h]
  rfl
theorem runPure_part {t : TypeId} (h : P.underlying t = some (.int .i64)) {cs : Array Value} {o : Nat} {v : Value} (hv : cs[o]? = some v) : runPure P (part t cs o) = some v := by
  unfold part
  rw [runPure_bind, runPure_isAgg h]
  simp only [Option.bind_some, Bool.false_eq_true, if_false, hv]
  rfl
theorem equal_int {t : TypeId} (h : P.underlying t = some (.int .i64)) (d : Nat) (a c : Int) : runPure P (Op.equalIn (d + 1) t (.int .i64 a) (.int .i64 c)) = some (decide (a = c)) := by
  unfold Op.equalIn
  rw [runPure_bind, runPure_underlying h]
  show some (a == c) = _
  by_cases hac : a = c <;> simp [hac]
theorem equal_ii {T : TypeId} (h : iiB P T = true) (a b c d : Int) : runPure P (Op.equal T (.agg #[.int .i64 a, .int .i64 b]) (.agg #[.int .i64 c, .int .i64 d])) = some (decide (a = c) && decide (b = d)) := by
  obtain ⟨f0, f1, hu, hs, _, n0, n1, o0, o1, u0, u1⟩ := iiB_inv h
  unfold Op.equal
  show runPure P (Op.equalIn (9998 + 1 + 1) T _ _) = _
  have e0 := equal_int u0 9998 a c
  have e1 := equal_int u1 9998 b d
  have p0 : runPure P (part f0.type #[.int .i64 a, .int .i64 b] 0) = some (.int .i64 a) := runPure_part u0 rfl
  have p1 : runPure P (part f0.type #[.int .i64 c, .int .i64 d] 0) = some (.int .i64 c) := runPure_part u0 rfl
  have p2 : runPure P (part f1.type #[.int .i64 a, .int .i64 b] 1) = some (.int .i64 b) := runPure_part u1 rfl
  have p3 : runPure P (part f1.type #[.int .i64 c, .int .i64 d] 1) = some (.int .i64 d) := runPure_part u1 rfl
  rw [Op.equalIn]
  rw [runPure_bind, runPure_underlying hu]
  simp only [Option.bind_some, runPure_bind, runPure_program, hs, Bool.false_eq_true, if_false]
  simp only [← Array.forIn_toList, List.forIn_cons, List.forIn_nil, runPure_bind, n0, n1, ne_eq, not_false_eq_true, if_true, o0, o1, p0, p1, p2, p3, e0, e1, Option.bind_some]
  have e1' : runPure P (Op.equalIn 9999 f1.type (.int .i64 b) (.int .i64 d)) = some (decide (b = d)) := e1
  by_cases hac : a = c
  · subst hac
    by_cases hbd : b = d
    · subst hbd
      simp [runPure_bind, p2, e1', runPure_pure]
    · simp [runPure_bind, p2, p3, e1', hbd, runPure_pure]
  · simp [hac, runPure_bind, runPure_pure]
theorem StepC.neII {T T' : TypeId} {x y : Operand} {a b c d : Int} (h : iiB P T = true) (hx : evL fl x = some (.agg #[.int .i64 a, .int .i64 b])) (hy : evL fl y = some (.agg #[.int .i64 c, .int .i64 d])) : StepC P fl (.binOp .neq T x y T') (.bool (decide ((a, b) ≠ (c, d)))) := by
  obtain ⟨f0, f1, hu, hs, hg, n0, n1, o0, o1, u0, u1⟩ := iiB_inv h
  refine StepC.bin hx hy rfl ?_
  show (runPure P (do eqGuard .neq T x y _ _; binOp .neq T _ _)).bind _ = _
  have he : runPure P (eqGuard .neq T x y (.agg #[.int .i64 a, .int .i64 b]) (.agg #[.int .i64 c, .int .i64 d])) = some () := by
    unfold eqGuard
    simp [runPure_bind, runPure_program, hg, runPure_pure]
  have hb : runPure P (binOp .neq T (.agg #[.int .i64 a, .int .i64 b]) (.agg #[.int .i64 c, .int .i64 d])) = some (.bool (!(decide (a = c) && decide (b = d)))) := by
    unfold binOp
    simp only [runPure_bind, equal_ii h, Option.bind_some, runPure_pure]
  rw [runPure_bind, he]
  simp only [Option.bind_some, hb]
  by_cases hac : a = c <;> by_cases hbd : b = d <;> simp [hac, hbd, af, af1, af0]
theorem StepC.eqII {T T' : TypeId} {x y : Operand} {a b c d : Int} (h : iiB P T = true) (hx : evL fl x = some (.agg #[.int .i64 a, .int .i64 b])) (hy : evL fl y = some (.agg #[.int .i64 c, .int .i64 d])) : StepC P fl (.binOp .eql T x y T') (.bool (decide ((a, b) = (c, d)))) := by
  obtain ⟨f0, f1, hu, hs, hg, n0, n1, o0, o1, u0, u1⟩ := iiB_inv h
  refine StepC.bin hx hy rfl ?_
  show (runPure P (do eqGuard .eql T x y _ _; binOp .eql T _ _)).bind _ = _
  have he : runPure P (eqGuard .eql T x y (.agg #[.int .i64 a, .int .i64 b]) (.agg #[.int .i64 c, .int .i64 d])) = some () := by
    unfold eqGuard
    simp [runPure_bind, runPure_program, hg, runPure_pure]
  have hb : runPure P (binOp .eql T (.agg #[.int .i64 a, .int .i64 b]) (.agg #[.int .i64 c, .int .i64 d])) = some (.bool (decide (a = c) && decide (b = d))) := by
    unfold binOp
    simp only [runPure_bind, equal_ii h, Option.bind_some, runPure_pure]
  rw [runPure_bind, he]
  simp only [Option.bind_some, hb]
  by_cases hac : a = c <;> by_cases hbd : b = d <;> simp [hac, hbd, af, af1, af0]
end Go.Fs
namespace Go.Fs
variable {P : Program} {orc : FuncId → List Value → Heap → Option (Value × Heap)} {h h' h0 : Heap} {fl : FL} {op : Op} {v : Value} {S S' S0 : List Nat} {ops : Array Oper} {n : Nat} {K : FL → Heap → Prop} {l : List Oper} {d : Tmp} {ty : TypeId} {pos : String} {after : Array Edge}

/-- A row of the function's own with room for 'cap' elements, of which the slice takes the first ones. -/
def CapR (h : Heap) (S : List Nat) (lo : Nat) (e : TypeId) (cap : Nat) (τ : Ty) (v : Value) (xs : List τ.den) : Prop :=
  ∃ b rs, b ∈ S ∧ lo ≤ b ∧ v = .slice (some ⟨b, 0, none⟩) xs.length 0 ∧ h.get b = some (.row e rs true true) ∧ rs.length = cap * τ.size ∧ xs.length ≤ cap ∧ Elems h S τ (rs.take (xs.length * τ.size)) xs
theorem CapR.up {lo : Nat} {e : TypeId} {cap : Nat} {τ : Ty} {v : Value} {xs : List τ.den} (hg : CapR h S lo e cap τ v xs) (ha : After h h') (hok : HOk h) (hN : Goes h S h' S') (hs : ∀ b ∈ ownB v, b ∈ S') : CapR h' S' lo e cap τ v xs := by
  obtain ⟨b, rs, h1, h2, rfl, h4, h5, h6, h7⟩ := hg
  exact ⟨b, rs, hs b (by simp [ownB]), h2, rfl, by rw [ha.get b (hok b _ h4)]; exact h4, h5, h6, h7.nx hN⟩
theorem CapR.inS {lo : Nat} {e : TypeId} {cap : Nat} {τ : Ty} {v : Value} {xs : List τ.den} (hg : CapR h S lo e cap τ v xs) (hok : HOk h) (hS : ∀ b ∈ S0, b < h.next) : ∀ b ∈ ownB v ++ S0, b < h.next := by
  obtain ⟨b, rs, h1, h2, rfl, h4, _⟩ := hg
  intro i hi
  rcases List.mem_append.1 hi with hi | hi
  · simp only [ownB, List.mem_singleton] at hi; subst hi; exact hok _ _ h4
  · exact hS i hi
theorem CapR.shut {lo : Nat} {e : TypeId} {cap : Nat} {τ : Ty} {v : Value} {xs : List τ.den} (hg : CapR h (ownB v ++ S0) lo e cap τ v xs) (hS : ∀ b ∈ S0, b < lo) : SlV h S0 τ v xs := by
  obtain ⟨b, rs, h1, h2, rfl, h4, h5, h6, h7⟩ := hg
  have hb : b ∉ S0 := fun hm => by have := hS b hm; omega
  have hle : xs.length * τ.size ≤ cap * τ.size := Nat.mul_le_mul_right _ h6
  refine .inr ⟨b, 0, 0, rfl, .inr ⟨hb, e, rs, true, true, h4, by omega, fun i hi => ?_⟩⟩
  have h8 := (h7.nx (Goes.less (S' := S0) fun c hc => List.mem_append_right _ hc)).2 i hi
  have h9 : (i + 1) * τ.size ≤ xs.length * τ.size := Nat.mul_le_mul_right _ hi
  rw [Nat.add_mul, Nat.one_mul] at h9
  rw [List.drop_take, List.take_take, Nat.min_eq_left (by omega)] at h8
  rw [Nat.zero_add]
  exact h8
/-- 'append(s, l...)' into the room. -/
theorem CapR.all {T T' e : TypeId} {τ : Ty} (hT : ElT P T e τ) (hT' : ElT P T' e τ) {cap : Nat} {v w : Value} {xs ys : List τ.den} (hg : CapR h (ownB v ++ S0) h0.next e cap τ v xs) (hw : SlV h (ownB v ++ S0) τ w ys) (hA : After h0 h) (hc : xs.length + ys.length ≤ cap) (hsz : cap ≤ 1000000) :
    ∃ v' h', fsAppend P #[T, T'] v w h = some (v', h') ∧ CapR h' (ownB v' ++ S0) h0.next e cap τ v' (xs ++ ys) ∧ After h0 h' ∧ Goes h (ownB v ++ S0) h' (ownB v' ++ S0) := by
  obtain ⟨b, rs, h1, h2, rfl, h4, h5, h6, h7⟩ := hg
  obtain ⟨i, z, hi1, hi2, hi3, hi3', hi4, hi5, hi6⟩ := hT.sl.info
  have hpos := hT.sl.pos
  have hbytes : (xs.length + ys.length) * i.bytes ≤ 274877906944 := by
    have := Nat.mul_le_mul (show xs.length + ys.length ≤ 1000000 by omega) hi3'
    omega
  have hadd : (xs.length + ys.length) * τ.size = xs.length * τ.size + ys.length * τ.size := Nat.add_mul _ _ _
  have hle : (xs.length + ys.length) * τ.size ≤ cap * τ.size := Nat.mul_le_mul_right _ hc
  have e2 : Nat.beq e e = true := Nat.beq_refl _
  have e3 : Nat.ble ((xs.length + ys.length) * i.bytes) 274877906944 = true := by rw [Nat.ble_eq]; exact hbytes
  have e4 : Nat.ble (0 + xs.length * i.size) rs.length = true := by rw [Nat.ble_eq, hi2]; omega
  have e5 : Nat.ble (0 + (xs.length + ys.length) * i.size) rs.length = true := by rw [Nat.ble_eq, hi2]; omega
  have e7 : Nat.beq 0 1 = false := rfl
  have e8 : Nat.beq 0 0 = true := rfl
  have f1 : Nat.blt 0 τ.size = true := by show Nat.ble 1 τ.size = true; rw [Nat.ble_eq]; exact hpos
  have f2 : Nat.blt 0 i.bytes = true := by show Nat.ble 1 i.bytes = true; rw [Nat.ble_eq]; exact hi3
  by_cases hy : 0 < ys.length
  · obtain ⟨b2, o, mk, e', rs2, own, more, rfl, hb, hr, hl, hel⟩ := hw.row hy
    have hks : 0 < ys.length * τ.size := Nat.mul_pos hy hpos
    have hne : b2 ≠ b := fun hbb => hb (by rw [hbb]; simp [ownB])
    let news := (rs2.drop o).take (ys.length * τ.size)
    have hnl : news.length = ys.length * τ.size := by show ((rs2.drop o).take (ys.length * τ.size)).length = _; rw [List.length_take, List.length_drop]; omega
    have hE : Elems h (ownB (.slice (some ⟨b, 0, none⟩) xs.length 0) ++ S0) τ news ys := by
      refine ⟨hnl, fun j hj => ?_⟩
      have h9 : (j + 1) * τ.size ≤ ys.length * τ.size := Nat.mul_le_mul_right _ hj
      rw [Nat.add_mul] at h9
      have := hel j hj
      show RepC h _ τ ((((rs2.drop o).take (ys.length * τ.size)).drop (j * τ.size)).take τ.size) ys[j]
      rw [List.drop_take, List.take_take, List.drop_drop, Nat.min_eq_left (by omega)]
      exact this
    have hone : news.all oneCell = true := hE.allOne
    have hap : appended i z (isInt (.slice e)) (.slice (some ⟨b2, o, none⟩) ys.length mk) h = some (ys.length, news) := appended_row (e := e') hi2 (by omega) hr (Nat.le_refl _) hl rfl rfl
    have hG : Goes h (ownB (.slice (some ⟨b, 0, none⟩) xs.length 0) ++ S0) (h.set b (.row e (splice rs (0 + xs.length * i.size) news) true true)) (ownB (.slice (some ⟨b, 0, none⟩) (xs.length + ys.length) 0) ++ S0) := by
      intro c o hgc hcS
      simp only [ownB, List.cons_append, List.nil_append, List.mem_cons, not_or] at hcS
      refine ⟨by rw [Heap.get_set h4, if_neg hcS.1]; exact hgc, ?_⟩
      simp only [ownB, List.cons_append, List.nil_append, List.mem_cons, not_or]
      exact hcS
    refine ⟨.slice (some ⟨b, 0, none⟩) (xs.length + ys.length) 0, h.set b (.row e (splice rs (0 + xs.length * i.size) news) true true), ?_, ⟨b, splice rs (0 + xs.length * i.size) news, mem_own, h2, by simp, by rw [Heap.get_set h4, if_pos rfl], ?_, by rw [List.length_append]; exact hc, ?_⟩, hA.set h4 h2, hG⟩
    · unfold fsAppend
      simp only [List.getElem?_toArray, List.getElem?_cons_zero, List.getElem?_cons_succ, hT.sl.sl, hT'.sl.sl, hi1, hi4, hap, hi2]
      have hcc : (Nat.blt 0 τ.size && Nat.blt 0 i.bytes && Nat.beq news.length (ys.length * τ.size) && news.all oneCell && Nat.beq z.cells.size τ.size) = true := by
        rw [f1, f2, hnl, Nat.beq_refl, hone, hi5, Nat.beq_refl]; rfl
      have e0 : Nat.beq ys.length 0 = false := beq_no (by omega)
      rw [hcc]
      simp only [cond_true]
      unfold fsGrow
      rw [hi2] at e4 e5
      simp only [h4, e0, Bool.false_and, cond_false, hi2, e2, e3, e4, Bool.and_self, cond_true, e7, e8, e5]
    · unfold splice
      rw [List.length_append, List.length_append, List.length_take, List.length_drop, hnl, hi2]
      omega
    · have hz : (splice rs (0 + xs.length * i.size) news).take ((xs ++ ys).length * τ.size) = rs.take (xs.length * τ.size) ++ news := by
        unfold splice
        rw [List.length_append, hadd, hi2, Nat.zero_add, List.take_append_of_le_length (by rw [List.length_append, List.length_take, hnl]; omega), List.take_of_length_le (by rw [List.length_append, List.length_take, hnl]; omega)]
      rw [hz]
      exact (h7.append hE).nx hG
  · have hy0 : ys = [] := List.eq_nil_of_length_eq_zero (by omega)
    subst hy0
    have hap : appended i z (isInt (.slice e)) w h = some (0, []) := by
      rcases hw with ⟨rfl, _⟩ | ⟨b, o, mk, rfl, _⟩
      · simp [appended, isInt, lenV, cellsOf]
      · simp only [appended, isInt, cond_false, lenV, cellsOf, List.length_nil]
        have e1 : Nat.ble 0 0 = true := rfl
        simp [e1, cond_true, Nat.zero_mul]
    refine ⟨.slice (some ⟨b, 0, none⟩) (xs.length + 0) 0, h, ?_, by rw [List.append_nil]; exact ⟨b, rs, h1, h2, rfl, h4, h5, h6, h7⟩, hA, Goes.refl⟩
    unfold fsAppend
    simp only [List.getElem?_toArray, List.getElem?_cons_zero, List.getElem?_cons_succ, hT.sl.sl, hT'.sl.sl, hi1, hi4, hap, hi2]
    have hcc : (Nat.blt 0 τ.size && Nat.blt 0 i.bytes && Nat.beq ([] : List Value).length (0 * τ.size) && ([] : List Value).all oneCell && Nat.beq z.cells.size τ.size) = true := by
      rw [f1, f2, hi5, Nat.beq_refl, Nat.zero_mul]; rfl
    rw [hcc]
    simp only [cond_true]
    unfold fsGrow
    simp only [List.length_nil] at e3 e5
    simp only [h4, e2, e3, e4, Bool.and_self, cond_true, e7, e8, e5, Bool.and_false, cond_false]

theorem CapR.keep {lo : Nat} {e : TypeId} {cap : Nat} {τ : Ty} {v : Value} {xs : List τ.den} (hg : CapR h S lo e cap τ v xs) (ha : After h h') (hok : HOk h) : CapR h' S lo e cap τ v xs := by
  obtain ⟨b, rs, h1, h2, rfl, h4, h5, h6, h7⟩ := hg
  exact ⟨b, rs, h1, h2, rfl, by rw [ha.get b (hok b _ h4)]; exact h4, h5, h6, h7.nx (ha.nx hok)⟩
theorem CapR.chg {lo : Nat} {e : TypeId} {cap : Nat} {τ : Ty} {v : Value} {xs : List τ.den} (hg : CapR h S lo e cap τ v xs) (hget : ∀ b ∈ ownB v, h'.get b = h.get b) (hN : Goes h S h' S') (hs : ∀ b ∈ ownB v, b ∈ S') : CapR h' S' lo e cap τ v xs := by
  obtain ⟨b, rs, h1, h2, rfl, h4, h5, h6, h7⟩ := hg
  exact ⟨b, rs, hs b (by simp [ownB]), h2, rfl, by rw [hget b (by simp [ownB])]; exact h4, h5, h6, h7.nx hN⟩
theorem CapR.weak {lo lo' : Nat} {e : TypeId} {cap : Nat} {τ : Ty} {v : Value} {xs : List τ.den} (hg : CapR h S lo e cap τ v xs) (hl : lo' ≤ lo) : CapR h S lo' e cap τ v xs := by
  obtain ⟨b, rs, h1, h2, h3⟩ := hg
  exact ⟨b, rs, h1, Nat.le_trans hl h2, h3⟩
theorem CapR.goes {e : TypeId} {cap : Nat} {τ : Ty} {v : Value} {xs : List τ.den} (hg : CapR h' S' h.next e cap τ v xs) (ha : After h h') (hok : HOk h) : Goes h S h' (ownB v ++ S) := by
  obtain ⟨b, rs, h1, h2, rfl, _⟩ := hg
  intro c o hc hcS
  have := hok c o hc
  refine ⟨by rw [ha.get c this]; exact hc, ?_⟩
  simp only [ownB, List.cons_append, List.nil_append, List.mem_cons, not_or]
  exact ⟨by omega, hcS⟩
theorem CapR.ret {h1 : Heap} {lo : Nat} {e : TypeId} {cap : Nat} {τ : Ty} {w : Value} {xs : List τ.den} (hg : CapR h1 S lo e cap τ w xs) (a : After (entry h) h1) : CapR (leftOf h h1 w) S lo e cap τ w xs := by
  obtain ⟨b, rs, m1, m2, rfl, m4, m5, m6, m7⟩ := hg
  exact ⟨b, rs, m1, m2, rfl, by rw [leftOf_get a rfl]; exact m4, m5, m6, m7.nx (leftOf_nx a rfl)⟩
theorem endF.cellTwo {fn : Func} {h1 : Heap} {QF : Value → Heap → Prop} {e : Ex} {t : Tr} {n i j : Nat} {T : TypeId} {p v w : Value} (he : e.goes = true) (hr : fn.results = #[.cell i T, .tmp j]) (hp : t.get i = p) (hv : fsLoad P T p h1 = some v) (hw : t.get j = w) (hq : QF (.tuple #[v, w]) (leftOf h h1 (.tuple #[v, w]))) : endF P fn h QF e ⟨t, n, []⟩ h1 :=
  ⟨he, h1, [v, w], rfl, by rw [hr]; show fsResults P t h1 [ResultVar.cell i T, ResultVar.tmp j] = _; simp [fsResults, fsResult, hp, hv, hw], hq⟩

theorem Goes.frame {p : Value} (hf : ∀ b, b ∉ ownP p → h'.get b = h.get b) (hs : ∀ b ∈ ownP p, b ∈ S) : Goes h S h' S := fun c o hc hcS => ⟨by rw [hf c (fun hm => hcS (hs c hm))]; exact hc, hcS⟩

theorem fresh_own {b m : Nat} (hb : b ∈ ownP (.pointer (some ⟨m, 0, none⟩))) : m ≤ b := by
  simp only [ownP, List.mem_singleton] at hb
  omega
theorem XO.boxF {e : TypeId} {x : Operand} {u : Value} (hu : evL fl x = some u) (ho : u.cells.toList.all oneCell = true) (hA : After h0 h) (hok0 : HOk h0) (hn : Nat.blt d n = true) (h4 : Nat.ble n 4000 = true)
    (hk : ∀ p h', BoxR h' h0.next p u.cells.toList → After h h' → (∀ S, Goes h S h' (ownP p ++ S)) → (∀ b ∈ ownP p, h.next ≤ b) → XO P orc ops n l ((d, p) :: fl) h' K) : XO P orc ops n (⟨some d, .box e x, ty, pos, after, none⟩ :: l) fl h K :=
  XO.mk (.box hu ho) hn h4 (hk _ _ (BoxR.new (S := []) hA hok0).1 (After.push h _) (fun S => (BoxR.new hA hok0).2.2) fun _ hb => fresh_own hb)
theorem XO.allocF {e : TypeId} {z : Value} (hz : (P.info? e).bind (·.zero) = some z) (ha : af z = true) (ho : z.cells.toList.all oneCell = true) (hA : After h0 h) (hok0 : HOk h0) (hn : Nat.blt d n = true) (h4 : Nat.ble n 4000 = true)
    (hk : ∀ p h', BoxR h' h0.next p z.cells.toList → After h h' → (∀ S, Goes h S h' (ownP p ++ S)) → (∀ b ∈ ownP p, h.next ≤ b) → XO P orc ops n l ((d, p) :: fl) h' K) : XO P orc ops n (⟨some d, .alloc e, ty, pos, after, none⟩ :: l) fl h K :=
  XO.mk (.alloc hz ha ho) hn h4 (hk _ _ (BoxR.new (S := []) hA hok0).1 (After.push h _) (fun S => (BoxR.new hA hok0).2.2) fun _ hb => fresh_own hb)
theorem apart {p q : List Nat} {m : Nat} (hp : ∀ b ∈ p, m ≤ b) (hq : ∀ b ∈ q, b < m) : ∀ b ∈ p, b ∉ q := fun b h1 h2 => by
  have := hp b h1
  have := hq b h2
  omega

/-! ## slices.Grow of nil -/
theorem StepA.cap0 {x : Operand} {T : TypeId} {d : TypeId} (hT : P.underlying T = some (.slice d)) (hx : evL fl x = some (.slice none 0 0)) : StepA P fl (.call { callee := .builtin .cap, args := #[x], argTypes := #[T] }) (.int .i64 0) := fun t ht d ty pos after g H => by
  show (fsCap P #[T] (evalO t x) H).map _ = _
  rw [evL_ok ht hx]
  have : fsCap P #[T] (.slice none 0 0) H = some (.int .i64 0) := by
    unfold fsCap
    simp only [List.getElem?_toArray, List.getElem?_cons_zero, Option.bind_some, hT]
  rw [this]; rfl
theorem StepR.sliceH {T : TypeId} {x hi : Operand} {u b w : Value} (hx : evL fl x = some u) (hh : evL fl hi = some b) (hv : ∀ nn ll, fsSlice P T u none (some b) none { next := nn, low := ll, objs := h.objs } = some w) : StepR P fl h (.slice T x none (some hi) none) w :=
  ⟨rfl, fun t ht _ _ _ _ _ n l => by
    show (fsSlice P T (evalO t x) none (some (evalO t hi)) none { next := n, low := l, objs := h.objs }).map _ = _
    rw [evL_ok ht hx, evL_ok ht hh, hv]; rfl⟩
theorem slice_nil0 {T e : TypeId} {τ : Ty} (hT : ElT P T e τ) (H : Heap) : fsSlice P T (.slice none 0 0) none (some (.int .i64 0)) none H = some (.slice none 0 0) := by
  obtain ⟨i, z, hi1, _⟩ := hT.sl.info
  simp [fsSlice, hT.sl.sl, boundOf, hi1]
theorem slice_cut0 {T e : TypeId} {τ : Ty} (hT : ElT P T e τ) (H : Heap) (b n : Nat) : fsSlice P T (.slice (some ⟨b, 0, none⟩) n 0) none (some (.int .i64 0)) none H = some (.slice (some ⟨b, 0, none⟩) 0 0) := by
  obtain ⟨i, z, hi1, _⟩ := hT.sl.info
  have e1 : Nat.ble 0 n = true := by rw [Nat.ble_eq]; exact Nat.zero_le _
  have e2 : Nat.ble 0 0 = true := rfl
  have e3 : Nat.beq 0 1 = false := rfl
  simp only [fsSlice, hT.sl.sl, boundOf, hi1]
  simp [e1, e2, e3, cutAt, markOf]
theorem zeros_len (z : Value) (n : Nat) : (zeros z n).length = n * z.cells.size := by simp [zeros]
theorem zeros_one {z : Value} (hz : z.cells.toList.all oneCell = true) (h0 : 0 < z.cells.size) (n : Nat) : (zeros z n).all oneCell = true := by
  rw [List.all_eq_true]
  intro x hx
  simp only [zeros, List.mem_map, List.mem_range] at hx
  obtain ⟨k, _, rfl⟩ := hx
  have hk : k % z.cells.size < z.cells.size := Nat.mod_lt _ h0
  rw [getElem!_pos z.cells _ hk]
  exact List.all_eq_true.1 hz _ (by rw [← Array.getElem_toList (h := by simpa using hk)]; exact List.getElem_mem _)
theorem af0_one {cs : List Value} (hc : cs.all af0 = true) : cs.all oneCell = true := by
  rw [List.all_eq_true] at hc ⊢
  intro x hx
  have := hc x hx
  cases x <;> first | rfl | simp_all [af0, oneCell]
theorem grow_made {T Ti e : TypeId} {τ : Ty} (hT : ElT P T e τ) (hTi : P.underlying Ti = some (.int .i64)) {k : Nat} (h1 : 0 < k) (hk : k ≤ 1000000) (hA : After h0 h) (hok0 : HOk h0) :
    ∃ h', fsAppend P #[T, Ti] (.slice none 0 0) (.int .i64 (k : Nat)) h = some (.slice (some ⟨h.next, 0, none⟩) k 0, h') ∧ CapR h' (ownB (.slice (some ⟨h.next, 0, none⟩) 0 0) ++ S) h0.next e k τ (.slice (some ⟨h.next, 0, none⟩) 0 0) [] ∧ After h h' ∧ Goes h S h' (ownB (.slice (some ⟨h.next, 0, none⟩) 0 0) ++ S) := by
  obtain ⟨i, z, hi1, hi2, hi3, hi3', hi4, hi5, hi6⟩ := hT.sl.info
  have hok := hA.ok hok0
  have hpos := hT.sl.pos
  have hb : k * i.bytes ≤ 274877906944 := by
    have := Nat.mul_le_mul hk hi3'
    omega
  refine ⟨h.push (.row e (zeros z k) true true), ?_, ⟨h.next, zeros z k, mem_own, hA.next, rfl, by rw [Heap.get_push, if_pos rfl], by rw [zeros_len, hi5], Nat.zero_le _, by simpa using Elems.nil⟩, After.push h _, fun b o hg hb => ?_⟩
  · have hap : appended i z (isInt (.int .i64)) (.int .i64 (k : Nat)) h = some (k, zeros z k) := by
      have hc : (decide (0 ≤ ((k : Nat) : Int)) && decide (((k : Nat) : Int) ≤ 1099511627776) && Nat.ble (k * i.bytes) 1099511627776 && z.cells.toList.all af0) = true := by
        have e1 : Nat.ble (k * i.bytes) 1099511627776 = true := by rw [Nat.ble_eq]; omega
        rw [e1, hi6]
        simp
        omega
      simp only [appended, isInt, cond_true, Int.toNat_natCast]
      rw [hc]; rfl
    unfold fsAppend
    simp only [List.getElem?_toArray, List.getElem?_cons_zero, List.getElem?_cons_succ, hT.sl.sl, hTi, hi1, hi4, hap, hi2]
    have hone : (zeros z k).all oneCell = true := zeros_one (af0_one hi6) (by omega) k
    have hc : (Nat.blt 0 τ.size && Nat.blt 0 i.bytes && Nat.beq (zeros z k).length (k * τ.size) && (zeros z k).all oneCell && Nat.beq z.cells.size τ.size) = true := by
      have e1 : Nat.blt 0 τ.size = true := by show Nat.ble 1 τ.size = true; rw [Nat.ble_eq]; exact hpos
      have e2 : Nat.blt 0 i.bytes = true := by show Nat.ble 1 i.bytes = true; rw [Nat.ble_eq]; exact hi3
      rw [e1, e2, zeros_len, hone, hi5, Nat.beq_refl, Nat.beq_refl]; rfl
    rw [hc]
    simp only [cond_true]
    unfold fsGrow
    have e1 : Nat.beq k 0 = false := beq_no (by omega)
    have e2 : Nat.ble (k * i.bytes) 274877906944 = true := by rw [Nat.ble_eq]; exact hb
    simp only [e1, cond_false, e2, cond_true, grown]
  · have := hok b o hg
    refine ⟨by rw [Heap.get_push, if_neg (by omega)]; exact hg, ?_⟩
    simp only [ownB, List.cons_append, List.nil_append, List.mem_cons, not_or]
    exact ⟨by omega, hb⟩
end Go.Fs
namespace Go.Fs
variable {P : Program} {orc : FuncId → List Value → Heap → Option (Value × Heap)} {h h' h0 : Heap} {fl : FL} {op : Op} {v : Value} {S S' S0 : List Nat} {ops : Array Oper} {n i mem : Nat} {K : FL → Heap → Prop} {l : List Oper} {d : Tmp} {ty : TypeId} {pos : String} {after : Array Edge} {bs : List Nat} {segs : List (Nat × Nat × Nat)} {tail : Bool}
theorem StepC.neg {T : TypeId} {x : Operand} {p : Int} (hx : evL fl x = some (.int .i64 p)) (h0 : -9223372036854775808 ≤ -p ∧ -p ≤ 9223372036854775807) : StepC P fl (.unOp .neg T x) (.int .i64 (-p)) := by
  have := StepC.un (P := P) (op := .neg) (T := T) (v := .int .i64 (IntKind.i64.wrap (0 - p))) hx rfl rfl
  rw [Int.zero_sub] at this
  rwa [wrap64 h0.1 h0.2] at this

theorem wrapU64 {n : Int} (h : 0 ≤ n ∧ n < 18446744073709551616) : IntKind.u64.wrap n = n := by
  unfold IntKind.wrap
  simp only [IntKind.bits, IntKind.signed, Bool.false_and]
  have e : (2 ^ 64 : Int) = 18446744073709551616 := by decide
  simp only [e]
  have := Int.emod_eq_of_lt h.1 h.2
  simp [this]
theorem StepC.convI {s d : TypeId} {x : Operand} {k k2 : IntKind} {t : TypeDesc} {p : Int} (hs : P.underlying s = some t) (hd : P.underlying d = some (.int k2)) (hx : evL fl x = some (.int k p)) (hw : k2.wrap p = p) : StepC P fl (.convert s d x) (.int k2 p) := by
  refine .conv hx rfl ?_
  unfold purely convert
  simp only [runPure_bind, runPure_underlying hs, runPure_underlying hd, Option.bind_some]
  show (runPure P (Conv.intToInt k2 p)).bind _ = _
  simp only [Conv.intToInt, runPure_pure, Option.bind_some, hw]
  rfl

/-- In a drawn region: an old thing is written, ordered behind all. -/
theorem XD.stL {b : Nat} {T : TypeId} {x y : Operand} {u w : Value} (hx : evL fl x = some u) (hy : evL fl y = some w) (hst : fsStore P T u w (entry h) = some h') (hb : beforeOf bs ⟨none, .store T x y, ty, pos, after, none⟩ = b) (ho : Nat.beq (mem &&& b) mem = true) (hnx : h'.next = h.next) (hlow : h'.low < h.next)
    (hk : ∀ h2, (∀ b, h2.get b = h'.get b) → h2.next = h'.next → h2.low ≤ h'.low → (∀ h0, After h0 h → After h0 h' → After h0 h2) → XD P orc ops n l (i + 1) fl h2 (bs ++ [b]) ((i, h.next, h2.next) :: segs) (mem ||| 2 ^ i) true K) :
    XD P orc ops n (⟨none, .store T x y, ty, pos, after, none⟩ :: l) i fl h bs segs mem tail K := fun t ht => by
  have hst' : stepO P ⟨none, .store T x y, ty, pos, after, none⟩ (evalO t) { next := h.next, low := h.next, objs := h.objs } = some (undef, h') := by
    show (fsStore P T (evalO t x) (evalO t y) _).map _ = _
    rw [evL_ok ht hx, evL_ok ht hy]
    unfold entry at hst
    rw [hst]; rfl
  have htl : (tail && !true) = false := by simp
  have hblt : Nat.blt h'.next h.next = false := blt_of_le (by omega)
  have hl : Nat.ble h.next h'.low = false := by
    cases hx : Nat.ble h.next h'.low with
    | false => rfl
    | true => have := nble hx; omega
  refine EvD.op (s' := ⟨t, { next := h'.next, low := min h.low h'.low, objs := h'.objs }, bs ++ [b], (i, h.next, h'.next) :: segs, mem ||| 2 ^ i, true⟩) ?_
    (hk { next := h'.next, low := min h.low h'.low, objs := h'.objs } (fun _ => rfl) rfl (Nat.min_le_right _ _) (fun h0 a1 a2 => ⟨a2.next, a2.get, a2.ok, fun e h3 h4 => Nat.le_min.2 ⟨a1.low e h3 h4, a2.low e h3 h4⟩⟩) t ht)
  unfold fsDraw
  simp only [fsWanted, show calm (Op.store T x y) = false from rfl, Bool.false_eq_true, if_false, hb, ho, htl, cond_false, cond_true, hst', hblt, hl]
  rfl
theorem GrowR.setL {e : TypeId} {m : Bool} {τ : Ty} {v u : Value} {xs : List τ.den} {x : τ.den} (hg : GrowR h S h0.next e m τ v xs) (hT : ValT P e τ) {j : Nat} (hj : j < xs.length) (hu : RepV h S τ u x) (hA : After h0 h) (hok : HOk h) :
    ∃ h', fsStore P e (ptrAt v τ.size j) u h = some h' ∧ GrowR h' S h0.next e m τ v (xs.set j x) ∧ After h0 h' ∧ Goes h S h' S ∧ h'.next = h.next ∧ (∀ b, b ∉ ownB v → h'.get b = h.get b) ∧ h'.low < h.next ∧ (∀ c ∈ ownB v, h'.low ≤ c) := by
  obtain ⟨b, rs, hbS, hlo, rfl, h4, h5⟩ := hg.own (by omega)
  have hjs : (j + 1) * τ.size ≤ xs.length * τ.size := Nat.mul_le_mul_right _ hj
  rw [Nat.add_mul, Nat.one_mul] at hjs
  have hrl := h5.1
  obtain ⟨i, hi, hs⟩ := hT.info
  have hul : u.cells.toList.length = τ.size := hu.2.len
  have hG : Goes h S (h.set b (.row e (splice rs (j * τ.size) u.cells.toList) true m)) S := fun c o hg hc => ⟨by rw [Heap.get_set h4, if_neg (fun e => hc (by rw [e]; exact hbS))]; exact hg, hc⟩
  refine ⟨h.set b (.row e (splice rs (j * τ.size) u.cells.toList) true m), ?_, .inr ⟨b, splice rs (j * τ.size) u.cells.toList, hbS, hlo, by rw [List.length_set], by rw [Heap.get_set h4, if_pos rfl], (elems_set h5 hj hu.2).nx hG⟩, hA.set h4 hlo, hG, rfl, fun c hc => ?_, ?_, fun c hc => ?_⟩
  · simp only [fsStore, ptrAt, h4, hi, hs, hul, hu.2.allOne, Nat.zero_add]
    rw [if_pos ⟨trivial, by omega, trivial⟩]
  · rw [Heap.get_set h4, if_neg (fun e => hc (by subst e; simp [ownB]))]
  · have := hok b _ h4
    show min h.low b < h.next
    omega
  · simp only [ownB, List.mem_singleton] at hc
    subst hc
    exact Nat.min_le_right _ _
/-- A variable that is made in a drawn region. -/
theorem XD.allocB {b : Nat} {e : TypeId} {z : Value} (hz : (P.info? e).bind (·.zero) = some z) (ha : af z = true) (ho : z.cells.toList.all oneCell = true) (hA : After h0 h) (hok0 : HOk h0) (hb : beforeOf bs ⟨some d, .alloc e, ty, pos, after, none⟩ = b) (htl : (tail && !Nat.beq (mem &&& b) mem) = false) (hn : Nat.blt d n = true) (h4 : Nat.ble n 4000 = true)
    (hk : ∀ p h', BoxR h' h0.next p z.cells.toList → After h h' → (∀ S, Goes h S h' (ownP p ++ S)) → XD P orc ops n l (i + 1) ((d, p) :: fl) h' (bs ++ [b]) ((i, h.next, h'.next) :: segs) (mem ||| 2 ^ i) tail K) :
    XD P orc ops n (⟨some d, .alloc e, ty, pos, after, none⟩ :: l) i fl h bs segs mem tail K := fun t ht => by
  obtain ⟨t', h1, h2⟩ := put_ok (v := .pointer (some ⟨h.next, 0, none⟩)) hn h4 t ht
  refine EvD.op (s' := ⟨t', h.push (.row e z.cells.toList true false), bs ++ [b], (i, h.next, h.next + 1) :: segs, mem ||| 2 ^ i, tail⟩) ?_ (hk _ _ (BoxR.new (S := []) hA hok0).1 (After.push h _) (fun S => (BoxR.new hA hok0).2.2) t' h2)
  unfold fsDraw
  have hs : ∀ H, stepO P ⟨some d, .alloc e, ty, pos, after, none⟩ (evalO t) H = some (.pointer (some ⟨H.next, 0, none⟩), H.push (.row e z.cells.toList true false)) := fun H => (StepN.alloc (h := H) hz ha ho).2 t ht (some d) ty pos after none
  simp only [fsWanted, show calm (Op.alloc e) = false from rfl, Bool.false_eq_true, if_false, hb, htl, cond_false, hs]
  have hlt : Nat.blt (h.next + 1) h.next = false := blt_of_le (Nat.le_succ _)
  simp only [Heap.push, hlt, cond_false, h1, ble_refl', cond_true]
  have hnew : newer h.next (h.next + 1) ((h.next, AObj.row e (z.cells.toList) true false) :: (bif Nat.beq (mem &&& b) mem then h.objs else mask b segs h.objs)) = [(h.next, AObj.row e (z.cells.toList) true false)] := by
    unfold newer
    rw [beq_no (show h.next ≠ h.next + 1 by omega)]
    simp only [cond_false]
    rw [List.filter_cons]
    have e1 : inside h.next (h.next + 1) (h.next, AObj.row e (z.cells.toList) true false) = true := by
      unfold inside
      have : Nat.blt h.next (h.next + 1) = true := by show Nat.ble (h.next + 1) (h.next + 1) = true; exact ble_refl' _
      simp only [ble_refl', this, Bool.and_self]
    rw [if_pos e1]
    congr 1
    refine List.filter_eq_nil_iff.2 fun p hp hin => ?_
    obtain ⟨k, o⟩ := p
    have hk1 : h.next ≤ k := by
      unfold inside at hin
      exact nble (band hin).1
    have hex : ∃ o', look (bif Nat.beq (mem &&& b) mem then h.objs else mask b segs h.objs) k = some o' := by
      clear hin
      generalize (bif Nat.beq (mem &&& b) mem then h.objs else mask b segs h.objs) = L at hp
      induction L with
      | nil => cases hp
      | cons q r ih =>
        obtain ⟨k', o'⟩ := q
        by_cases hkk : k' = k
        · exact ⟨o', by simp [look, hkk]⟩
        · rcases List.mem_cons.1 hp with hp | hp
          · simp only [Prod.mk.injEq] at hp; exact absurd hp.1.symm hkk
          · obtain ⟨o2, h2⟩ := ih hp
            exact ⟨o2, by simp only [look, beq_no hkk, cond_false, h2]⟩
    obtain ⟨o', ho'⟩ := hex
    have hlk : look h.objs k = some o' := by
      cases hx : Nat.beq (mem &&& b) mem with
      | true => rw [hx] at ho'; exact ho'
      | false => rw [hx] at ho'; exact mask_sees segs h.objs ho'
    have := (hA.ok hok0) k o' hlk
    omega
  rw [hnew]
  rfl

/-- What a function that writes its caller's slice hands back. -/
def Wrote (h h' : Heap) (S : List Nat) (h0 : Heap) (e : TypeId) (m : Bool) (τ : Ty) (v : Value) (xs ys : List τ.den) : Prop :=
  GrowR h' (ownB v ++ S) h0.next e m τ v ys ∧ After h0 h' ∧ Goes h (ownB v ++ S) h' (ownB v ++ S) ∧ ((h' = h ∧ ys = xs) ∨ h'.low < h.next)
theorem leftOf_low {h1 : Heap} (hl : h1.low < h.next) (v : Value) : leftOf h h1 v = { next := h1.next, low := min h.low h1.low, objs := h1.objs } := by
  unfold leftOf
  have : Nat.ble h.next h1.low = false := by
    cases hx : Nat.ble h.next h1.low with
    | false => rfl
    | true => have := nble hx; omega
  rw [this, Bool.and_false]; rfl
theorem own_ret {h1 : Heap} {e : TypeId} {m : Bool} {τ : Ty} {v : Value} {xs ys : List τ.den} (hA0 : After h0 h) (hg0 : GrowR h (ownB v ++ S) h0.next e m τ v xs) (hA : After h0 h1) (hg : GrowR h1 (ownB v ++ S) h0.next e m τ v ys) (hN : Goes (entry h) (ownB v ++ S) h1 (ownB v ++ S)) (kp : (h1 = entry h ∧ ys = xs) ∨ h1.low < h.next) :
    Wrote h (leftOf h h1 (.tuple #[])) S h0 e m τ v xs ys := by
  rcases kp with ⟨rfl, rfl⟩ | hl
  · have : leftOf h (entry h) (.tuple #[]) = h := by
      unfold leftOf
      have : Nat.ble h.next (entry h).low = true := by rw [Nat.ble_eq]; exact Nat.le_refl _
      rw [this]; rfl
    rw [this]
    exact ⟨hg0, hA0, Goes.refl, .inl ⟨rfl, rfl⟩⟩
  · rw [leftOf_low hl]
    have hG : Goes h1 (ownB v ++ S) { next := h1.next, low := min h.low h1.low, objs := h1.objs } (ownB v ++ S) := Goes.objs fun _ => rfl
    refine ⟨hg.chg (fun _ _ => rfl) hG (fun b hb => List.mem_append_left _ hb), ⟨hA.next, hA.get, hA.ok, fun e h3 h4 => Nat.le_min.2 ⟨hA0.low e h3 h4, hA.low e h3 h4⟩⟩, ((show Goes h (ownB v ++ S) (entry h) (ownB v ++ S) from Goes.objs fun _ => rfl).trans hN).trans hG, .inr ?_⟩
    show min h.low h1.low < h.next
    omega
theorem endF.none {fn : Func} {h1 : Heap} {QF : Value → Heap → Prop} {e : Ex} {t : Tr} {n : Nat} (he : e.goes = true) (hr : fn.results = #[]) (hq : QF (.tuple #[]) (leftOf h h1 (.tuple #[]))) : endF P fn h QF e ⟨t, n, []⟩ h1 :=
  ⟨he, h1, [], rfl, by rw [hr]; rfl, hq⟩
theorem own_in {lo : Nat} {e : TypeId} {m : Bool} {τ : Ty} {v : Value} {xs : List τ.den} (hg : GrowR h (ownB v ++ S) lo e m τ v xs) (hok : HOk h) (h0 : 0 < xs.length) : ∃ c ∈ ownB v, c < h.next := by
  obtain ⟨b, rs, _, _, rfl, h4, _⟩ := hg.own h0
  exact ⟨b, by simp [ownB], hok b _ h4⟩
/-- An own slice that is handed back. -/
theorem GrowR.ret {h1 : Heap} {lo : Nat} {e : TypeId} {m : Bool} {τ : Ty} {w : Value} {xs : List τ.den} (hg : GrowR h1 S lo e m τ w xs) (a : After (entry h) h1) : GrowR (leftOf h h1 w) S lo e m τ w xs := by
  rcases hg with hg | ⟨b, rs, m1, m2, rfl, m4, m5⟩
  · exact .inl hg
  · exact .inr ⟨b, rs, m1, m2, rfl, by rw [leftOf_get a rfl]; exact m4, m5.nx (leftOf_nx a rfl)⟩
theorem GrowR.weak {lo lo' : Nat} {e : TypeId} {m : Bool} {τ : Ty} {v : Value} {xs : List τ.den} (hg : GrowR h S lo e m τ v xs) (hl : lo' ≤ lo) : GrowR h S lo' e m τ v xs := by
  rcases hg with hg | ⟨b, rs, h1, h2, h3⟩
  · exact .inl hg
  · exact .inr ⟨b, rs, h1, Nat.le_trans hl h2, h3⟩
theorem GrowR.goes {e : TypeId} {m : Bool} {τ : Ty} {v : Value} {xs : List τ.den} (hg : GrowR h' S' h.next e m τ v xs) (ha : After h h') (hok : HOk h) : Goes h S h' (ownB v ++ S) := by
  intro c o hc hcS
  have := hok c o hc
  refine ⟨by rw [ha.get c this]; exact hc, ?_⟩
  rcases hg with ⟨rfl, _⟩ | ⟨b, rs, h1, h2, rfl, _⟩
  · exact fun hm => hcS (by simpa [ownB] using hm)
  · simp only [ownB, List.cons_append, List.nil_append, List.mem_cons, not_or]
    exact ⟨by omega, hcS⟩
end Go.Fs
namespace Go.Fs
def Ty.isFlat : Ty → Bool
  | .sl _ => false
  | .mp _ _ => false
  | .fn => false
  | .pair a b => a.isFlat && b.isFlat
  | _ => true
def Ty.flatC : (τ : Ty) → τ.den → List Value
  | .int k, n => [.int k n]
  | .bool, b => [.bool b]
  | .str, s => [.string s]
  | .flt k, b => [.float k b]
  | .unit, _ => []
  | .sl _, _ => []
  | .mp _ _, _ => []
  | .fn, _ => []
  | .pair a b, x => a.flatC x.1 ++ b.flatC x.2
theorem flat_cells {h : Heap} {S : List Nat} : ∀ {τ : Ty} {cs : List Value} {x : τ.den}, RepC h S τ cs x → τ.isFlat = true → cs = τ.flatC x := by
  intro τ
  induction τ with
  | int k => intro cs x hx _; exact hx
  | bool => intro cs x hx _; exact hx
  | str => intro cs x hx _; exact hx
  | flt k => intro cs x hx _; exact hx
  | unit => intro cs x hx _; exact hx
  | sl e ih => intro cs x _ hf; cases hf
  | fn => intro cs x _ hf; cases hf
  | mp a b _ _ => intro cs x _ hf; cases hf
  | pair a b iha ihb =>
    intro cs x hx hf
    have h1 : a.isFlat = true ∧ b.isFlat = true := by simpa [Ty.isFlat] using hf
    have e1 := iha hx.1 h1.1
    have e2 := ihb hx.2 h1.2
    show cs = a.flatC x.1 ++ b.flatC x.2
    rw [← e1, ← e2, List.take_append_drop]
theorem flat_agg {h : Heap} {S : List Nat} {τ : Ty} {v : Value} {x : τ.den} (hv : RepV h S τ v x) (hf : τ.isFlat = true) (ha : τ.agg = true) : v = .agg (τ.flatC x).toArray := by
  obtain ⟨h1, h2⟩ := hv
  have h3 := flat_cells h2 hf
  cases v with
  | agg cs =>
    have h4 : cs.toList = τ.flatC x := h3
    rw [← h4]
  | _ => rw [ha] at h1; cases h1
end Go.Fs
namespace Go.Fs
variable {P : Program} {h h' h0 h1 h2 : Heap} {S S' S0 B G : List Nat}

/-- What a slot tells: a datum, a pointer to one that stays as it is, a value itself, a closure, a tuple. -/
inductive PV where
  | v (τ : Ty) (x : τ.den)
  | p (τ : Ty) (x : τ.den)
  | raw (u : Value)
  | clo (f : FuncId) (a c : List PV)
  | tup (l : List PV)
  | gd (b : Bool) (v : PV)
  | agg (l : List PV)

mutual
def RepPV (h : Heap) (S : List Nat) : PV → Value → Prop
  | .v τ x, u => RepV h S τ u x
  | .p τ x, u => RepP h S τ u x
  | .raw w, u => u = w
  | .clo f a c, u => ∃ va vc : List Value, u = .func (.func f) va.toArray vc.toArray ∧ RepL h S a va ∧ RepL h S c vc
  | .tup l, u => ∃ vs : List Value, u = .tuple vs.toArray ∧ RepL h S l vs
  | .gd b v, u => (b = true → RepPV h S v u) ∧ (b = false → u = undef)
  | .agg l, u => ∃ vs : List Value, u = .agg vs.toArray ∧ RepL h S l vs
def RepL (h : Heap) (S : List Nat) : List PV → List Value → Prop
  | [], us => us = []
  | p :: ps, us => ∃ u r, us = u :: r ∧ RepPV h S p u ∧ RepL h S ps r
end

/-- The same, of rows alone. -/
def GoesR (h : Heap) (S : List Nat) (h' : Heap) (S' : List Nat) : Prop := ∀ b o, h.get b = some o → o ≠ .defd → b ∉ S → h'.get b = some o ∧ b ∉ S'
theorem Goes.r (hN : Goes h S h' S') : GoesR h S h' S' := fun b _ hg _ hb => hN b _ hg hb
theorem RepC.nxR (hN : GoesR h S h' S') : ∀ {τ : Ty} {cs : List Value} {x : τ.den}, RepC h S τ cs x → RepC h' S' τ cs x := by
  intro τ
  induction τ with
  | int k => exact fun hx => hx
  | bool => exact fun hx => hx
  | str => exact fun hx => hx
  | flt k => exact fun hx => hx
  | unit => exact fun hx => hx
  | pair a b iha ihb => exact fun hx => ⟨iha hx.1, ihb hx.2⟩
  | sl e ih =>
    rintro cs x ⟨v, h1, h2⟩
    refine ⟨v, h1, ?_⟩
    rcases h2 with h2 | ⟨b, o, mk, h2, h3⟩
    · exact .inl h2
    · refine .inr ⟨b, o, mk, h2, ?_⟩
      rcases h3 with h3 | ⟨h3, e', rs, own, more, h4, h5, h6⟩
      · exact .inl h3
      · obtain ⟨h7, h8⟩ := hN b _ h4 (by simp) h3
        exact .inr ⟨h8, e', rs, own, more, h7, h5, fun i hi => ih (h6 i hi)⟩
  | fn => exact fun hx => hx
  | mp a b iha ihb =>
    rintro cs x ⟨v, h1, h2⟩
    refine ⟨v, h1, ?_⟩
    rcases h2 with h2 | ⟨b, es, c, h2, h3, h4, h5, h6⟩
    · exact .inl h2
    · obtain ⟨h7, h8⟩ := hN b _ h4 (by simp) h3
      exact .inr ⟨b, es, c, h2, h8, h7, h5, fun i hi hj => ⟨⟨(h6 i hi hj).1.1, iha (h6 i hi hj).1.2⟩, ⟨(h6 i hi hj).2.1, ihb (h6 i hi hj).2.2⟩⟩⟩
theorem RepP.nxR (hN : GoesR h S h' S') {τ : Ty} {p : Value} {x : τ.den} (hp : RepP h S τ p x) : RepP h' S' τ p x := by
  obtain ⟨b, o, e, rs, own, more, h1, h2, h3, h4, h5⟩ := hp
  obtain ⟨h6, h7⟩ := hN b _ h3 (by simp) h2
  exact ⟨b, o, e, rs, own, more, h1, h7, h6, h4, h5.nxR hN⟩
mutual
theorem RepPV.nxR (hN : GoesR h S h' S') : ∀ {pv : PV} {u : Value}, RepPV h S pv u → RepPV h' S' pv u
  | .v τ x, u, hx => ⟨hx.1, RepC.nxR hN hx.2⟩
  | .p τ x, u, hx => RepP.nxR hN hx
  | .raw w, u, hx => hx
  | .clo f a c, u, ⟨va, vc, h1, h2, h3⟩ => ⟨va, vc, h1, RepL.nxR hN h2, RepL.nxR hN h3⟩
  | .tup l, u, ⟨vs, h1, h2⟩ => ⟨vs, h1, RepL.nxR hN h2⟩
  | .gd b v, u, ⟨h1, h2⟩ => ⟨fun e => RepPV.nxR hN (h1 e), h2⟩
  | .agg l, u, ⟨vs, h1, h2⟩ => ⟨vs, h1, RepL.nxR hN h2⟩
theorem RepL.nxR (hN : GoesR h S h' S') : ∀ {l : List PV} {us : List Value}, RepL h S l us → RepL h' S' l us
  | [], us, hx => hx
  | p :: ps, us, ⟨u, r, h1, h2, h3⟩ => ⟨u, r, h1, RepPV.nxR hN h2, RepL.nxR hN h3⟩
end
theorem RepPV.nx (hN : Goes h S h' S') {pv : PV} {u : Value} (hx : RepPV h S pv u) : RepPV h' S' pv u := hx.nxR hN.r
theorem RepL.nx (hN : Goes h S h' S') {l : List PV} {us : List Value} (hx : RepL h S l us) : RepL h' S' l us := hx.nxR hN.r

theorem RepL.len : ∀ {l : List PV} {us : List Value}, RepL h S l us → us.length = l.length
  | [], us, hx => by rw [show us = [] from hx]; rfl
  | p :: ps, us, ⟨u, r, h1, _, h3⟩ => by rw [h1, List.length_cons, List.length_cons, RepL.len h3]
theorem RepL.append : ∀ {l l' : List PV} {us us' : List Value}, RepL h S l us → RepL h S l' us' → RepL h S (l ++ l') (us ++ us')
  | [], l', us, us', hx, hy => by rw [show us = [] from hx]; exact hy
  | p :: ps, l', us, us', ⟨u, r, h1, h2, h3⟩, hy => ⟨u, r ++ us', by rw [h1]; rfl, h2, RepL.append h3 hy⟩

/-! ## Data without an address -/
def PV.flat0 : PV → Bool
  | .v τ _ => τ.isFlat
  | .raw u => af1 u
  | _ => false
def PV.flat : PV → Bool
  | .tup l => l.all PV.flat0
  | q => q.flat0
theorem flatC_af : ∀ (τ : Ty) (x : τ.den), (τ.flatC x).all af0 = true
  | .int _, _ => rfl
  | .bool, _ => rfl
  | .str, _ => rfl
  | .flt _, _ => rfl
  | .unit, _ => rfl
  | .sl _, _ => rfl
  | .mp _ _, _ => rfl
  | .fn, _ => rfl
  | .pair a b, x => by
    show (a.flatC x.1 ++ b.flatC x.2).all af0 = true
    rw [List.all_append, flatC_af a, flatC_af b]; rfl
theorem repV_af1 {τ : Ty} {u : Value} {x : τ.den} (hf : τ.isFlat = true) (hx : RepV h S τ u x) : af1 u = true := by
  have hc := flat_cells hx.2 hf
  cases ha : isAggV u with
  | true =>
    cases u with
    | agg cs =>
      show cs.toList.all af0 = true
      have : cs.toList = τ.flatC x := hc
      rw [this]; exact flatC_af τ x
    | _ => cases ha
  | false =>
    rw [cells_one ha] at hc
    have h1 := flatC_af τ x
    rw [← hc] at h1
    have h2 : af0 u = true := by simpa using h1
    cases u with
    | agg cs => cases ha
    | _ => exact h2
theorem RepPV.flat0 : ∀ {pv : PV} {u : Value}, pv.flat0 = true → RepPV h S pv u → af1 u = true ∧ ∀ h' S', RepPV h' S' pv u
  | .v τ x, u, hf, hx => ⟨repV_af1 hf hx, fun h' S' => RepV.anyHeap (τ := τ) hx (repV_af1 hf hx)⟩
  | .raw w, u, hf, hx => ⟨by rw [show u = w from hx]; exact hf, fun _ _ => hx⟩
  | .p _ _, _, hf, _ => by cases hf
  | .clo _ _ _, _, hf, _ => by cases hf
  | .tup _, _, hf, _ => by cases hf
  | .gd _ _, _, hf, _ => by cases hf
theorem RepL.flat0 : ∀ {l : List PV} {us : List Value}, l.all PV.flat0 = true → RepL h S l us → us.all af1 = true ∧ ∀ h' S', RepL h' S' l us
  | [], us, _, hx => ⟨by rw [show us = [] from hx]; rfl, fun _ _ => hx⟩
  | p :: ps, us, hf, ⟨u, r, h1, h2, h3⟩ => by
    rw [List.all_cons] at hf
    obtain ⟨f1, f2⟩ := band hf
    obtain ⟨a1, a2⟩ := h2.flat0 f1
    obtain ⟨b1, b2⟩ := RepL.flat0 f2 h3
    exact ⟨by rw [h1, List.all_cons, a1, b1]; rfl, fun h' S' => ⟨u, r, h1, a2 h' S', b2 h' S'⟩⟩
theorem af_of_af1 {u : Value} (hu : af1 u = true) : af u = true := by
  cases u with
  | tuple vs => cases hu
  | _ => exact hu
theorem RepPV.flat {pv : PV} {u : Value} (hf : pv.flat = true) (hx : RepPV h S pv u) : af u = true ∧ ∀ h' S', RepPV h' S' pv u := by
  cases pv with
  | tup l =>
    obtain ⟨vs, h1, h2⟩ := hx
    obtain ⟨a1, a2⟩ := RepL.flat0 (l := l) hf h2
    refine ⟨?_, fun h' S' => ⟨vs, h1, a2 h' S'⟩⟩
    rw [h1]
    show vs.toArray.toList.all af1 = true
    exact a1
  | v τ x => obtain ⟨a1, a2⟩ := RepPV.flat0 (pv := .v τ x) hf hx; exact ⟨af_of_af1 a1, a2⟩
  | p τ x => cases hf
  | raw w => obtain ⟨a1, a2⟩ := RepPV.flat0 (pv := .raw w) hf hx; exact ⟨af_of_af1 a1, a2⟩
  | clo f a c => cases hf
  | gd b v => cases hf
  | agg l => cases hf

/-! ## Heaps that go on, but for some blocks -/
structure Aft (h h' : Heap) (B : List Nat) : Prop where
  next : h.next ≤ h'.next
  get : ∀ b, b < h.next → b ∉ B → h'.get b = h.get b
  ok : HOk h → HOk h'
  low : ∀ e, e ≤ h.low → e ≤ h.next → (∀ b ∈ B, e ≤ b) → e ≤ h'.low
  chg : ∀ b, b < h.next → h'.get b = h.get b ∨ h'.low ≤ b
  lowle : h'.low ≤ h.low
theorem Aft.refl (h : Heap) (B : List Nat) : Aft h h B := ⟨Nat.le_refl _, fun _ _ _ => rfl, fun x => x, fun _ x _ _ => x, fun _ _ => .inl rfl, Nat.le_refl _⟩
theorem Aft.trans {B' : List Nat} (a : Aft h h1 B) (b : Aft h1 h2 B') (hB : ∀ i ∈ B', i ∈ B ∨ h.next ≤ i) : Aft h h2 B where
  next := Nat.le_trans a.next b.next
  get := fun i hi hn => by
    have := a.next
    rw [b.get i (by omega) (fun hm => by rcases hB i hm with h3 | h3; exact hn h3; omega), a.get i hi hn]
  ok := fun x => b.ok (a.ok x)
  low := fun e h3 h4 h5 => b.low e (a.low e h3 h4 h5) (Nat.le_trans h4 a.next) fun i hi => by
    rcases hB i hi with h6 | h6
    · exact h5 i h6
    · omega
  chg := fun i hi => by
    have := a.next
    have := b.lowle
    rcases b.chg i (by omega) with h3 | h3
    · rcases a.chg i hi with h4 | h4
      · exact .inl (h3.trans h4)
      · exact .inr (by omega)
    · exact .inr h3
  lowle := Nat.le_trans b.lowle a.lowle
theorem Aft.weak {B' : List Nat} (a : Aft h h1 B) (hB : ∀ i ∈ B, i ∈ B') : Aft h h1 B' where
  next := a.next
  get := fun i hi hn => a.get i hi fun hm => hn (hB i hm)
  ok := a.ok
  low := fun e h3 h4 h5 => a.low e h3 h4 fun i hi => h5 i (hB i hi)
  chg := a.chg
  lowle := a.lowle
theorem Aft.after (a : Aft h h1 []) : After h h1 := ⟨a.next, fun b hb => a.get b hb (by simp), a.ok, fun e h3 h4 => a.low e h3 h4 (by simp)⟩
theorem Aft.push (h : Heap) (o : AObj) (B : List Nat) : Aft h (h.push o) B where
  next := Nat.le_succ _
  get := fun b hb _ => by rw [Heap.get_push, if_neg (by omega)]
  ok := (After.push h o).ok
  low := fun e h3 _ _ => h3
  chg := fun b hb => .inl (by rw [Heap.get_push, if_neg (by omega)])
  lowle := Nat.le_refl _
theorem Aft.set {b : Nat} {o o' : AObj} (hg : h.get b = some o) (hb : b ∈ B) : Aft h (h.set b o') B where
  next := Nat.le_refl _
  get := fun i _ hi => by rw [Heap.get_set hg, if_neg (fun e => hi (by subst e; exact hb))]
  ok := fun x i oi hi => by
    rw [Heap.get_set hg] at hi
    split at hi
    · rename_i e; rw [e]; exact x b o hg
    · exact x i oi hi
  low := fun e h3 _ h5 => Nat.le_min.2 ⟨h3, h5 b hb⟩
  chg := fun i hi => by
    by_cases e : i = b
    · exact .inr (by subst e; exact Nat.min_le_right _ _)
    · exact .inl (by rw [Heap.get_set hg, if_neg e])
  lowle := Nat.min_le_left _ _
theorem Aft.drop {b : Nat} (hb : b ∈ B) : Aft h (h.drop b) B where
  next := Nat.le_refl _
  get := fun i _ hi => by rw [Heap.get_drop, if_neg (fun e => hi (by subst e; exact hb))]
  ok := fun x i oi hi => by
    rw [Heap.get_drop] at hi
    split at hi
    · cases hi
    · exact x i oi hi
  low := fun e h3 _ h5 => Nat.le_min.2 ⟨h3, h5 b hb⟩
  chg := fun i hi => by
    by_cases e : i = b
    · exact .inr (by subst e; exact Nat.min_le_right _ _)
    · exact .inl (by rw [Heap.get_drop, if_neg e])
  lowle := Nat.min_le_left _ _
/-- What is there and not among the blocks is there still. -/
theorem Aft.goes (a : Aft h h' B) (hok : HOk h) (hB : ∀ b ∈ B, b ∈ S) (hS : ∀ b ∈ S', b ∈ S ∨ h.next ≤ b) : Goes h S h' S' := fun b o hg hb => by
  have hlt := hok b o hg
  refine ⟨by rw [a.get b hlt (fun hm => hb (hB b hm))]; exact hg, fun hm => ?_⟩
  rcases hS b hm with h3 | h3
  · exact hb h3
  · omega

/-! ## The function's own cells -/
inductive Cell where
  | row (e : TypeId) (τ : Ty) (xs : List τ.den)
  | var (cs : List PV)
  | cap (e : TypeId) (n : Nat) (τ : Ty) (xs : List τ.den)
  | mp (κ ν : Ty) (kvs : List (κ.den × ν.den))
  | it (s : ByteArray) (pos : Nat)
  | loop (st : LoopState) (jump : Option Code) (n : Nat) (fl : List (Nat × PV)) (ps : Array Tmp) (assign body : Code)
abbrev Sto := List (Value × Cell)
def blk : Value → List Nat
  | .slice (some a) _ _ => [a.block]
  | .pointer (some a) => [a.block]
  | .map (some b) => [b]
  | .func (.yield l) _ _ => [l]
  | _ => []
/-! ## Slots -/
abbrev VL := List (Nat × PV)
def lkV : VL → Nat → Option PV
  | [], _ => none
  | (k, v) :: r, i => bif Nat.beq k i then some v else lkV r i
def Slots (h : Heap) (S : List Nat) (t : Tr) (fl : VL) : Prop := ∀ k v, lkV fl k = some v → RepPV h S v (t.get k)
theorem Slots.nx {t : Tr} {fl : VL} (hs : Slots h S t fl) (hN : Goes h S h' S') : Slots h' S' t fl := fun k v hk => (hs k v hk).nx hN
theorem Slots.nxR {t : Tr} {fl : VL} (hs : Slots h S t fl) (hN : GoesR h S h' S') : Slots h' S' t fl := fun k v hk => (hs k v hk).nxR hN
def own (σ : Sto) : List Nat := σ.flatMap fun c => blk c.1
def CellR (h : Heap) (S : List Nat) (w : Value) : Cell → Prop
  | .row e τ xs => (w = .slice none 0 0 ∧ xs = []) ∨ ∃ b rs m, w = .slice (some ⟨b, 0, none⟩) xs.length 0 ∧ b ∈ S ∧ h.get b = some (.row e rs true m) ∧ Elems h S τ rs xs
  | .var cs => ∃ b e vs, w = .pointer (some ⟨b, 0, none⟩) ∧ b ∈ S ∧ h.get b = some (.row e vs true false) ∧ RepL h S cs vs ∧ vs.all oneCell = true
  | .cap e n τ xs => ∃ b rs, w = .slice (some ⟨b, 0, none⟩) xs.length 0 ∧ b ∈ S ∧ h.get b = some (.row e rs true true) ∧ rs.length = n * τ.size ∧ xs.length ≤ n ∧ Elems h S τ (rs.take (xs.length * τ.size)) xs
  | .mp κ ν kvs => ∃ b es clock, w = .map (some b) ∧ b ∈ S ∧ h.get b = some (.mapo es clock) ∧ es.length = kvs.length ∧ ∀ i (hi : i < kvs.length) (hj : i < es.length), RepV h S κ es[i].key kvs[i].1 ∧ RepV h S ν es[i].val kvs[i].2
  | .it s pos => ∃ b, w = .pointer (some ⟨b, 0, none⟩) ∧ b ∈ S ∧ h.get b = some (.iter s pos)
  | .loop st jump n fl ps assign body => ∃ l tmps d, w = .func (.yield l) #[] #[] ∧ l ∈ S ∧ h.get l = some (.loopo st jump tmps n ps assign body d) ∧ Slots h S tmps fl
theorem CellR.keep {w : Value} : ∀ {c : Cell}, CellR h S w c → (∀ b ∈ blk w, h'.get b = h.get b) → Goes h S h' S' → (∀ b ∈ blk w, b ∈ S') → CellR h' S' w c
  | .row e τ xs, hc, hg, hN, hs => by
    rcases hc with hc | ⟨b, rs, m, rfl, h2, h3, h4⟩
    · exact .inl hc
    · exact .inr ⟨b, rs, m, rfl, hs b (by simp [blk]), by rw [hg b (by simp [blk])]; exact h3, h4.nx hN⟩
  | .var cs, ⟨b, e, vs, h1, h2, h3, h4, h5⟩, hg, hN, hs => by
    subst h1
    exact ⟨b, e, vs, rfl, hs b (by simp [blk]), by rw [hg b (by simp [blk])]; exact h3, h4.nx hN, h5⟩
  | .cap e n τ xs, ⟨b, rs, h1, h2, h3, h4, h5, h6⟩, hg, hN, hs => by
    subst h1
    exact ⟨b, rs, rfl, hs b (by simp [blk]), by rw [hg b (by simp [blk])]; exact h3, h4, h5, h6.nx hN⟩
  | .mp κ ν kvs, ⟨b, es, c, h1, h2, h3, h4, h5⟩, hg, hN, hs => by
    subst h1
    exact ⟨b, es, c, rfl, hs b (by simp [blk]), by rw [hg b (by simp [blk])]; exact h3, h4, fun i hi hj => ⟨(h5 i hi hj).1.nx hN, (h5 i hi hj).2.nx hN⟩⟩
  | .it s pos, ⟨b, h1, h2, h3⟩, hg, hN, hs => by
    subst h1
    exact ⟨b, rfl, hs b (by simp [blk]), by rw [hg b (by simp [blk])]; exact h3⟩
  | .loop st jump n fl ps assign body, ⟨l, tmps, d, h1, h2, h3, h4⟩, hg, hN, hs => by
    subst h1
    exact ⟨l, tmps, d, rfl, hs l (by simp [blk]), by rw [hg l (by simp [blk])]; exact h3, h4.nx hN⟩
theorem CellR.isObj {w : Value} : ∀ {c : Cell}, CellR h S w c → ∀ b ∈ blk w, ∃ o, h.get b = some o ∧ o ≠ .defd
  | .row e τ xs, hc, b, hb => by
    rcases hc with ⟨rfl, _⟩ | ⟨b', rs, m, rfl, h2, h3, h4⟩
    · cases hb
    · obtain rfl : b = b' := by simpa [blk] using hb
      exact ⟨_, h3, by simp⟩
  | .var cs, ⟨b', e, vs, h1, h2, h3, h4, h5⟩, b, hb => by
    subst h1
    obtain rfl : b = b' := by simpa [blk] using hb
    exact ⟨_, h3, by simp⟩
  | .cap e n τ xs, ⟨b', rs, h1, h2, h3, h4, h5, h6⟩, b, hb => by
    subst h1
    obtain rfl : b = b' := by simpa [blk] using hb
    exact ⟨_, h3, by simp⟩
  | .mp κ ν kvs, ⟨b', es, c, h1, h2, h3, h4, h5⟩, b, hb => by
    subst h1
    obtain rfl : b = b' := by simpa [blk] using hb
    exact ⟨_, h3, by simp⟩
  | .it s pos, ⟨b', h1, h2, h3⟩, b, hb => by
    subst h1
    obtain rfl : b = b' := by simpa [blk] using hb
    exact ⟨_, h3, by simp⟩
  | .loop st jump n fl ps assign body, ⟨l, tmps, d, h1, h2, h3, h4⟩, b, hb => by
    subst h1
    obtain rfl : b = l := by simpa [blk] using hb
    exact ⟨_, h3, by simp⟩

theorem Slots.set {t : Tr} {fl : VL} (hs : Slots h S t fl) {d : Nat} {v : PV} {u : Value} (hu : RepPV h S v u) (hd : d < 4000) : Slots h S (t.set depth d u) ((d, v) :: fl) := by
  intro k w hk
  rw [get_setD t d u k hd]
  simp only [lkV] at hk
  cases hb : Nat.beq d k with
  | true => rw [hb] at hk; simp only [cond_true, Option.some.injEq] at hk; subst hk; rw [if_pos (nbeq hb).symm]; exact hu
  | false => rw [hb] at hk; simp only [cond_false] at hk; rw [if_neg (Ne.symm (ne_of_no hb))]; exact hs k w hk
theorem Slots.cons {t : Tr} {fl : VL} (hs : Slots h S t fl) {d : Nat} {v : PV} (hu : RepPV h S v (t.get d)) : Slots h S t ((d, v) :: fl) := by
  intro k w hk
  simp only [lkV] at hk
  cases hb : Nat.beq d k with
  | true => rw [hb] at hk; simp only [cond_true, Option.some.injEq] at hk; subst hk; rw [← nbeq hb]; exact hu
  | false => rw [hb] at hk; exact hs k w hk
theorem Slots.sub {t : Tr} {fl : VL} (hs : Slots h S t fl) (fl' : VL) (hf : ∀ p ∈ fl', lkV fl p.1 = some p.2) : Slots h S t fl' := by
  intro k v hk
  have : (k, v) ∈ fl' := by
    clear hf
    induction fl' with
    | nil => cases hk
    | cons p r ih =>
      obtain ⟨i, u⟩ := p
      simp only [lkV] at hk
      cases hb : Nat.beq i k with
      | true => rw [hb] at hk; simp only [cond_true, Option.some.injEq] at hk; rw [nbeq hb, hk]; exact List.mem_cons_self
      | false => rw [hb] at hk; exact List.mem_cons_of_mem _ (ih hk)
  exact hs k v (hf _ this)

def constV : Value → Option PV
  | .int k n => some (.v (.int k) n)
  | .bool b => some (.v .bool b)
  | .string s => some (.v .str s)
  | .float k b => some (.v (.flt k) b)
  | c => if af c then some (.raw c) else none
def evV (fl : VL) : Operand → Option PV
  | .tmp i => lkV fl i
  | .const c => constV c
  | .global _ => none
  | .func f => some (.clo f [] [])
theorem constV_ok {c : Value} {v : PV} (hc : constV c = some v) : af c = true ∧ ∀ h S, RepPV h S v c := by
  cases c with
  | int k n => obtain rfl := Option.some.inj hc; exact ⟨rfl, fun _ _ => RepV.ofInt _ _⟩
  | bool b => obtain rfl := Option.some.inj hc; exact ⟨rfl, fun _ _ => RepV.ofBool _⟩
  | string s => obtain rfl := Option.some.inj hc; exact ⟨rfl, fun _ _ => RepV.ofStr _⟩
  | float k b => obtain rfl := Option.some.inj hc; exact ⟨rfl, fun _ _ => RepV.ofFlt _ _⟩
  | _ =>
    simp only [constV] at hc
    split at hc
    · rename_i ha
      obtain rfl := Option.some.inj hc
      exact ⟨ha, fun _ _ => rfl⟩
    · cases hc
theorem evV_ok {fl : VL} {t : Tr} (hs : Slots h S t fl) {x : Operand} {v : PV} (hx : evV fl x = some v) : RepPV h S v (evalO t x) := by
  cases x with
  | tmp i => exact hs i v hx
  | const c =>
    obtain ⟨h1, h2⟩ := constV_ok hx
    show RepPV h S v (if af c then c else junk)
    rw [if_pos h1]; exact h2 h S
  | global g => cases hx
  | func f => obtain rfl := Option.some.inj hx; exact ⟨[], [], rfl, rfl, rfl⟩
def evVs (fl : VL) : List Operand → Option (List PV)
  | [] => some []
  | x :: r => match evV fl x, evVs fl r with
    | some v, some vs => some (v :: vs)
    | _, _ => none
theorem evVs_ok {fl : VL} {t : Tr} (hs : Slots h S t fl) : ∀ {l : List Operand} {vs : List PV}, evVs fl l = some vs → RepL h S vs (l.map (evalO t))
  | [], vs, hx => by obtain rfl := Option.some.inj hx; rfl
  | x :: r, vs, hx => by
    simp only [evVs] at hx
    split at hx
    · rename_i v vs0 hv hvs
      obtain rfl := Option.some.inj hx
      exact ⟨_, _, rfl, evV_ok hs hv, evVs_ok hs hvs⟩
    · cases hx

/-! ## The state of a function's run -/
structure Iv (h0 : Heap) (G S0 : List Nat) (h : Heap) (σ : Sto) (t : Tr) (ms : List Nat) (fl : VL) : Prop where
  ok : HOk h
  s0 : ∀ b ∈ S0, b < h0.next
  aft : Aft h0 h G
  cells : ∀ c ∈ σ, CellR h (own σ ++ S0) c.1 c.2
  new : ∀ b ∈ own σ, (b ∈ G ∨ h0.next ≤ b) ∧ b ∉ S0
  apart : (own σ).Nodup
  mark : ∀ d ∈ ms, h0.next ≤ d ∧ h.get d = some .defd
  marks : ms.Nodup
  slots : Slots h (own σ ++ S0) t fl
variable {σ σ' : Sto} {t t' : Tr} {ms : List Nat} {fl : VL}
theorem own_lt (hc : ∀ c ∈ σ, CellR h S c.1 c.2) (hok : HOk h) : ∀ b ∈ own σ, b < h.next := fun b hb => by
  obtain ⟨c, hcm, hb⟩ := List.mem_flatMap.1 hb
  obtain ⟨o, hg, _⟩ := (hc c hcm).isObj b hb
  exact hok b _ hg
theorem Iv.goes (I : Iv h0 G S0 h σ t ms fl) (hB : ∀ b ∈ B, b ∈ own σ) (ha : Aft h h' B) (hn : ∀ b ∈ own σ', b ∈ own σ ∨ h.next ≤ b) : Goes h (own σ ++ S0) h' (own σ' ++ S0) :=
  ha.goes I.ok (fun b hb => List.mem_append_left _ (hB b hb)) fun b hb => by
    rcases List.mem_append.1 hb with hb | hb
    · rcases hn b hb with h3 | h3
      · exact .inl (List.mem_append_left _ h3)
      · exact .inr h3
    · exact .inl (List.mem_append_right _ hb)
/-- A step: the own cells told anew. -/
theorem Iv.step (I : Iv h0 G S0 h σ t ms fl) (hB : ∀ b ∈ B, b ∈ own σ) (ha : Aft h h' B) (hn : ∀ b ∈ own σ', b ∈ own σ ∨ h.next ≤ b) (hd : (own σ').Nodup) (hc : ∀ c ∈ σ', CellR h' (own σ' ++ S0) c.1 c.2) : Iv h0 G S0 h' σ' t ms fl where
  ok := ha.ok I.ok
  s0 := I.s0
  aft := I.aft.trans ha fun b hb => (I.new b (hB b hb)).1
  cells := hc
  new := fun b hb => by
    have h1 := I.aft.next
    rcases hn b hb with h3 | h3
    · exact I.new b h3
    · exact ⟨.inr (by omega), fun hm => by have := I.s0 b hm; omega⟩
  apart := hd
  mark := fun d hdm => by
    obtain ⟨h1, h2⟩ := I.mark d hdm
    refine ⟨h1, ?_⟩
    rw [ha.get d (I.ok d _ h2) (fun hm => ?_)]
    · exact h2
    · obtain ⟨c, hcm, hb⟩ := List.mem_flatMap.1 (hB d hm)
      obtain ⟨o, hg, hne⟩ := (I.cells c hcm).isObj d hb
      rw [hg] at h2; exact absurd (Option.some.inj h2) hne
  marks := I.marks
  slots := I.slots.nx (I.goes hB ha hn)
/-- A step that leaves the own cells. -/
theorem Iv.calm (I : Iv h0 G S0 h σ t ms fl) (ha : Aft h h' []) : Iv h0 G S0 h' σ t ms fl :=
  I.step (B := []) (fun b hb => by cases hb) ha (fun b hb => .inl hb) I.apart fun c hc => (I.cells c hc).keep
    (fun b hb => ha.get b (by obtain ⟨o, hg, _⟩ := (I.cells c hc).isObj b hb; exact I.ok b _ hg) (by simp)) (I.goes (fun b hb => by cases hb) ha fun b hb => .inl hb) fun b hb => List.mem_append_left _ (List.mem_flatMap.2 ⟨c, hc, hb⟩)
theorem Iv.set (I : Iv h0 G S0 h σ t ms fl) {d : Nat} {v : PV} {u : Value} (hu : RepPV h (own σ ++ S0) v u) (hd : d < 4000) : Iv h0 G S0 h σ (t.set depth d u) ms ((d, v) :: fl) := { I with slots := I.slots.set hu hd }
theorem Iv.sub (I : Iv h0 G S0 h σ t ms fl) (fl' : VL) (hf : ∀ p ∈ fl', lkV fl p.1 = some p.2) : Iv h0 G S0 h σ t ms fl' := { I with slots := I.slots.sub fl' hf }
end Go.Fs
namespace Go.Fs
variable {P : Program} {orc : FuncId → List Value → Heap → Option (Value × Heap)} {rnd : Option Nat} {h h' h0 h1 h2 : Heap} {S S' S0 B G : List Nat} {σ σ' : Sto} {t t' : Tr} {ms : List Nat} {fl : VL} {ops : Array Oper} {n : Nat} {l : List Oper}

section
variable (P orc)
/-- Code, from slots and own cells that tell something. -/
def VC (rnd : Option Nat) (c : Code) (n : Nat) (fl : VL) (σ : Sto) (Q : Ex → VL → Sto → Prop) : Prop :=
  ∀ (h0 : Heap) (G S0 : List Nat) (t : Tr) (h : Heap) (ms : List Nat), Iv h0 G S0 h σ t ms fl → EvC P orc rnd c ⟨t, n, ms⟩ h fun e fr h' => fr.n = n ∧ ∃ fl' σ', Iv h0 G S0 h' σ' fr.t fr.marks fl' ∧ Q e fl' σ'
/-- Operations in the order of the text. -/
def VO (ops : Array Oper) (n : Nat) (l : List Oper) (fl : VL) (σ : Sto) (K : VL → Sto → Prop) : Prop :=
  ∀ (h0 : Heap) (G S0 : List Nat) (t : Tr) (h : Heap) (ms : List Nat), Iv h0 G S0 h σ t ms fl → EvO P orc ops n l t h fun t' h' => ∃ fl' σ', Iv h0 G S0 h' σ' t' ms fl' ∧ K fl' σ'
def thenV (rnd : Option Nat) (n : Nat) (b : Code) (Q : Ex → VL → Sto → Prop) : Ex → VL → Sto → Prop
  | .normal, fl, σ => VC P orc rnd b n fl σ Q
  | .exit i, fl, σ => Q (.exit i) fl σ
  | .ret, fl, σ => Q .ret fl σ
end
def inBlockV (id : Nat) (Q : Ex → VL → Sto → Prop) : Ex → VL → Sto → Prop
  | .exit i, fl, σ => bif Nat.beq i id then Q .normal fl σ else Q (.exit i) fl σ
  | .normal, fl, σ => Q .normal fl σ
  | .ret, fl, σ => Q .ret fl σ
/-- A list of slots is in another one. -/
def subV (fl : VL) : VL → Prop
  | [] => True
  | (k, v) :: r => lkV fl k = some v ∧ subV fl r
theorem subV_all {fl : VL} : ∀ {fl' : VL}, subV fl fl' → ∀ p ∈ fl', lkV fl p.1 = some p.2
  | [], _, _, hp => by cases hp
  | (k, v) :: r, h, p, hp => by
    rcases List.mem_cons.1 hp with rfl | hp
    · exact h.1
    · exact subV_all h.2 p hp
def loopV (I : Nat → VL → Sto → Prop) (k : Nat) (Q : Ex → VL → Sto → Prop) : Ex → VL → Sto → Prop
  | .normal, fl, σ => ∃ k' fl', k' < k ∧ subV fl fl' ∧ I k' fl' σ
  | .exit i, fl, σ => Q (.exit i) fl σ
  | .ret, fl, σ => Q .ret fl σ

variable {Q : Ex → VL → Sto → Prop} {K : VL → Sto → Prop}
theorem VC.mono {c : Code} {Q' : Ex → VL → Sto → Prop} (hx : VC P orc rnd c n fl σ Q) (hq : ∀ e fl σ, Q e fl σ → Q' e fl σ) : VC P orc rnd c n fl σ Q' := fun h0 G S0 t h ms I =>
  (hx h0 G S0 t h ms I).mono fun e fr h' ⟨a, fl', σ', b, c⟩ => ⟨a, fl', σ', b, hq _ _ _ c⟩
theorem VC.seq {a b : Code} (hx : VC P orc rnd a n fl σ (thenV P orc rnd n b Q)) : VC P orc rnd (.seq a b) n fl σ Q := fun h0 G S0 t h ms I => by
  refine EvC.seq ((hx h0 G S0 t h ms I).mono fun e fr h' hq => ?_)
  obtain ⟨hn, fl', σ', I', q⟩ := hq
  cases e with
  | normal =>
    obtain ⟨t', n', ms'⟩ := fr
    obtain rfl : n' = n := hn
    exact q h0 G S0 t' h' ms' I'
  | exit i => exact ⟨hn, fl', σ', I', q⟩
  | ret => exact ⟨hn, fl', σ', I', q⟩
theorem VC.block {id : Nat} {b : Code} (hx : VC P orc rnd b n fl σ (inBlockV id Q)) : VC P orc rnd (.block id b) n fl σ Q := fun h0 G S0 t h ms I => by
  refine EvC.block ((hx h0 G S0 t h ms I).mono fun e fr h' hq => ?_)
  obtain ⟨hn, fl', σ', I', q⟩ := hq
  cases e with
  | normal => exact ⟨hn, fl', σ', I', q⟩
  | ret => exact ⟨hn, fl', σ', I', q⟩
  | exit i =>
    simp only [inBlockV] at q
    simp only [inBlock]
    by_cases hi : i = id
    · rw [if_pos hi]; subst hi; rw [Nat.beq_refl] at q; exact ⟨hn, fl', σ', I', q⟩
    · rw [if_neg hi]; rw [beq_no hi] at q; exact ⟨hn, fl', σ', I', q⟩
theorem VC.scope {b : Code} (hx : VC P orc rnd b n fl σ Q) : VC P orc rnd (.scope b) n fl σ Q := fun h0 G S0 t h ms I => EvC.scope (hx h0 G S0 t h ms I)
theorem VC.skip (hq : Q .normal fl σ) : VC P orc rnd .skip n fl σ Q := fun _ _ _ _ _ _ I => EvC.skip ⟨rfl, fl, σ, I, hq⟩
theorem VC.label {i : Nat} (hq : Q .normal fl σ) : VC P orc rnd (.label i) n fl σ Q := fun _ _ _ _ _ _ I => EvC.label ⟨rfl, fl, σ, I, hq⟩
theorem VC.exit {i : Nat} (hq : Q (.exit i) fl σ) : VC P orc rnd (.exit i) n fl σ Q := fun _ _ _ _ _ _ I => EvC.exit ⟨rfl, fl, σ, I, hq⟩
theorem VC.ret (hq : Q .ret fl σ) : VC P orc rnd .ret n fl σ Q := fun _ _ _ _ _ _ I => EvC.ret ⟨rfl, fl, σ, I, hq⟩
theorem VC.cond {x : Operand} {a b : Code} {c : Bool} (hc : evV fl x = some (.v .bool c)) (hx : VC P orc rnd (if c then a else b) n fl σ Q) : VC P orc rnd (.cond x a b) n fl σ Q := fun h0 G S0 t h ms I =>
  EvC.cond (evV_ok I.slots hc : RepPV _ _ (.v .bool c) _).bool (hx h0 G S0 t h ms I)
theorem VC.condB {x : Operand} {a b : Code} {c : Bool} (hc : evV fl x = some (.v .bool c)) (ht : c = true → VC P orc rnd a n fl σ Q) (hf : c = false → VC P orc rnd b n fl σ Q) : VC P orc rnd (.cond x a b) n fl σ Q := by
  refine VC.cond hc ?_
  cases c with
  | true => exact ht rfl
  | false => exact hf rfl
theorem VC.condD {x : Operand} {a b : Code} {p : Prop} {inst : Decidable p} (hc : evV fl x = some (.v .bool (@decide p inst))) (ht : p → VC P orc rnd a n fl σ Q) (hf : ¬ p → VC P orc rnd b n fl σ Q) : VC P orc rnd (.cond x a b) n fl σ Q :=
  VC.condB hc (fun h => ht (of_decide_eq_true h)) fun h => hf (of_decide_eq_false h)
theorem VC.condT {x : Operand} {a b : Code} (hc : evV fl x = some (.v .bool true)) (hx : VC P orc rnd a n fl σ Q) : VC P orc rnd (.cond x a b) n fl σ Q := VC.cond hc hx
theorem VC.condF {x : Operand} {a b : Code} (hc : evV fl x = some (.v .bool false)) (hx : VC P orc rnd b n fl σ Q) : VC P orc rnd (.cond x a b) n fl σ Q := VC.cond hc hx
theorem VC.keep {c : Code} (fl' : VL) (hs : subV fl fl') (hx : VC P orc rnd c n fl' σ Q) : VC P orc rnd c n fl σ Q := fun h0 G S0 t h ms I => hx h0 G S0 t h ms (I.sub fl' (subV_all hs))
theorem VC.loop {c : Code} {I : Nat → VL → Sto → Prop} (hs : ∀ k fl σ, I k fl σ → VC P orc rnd c n fl σ (loopV I k Q)) : ∀ k fl σ, I k fl σ → VC P orc rnd (.loop c) n fl σ Q := by
  intro k
  induction k using Nat.strongRecOn with
  | ind k ih =>
    intro fl σ hI h0 G S0 t h ms Iv
    refine EvC.loop ((hs k fl σ hI h0 G S0 t h ms Iv).mono fun e fr h' hq => ?_)
    obtain ⟨hn, fl', σ', I', q⟩ := hq
    cases e with
    | normal =>
      obtain ⟨t', n', ms'⟩ := fr
      obtain rfl : n' = n := hn
      obtain ⟨k', fl2, hk, hsub, hI2⟩ := q
      exact ih k' hk fl2 σ' hI2 h0 G S0 t' h' ms' (I'.sub fl2 (subV_all hsub))
    | exit i => exact ⟨hn, fl', σ', I', q⟩
    | ret => exact ⟨hn, fl', σ', I', q⟩
theorem VC.text {id : Nat} {ops : Array Oper} (hx : VO P orc ops n ops.toList fl σ fun fl' σ' => Q .normal fl' σ') : VC P orc rnd (.region id ops false) n fl σ Q := fun h0 G S0 t h ms I =>
  EvC.text (by
    obtain ⟨m, t', h', h1, fl', σ', h2, h3⟩ := hx h0 G S0 t h ms I
    exact ⟨m, t', h', h1, rfl, fl', σ', h2, h3⟩)
theorem VO.nil (hk : K fl σ) : VO P orc ops n [] fl σ K := fun _ _ _ _ _ _ I => EvO.nil ⟨fl, σ, I, hk⟩
theorem VO.keep (fl' : VL) (hs : subV fl fl') (hx : VO P orc ops n l fl' σ K) : VO P orc ops n l fl σ K := fun h0 G S0 t h ms I => hx h0 G S0 t h ms (I.sub fl' (subV_all hs))
/-- The own cells in another order. -/
theorem own_perm (hp : σ.Perm σ') : (own σ).Perm (own σ') := hp.flatMap_right _
theorem Iv.perm (I : Iv h0 G S0 h σ t ms fl) (hp : σ.Perm σ') : Iv h0 G S0 h σ' t ms fl := by
  refine I.step (B := []) (fun b hb => by cases hb) (Aft.refl h []) (fun b hb => .inl ((own_perm hp).mem_iff.2 hb)) ((own_perm hp).nodup_iff.1 I.apart) fun c hc => ?_
  have hN : Goes h (own σ ++ S0) h (own σ' ++ S0) := Goes.less fun b hb => by
    rcases List.mem_append.1 hb with hb | hb
    · exact List.mem_append_left _ ((own_perm hp).mem_iff.2 hb)
    · exact List.mem_append_right _ hb
  exact (I.cells c (hp.mem_iff.2 hc)).keep (fun _ _ => rfl) hN fun b hb => List.mem_append_left _ (List.mem_flatMap.2 ⟨c, hc, hb⟩)
theorem VO.perm (hp : σ.Perm σ') (hx : VO P orc ops n l fl σ' K) : VO P orc ops n l fl σ K := fun h0 G S0 t h ms I => hx h0 G S0 t h ms (I.perm hp)
theorem VC.perm {c : Code} (hp : σ.Perm σ') (hx : VC P orc rnd c n fl σ' Q) : VC P orc rnd c n fl σ Q := fun h0 G S0 t h ms I => hx h0 G S0 t h ms (I.perm hp)
end Go.Fs
namespace Go.Fs
variable {P : Program} {orc : FuncId → List Value → Heap → Option (Value × Heap)} {rnd : Option Nat} {h h' h0 h1 h2 : Heap} {S S' S0 B G : List Nat} {σ σ' : Sto} {t t' : Tr} {ms : List Nat} {fl : VL} {ops : Array Oper} {n : Nat} {l : List Oper} {K : VL → Sto → Prop} {Q : Ex → VL → Sto → Prop}
  {d : Tmp} {ty : TypeId} {pos : String} {after : Array Edge} {op : Op} {v : PV} {g : Option (Nat × Bool)}

/-- What an operation needs of the state. -/
structure Lc (S0 : List Nat) (h : Heap) (σ : Sto) (t : Tr) (fl : VL) : Prop where
  ok : HOk h
  s0 : ∀ b ∈ S0, b < h.next
  cells : ∀ c ∈ σ, CellR h (own σ ++ S0) c.1 c.2
  sep : ∀ b ∈ own σ, b ∉ S0
  apart : (own σ).Nodup
  slots : Slots h (own σ ++ S0) t fl
theorem Iv.lc (I : Iv h0 G S0 h σ t ms fl) : Lc S0 h σ t fl := ⟨I.ok, fun b hb => Nat.lt_of_lt_of_le (I.s0 b hb) I.aft.next, I.cells, fun b hb => (I.new b hb).2, I.apart, I.slots⟩
/-- Another 'low'. -/
theorem Lc.objs (L : Lc S0 h σ t fl) (hg : ∀ b, h'.get b = h.get b) (hn : h'.next = h.next) : Lc S0 h' σ t fl :=
  ⟨fun b o hb => by rw [hn]; exact L.ok b o (by rw [← hg]; exact hb), fun b hb => by rw [hn]; exact L.s0 b hb, fun c hc => (L.cells c hc).keep (fun b _ => hg b) (Goes.objs hg) fun b hb => List.mem_append_left _ (List.mem_flatMap.2 ⟨c, hc, hb⟩), L.sep, L.apart, L.slots.nx (Goes.objs hg)⟩
theorem Lc.lt (L : Lc S0 h σ t fl) : ∀ b ∈ own σ ++ S0, b < h.next := fun b hb => by
  rcases List.mem_append.1 hb with hb | hb
  · exact own_lt L.cells L.ok b hb
  · exact L.s0 b hb

/-- What is told of an operation's operands. -/
def Sees (h : Heap) (S : List Nat) (t : Tr) (fl : VL) (op : Op) : Prop := ∀ x ∈ op.operands.toList, ∀ pv, evV fl x = some pv → RepPV h S pv (evalO t x)
theorem Slots.sees (hs : Slots h S t fl) : Sees h S t fl op := fun _ _ _ hx => evV_ok hs hx
/-- An operation that looks at nothing. -/
def CalmV (P : Program) (fl : VL) (σ : Sto) (op : Op) (v : PV) : Prop := calm op = true ∧ ∀ (h : Heap) (S : List Nat) (t : Tr), Sees h S t fl op → (∀ c ∈ σ, CellR h S c.1 c.2) →
  ∃ u, RepPV h S v u ∧ ∀ (d : Option Tmp) (ty : TypeId) (pos : String) (after : Array Edge) (g : Option (Nat × Bool)) (H : Heap), stepO P ⟨d, op, ty, pos, after, g⟩ (evalO t) H = some (u, H)
/-- An operation that reads. -/
def ReadV (P : Program) (fl : VL) (σ : Sto) (op : Op) (v : PV) : Prop := calm op = false ∧ ∀ (h : Heap) (S : List Nat) (t : Tr), Sees h S t fl op → (∀ c ∈ σ, CellR h S c.1 c.2) →
  ∃ u, RepPV h S v u ∧ ∀ H : Heap, (∀ b o, h.get b = some o → H.get b = some o) → ∀ (d : Option Tmp) (ty : TypeId) (pos : String) (after : Array Edge) (g : Option (Nat × Bool)), stepO P ⟨d, op, ty, pos, after, g⟩ (evalO t) H = some (u, H)
/-- What an operation has made. -/
structure Made (S0 : List Nat) (h h' : Heap) (σ σ' : Sto) : Prop where
  aft : Aft h h' (own σ)
  new : ∀ b ∈ own σ', b ∈ own σ ∨ h.next ≤ b
  apart : (own σ').Nodup
  cells : ∀ c ∈ σ', CellR h' (own σ' ++ S0) c.1 c.2
theorem Iv.made (I : Iv h0 G S0 h σ t ms fl) (m : Made S0 h h' σ σ') : Iv h0 G S0 h' σ' t ms fl := I.step (fun _ hb => hb) m.aft m.new m.apart m.cells
/-- An operation that makes something, or turns it. -/
def MakeV (P : Program) (fl : VL) (σ : Sto) (op : Op) (T : PV → Sto → Prop) : Prop := calm op = false ∧ ∀ (S0 : List Nat) (h : Heap) (t : Tr), Lc S0 h σ t fl →
  ∃ u h' v σ', T v σ' ∧ Made S0 h h' σ σ' ∧ RepPV h' (own σ' ++ S0) v u ∧ ∀ (d : Option Tmp) (ty : TypeId) (pos : String) (after : Array Edge) (g : Option (Nat × Bool)), stepO P ⟨d, op, ty, pos, after, g⟩ (evalO t) h = some (u, h')

def isUndef : Value → Bool
  | .tuple ⟨[]⟩ => true
  | _ => false
/-- Is the operation carried out? -/
def wantV (ops : Array Oper) (fl : VL) : Option (Nat × Bool) → Option Bool
  | none => some true
  | some (j, w) => match (ops[j]?).bind (·.dst) with
    | none => some false
    | some d => match lkV fl d with
      | some (.v .bool b) => some (b == w)
      | some (.raw u) => bif isUndef u then some false else none
      | _ => none
theorem want_ok (hs : Slots h S t fl) {o : Oper} {r : Bool} (hw : wantV ops fl o.guard = some r) : fsWanted ops t o = some r := by
  unfold wantV at hw
  unfold fsWanted
  split at hw
  · rename_i hg; rw [hg]; exact hw
  · rename_i j w hg
    rw [hg]
    split at hw
    · rename_i hd; simp only [hd]; exact hw
    · rename_i d hd
      simp only [hd]
      split at hw
      · rename_i b hb
        have := (hs d _ hb : RepPV h S (.v .bool b) _).bool
        rw [this]
        exact hw
      · rename_i u hb
        have h1 : t.get d = u := hs d _ hb
        rw [h1]
        cases hu : isUndef u with
        | false => rw [hu] at hw; cases hw
        | true =>
          rw [hu] at hw
          obtain rfl := Option.some.inj hw
          unfold isUndef at hu
          split at hu
          · rfl
          · cases hu
      · cases hw
theorem fits (hn : (Nat.blt d n && Nat.ble n 4000) = true) : Nat.blt d n = true ∧ d < 4000 := by
  obtain ⟨h1, h2⟩ := band hn
  exact ⟨h1, Nat.lt_of_lt_of_le (nblt h1) (nble h2)⟩
theorem put_fits (hn : Nat.blt d n = true) (t : Tr) (u : Value) : put n t (some d) u = some (t.set depth d u) := by rw [put_set, hn]; rfl

theorem VO.c (hs : CalmV P fl σ op v) (hk : VO P orc ops n l ((d, v) :: fl) σ K) (hw : wantV ops fl g = some true := by rfl) (hn : (Nat.blt d n && Nat.ble n 4000) = true := by rfl) : VO P orc ops n (⟨some d, op, ty, pos, after, g⟩ :: l) fl σ K := fun h0 G S0 t h ms I => by
  obtain ⟨u, h1, h2⟩ := hs.2 h _ t I.slots.sees I.cells
  obtain ⟨n1, n2⟩ := fits hn
  exact EvO.op (want_ok I.slots hw) (h2 _ _ _ _ _ h) (put_fits n1 t u) (hk h0 G S0 _ h ms (I.set h1 n2))
theorem VO.r (hs : ReadV P fl σ op v) (hk : VO P orc ops n l ((d, v) :: fl) σ K) (hw : wantV ops fl g = some true := by rfl) (hn : (Nat.blt d n && Nat.ble n 4000) = true := by rfl) : VO P orc ops n (⟨some d, op, ty, pos, after, g⟩ :: l) fl σ K := fun h0 G S0 t h ms I => by
  obtain ⟨u, h1, h2⟩ := hs.2 h _ t I.slots.sees I.cells
  obtain ⟨n1, n2⟩ := fits hn
  exact EvO.op (want_ok I.slots hw) (h2 h (fun _ _ x => x) _ _ _ _ _) (put_fits n1 t u) (hk h0 G S0 _ h ms (I.set h1 n2))
theorem VO.mk {T : PV → Sto → Prop} (hs : MakeV P fl σ op T) (hk : ∀ v σ', T v σ' → VO P orc ops n l ((d, v) :: fl) σ' K) (hw : wantV ops fl g = some true := by rfl) (hn : (Nat.blt d n && Nat.ble n 4000) = true := by rfl) : VO P orc ops n (⟨some d, op, ty, pos, after, g⟩ :: l) fl σ K := fun h0 G S0 t h ms I => by
  obtain ⟨u, h', v, σ', h1, h2, h3, h4⟩ := hs.2 S0 h t I.lc
  obtain ⟨n1, n2⟩ := fits hn
  exact EvO.op (want_ok I.slots hw) (h4 _ _ _ _ _) (put_fits n1 t u) (hk v σ' h1 h0 G S0 _ h' ms ((I.made h2).set h3 n2))
theorem VO.mk0 {T : PV → Sto → Prop} (hs : MakeV P fl σ op T) (hk : ∀ v σ', T v σ' → VO P orc ops n l fl σ' K) (hw : wantV ops fl g = some true := by rfl) : VO P orc ops n (⟨none, op, ty, pos, after, g⟩ :: l) fl σ K := fun h0 G S0 t h ms I => by
  obtain ⟨u, h', v, σ', h1, h2, h3, h4⟩ := hs.2 S0 h t I.lc
  exact EvO.op (want_ok I.slots hw) (h4 _ _ _ _ _) rfl (hk v σ' h1 h0 G S0 _ h' ms (I.made h2))
theorem VO.skip (hk : VO P orc ops n l ((d, .raw undef) :: fl) σ K) (hw : wantV ops fl g = some false := by rfl) (hn : (Nat.blt d n && Nat.ble n 4000) = true := by rfl) : VO P orc ops n (⟨some d, op, ty, pos, after, g⟩ :: l) fl σ K := fun h0 G S0 t h ms I => by
  obtain ⟨n1, n2⟩ := fits hn
  exact EvO.skip (want_ok I.slots hw) (put_fits n1 t undef) (hk h0 G S0 _ h ms (I.set (show RepPV _ _ (.raw undef) undef from rfl) n2))
theorem VO.skip0 (hk : VO P orc ops n l fl σ K) (hw : wantV ops fl g = some false := by rfl) : VO P orc ops n (⟨none, op, ty, pos, after, g⟩ :: l) fl σ K := fun h0 G S0 t h ms I =>
  EvO.skip (want_ok I.slots hw) rfl (hk h0 G S0 _ h ms I)
theorem VO.splitB {x : Tmp} {r : Bool} (hc : lkV fl x = some (.v .bool r)) (ht : r = true → VO P orc ops n l ((x, .v .bool true) :: fl) σ K) (hf : r = false → VO P orc ops n l ((x, .v .bool false) :: fl) σ K) : VO P orc ops n l fl σ K := fun h0 G S0 t h ms I => by
  have hx : Iv h0 G S0 h σ t ms ((x, .v .bool r) :: fl) := { I with slots := I.slots.cons (I.slots x _ hc) }
  cases r with
  | true => exact ht rfl h0 G S0 t h ms hx
  | false => exact hf rfl h0 G S0 t h ms hx
theorem VO.splitD {x : Tmp} {p : Prop} {inst : Decidable p} (hc : lkV fl x = some (.v .bool (@decide p inst))) (ht : p → VO P orc ops n l ((x, .v .bool true) :: fl) σ K) (hf : ¬ p → VO P orc ops n l ((x, .v .bool false) :: fl) σ K) : VO P orc ops n l fl σ K :=
  VO.splitB hc (fun h => ht (of_decide_eq_true h)) fun h => hf (of_decide_eq_false h)

/-! ## Cells that come and go -/
/-- nil as a row. -/
theorem Iv.cell0 (I : Iv h0 G S0 h σ t ms fl) (e : TypeId) (τ : Ty) : Iv h0 G S0 h ((.slice none 0 0, .row e τ []) :: σ) t ms fl := by
  have ho : own ((.slice none 0 0, .row e τ []) :: σ) = own σ := rfl
  refine I.step (B := []) (fun b hb => by cases hb) (Aft.refl h []) (fun b hb => .inl hb) I.apart fun c hc => ?_
  rcases List.mem_cons.1 hc with rfl | hc
  · exact .inl ⟨rfl, rfl⟩
  · exact I.cells c hc
theorem VO.cell0 (e : TypeId) (τ : Ty) (hx : VO P orc ops n l fl ((.slice none 0 0, .row e τ []) :: σ) K) : VO P orc ops n l fl σ K := fun h0 G S0 t h ms I => hx h0 G S0 t h ms (I.cell0 e τ)
theorem VC.cell0 {c : Code} (e : TypeId) (τ : Ty) (hx : VC P orc rnd c n fl ((.slice none 0 0, .row e τ []) :: σ) Q) : VC P orc rnd c n fl σ Q := fun h0 G S0 t h ms I => hx h0 G S0 t h ms (I.cell0 e τ)
/-- A cell that is let go. -/
theorem Iv.forget {c : Value × Cell} (I : Iv h0 G S0 h (c :: σ) t ms fl) : Iv h0 G S0 h σ t ms fl := by
  have ho : own (c :: σ) = blk c.1 ++ own σ := rfl
  have hsub : ∀ b ∈ own σ, b ∈ own (c :: σ) := fun b hb => by rw [ho]; exact List.mem_append_right _ hb
  refine I.step (B := []) (fun b hb => by cases hb) (Aft.refl h []) (fun b hb => .inl (hsub b hb)) ?_ fun d hd => ?_
  · have := I.apart
    rw [ho] at this
    exact (List.nodup_append.1 this).2.1
  · refine (I.cells d (List.mem_cons_of_mem _ hd)).keep (fun _ _ => rfl) (Goes.less fun b hb => ?_) fun b hb => List.mem_append_left _ (List.mem_flatMap.2 ⟨d, hd, hb⟩)
    rcases List.mem_append.1 hb with hb | hb
    · exact List.mem_append_left _ (hsub b hb)
    · exact List.mem_append_right _ hb
theorem VO.forget {c : Value × Cell} (hx : VO P orc ops n l fl σ K) : VO P orc ops n l fl (c :: σ) K := fun h0 G S0 t h ms I => hx h0 G S0 t h ms I.forget
theorem VC.forget {a : Code} {c : Value × Cell} (hx : VC P orc rnd a n fl σ Q) : VC P orc rnd a n fl (c :: σ) Q := fun h0 G S0 t h ms I => hx h0 G S0 t h ms I.forget

/-! ## What is shut: own cells that are told as data -/
/-- The cells of a datum. -/
def cellsPV : (τ : Ty) → τ.den → List PV
  | .pair a b, x => cellsPV a x.1 ++ cellsPV b x.2
  | .unit, _ => []
  | .int k, n => [.v (.int k) n]
  | .bool, b => [.v .bool b]
  | .str, s => [.v .str s]
  | .flt k, b => [.v (.flt k) b]
  | .sl e, xs => [.v (.sl e) xs]
  | .mp a b, xs => [.v (.mp a b) xs]
  | .fn, f => [.v .fn f]
theorem RepL.split : ∀ {l l' : List PV} {us : List Value}, RepL h S (l ++ l') us → ∃ a b, us = a ++ b ∧ RepL h S l a ∧ RepL h S l' b
  | [], l', us, hx => ⟨[], us, rfl, rfl, hx⟩
  | p :: ps, l', us, ⟨u, r, h1, h2, h3⟩ => by
    obtain ⟨a, b, rfl, h5, h6⟩ := RepL.split h3
    exact ⟨u :: a, b, by rw [h1]; rfl, ⟨u, a, rfl, h2, h5⟩, h6⟩
theorem repC_one {τ : Ty} {x : τ.den} {us : List Value} (ha : τ.agg = false) (hx : RepL h S [.v τ x] us) : RepC h S τ us x := by
  obtain ⟨u, r, rfl, h2, rfl⟩ := hx
  exact RepV.last ha h2
theorem repC_cells : ∀ {τ : Ty} {x : τ.den} {us : List Value}, RepL h S (cellsPV τ x) us → RepC h S τ us x
  | .pair a b, x, us, hx => by
    obtain ⟨u1, u2, rfl, h1, h2⟩ := RepL.split hx
    have e1 := repC_cells h1
    have e2 := repC_cells h2
    have hl := e1.len
    exact ⟨by rw [List.take_left' hl]; exact e1, by rw [List.drop_left' hl]; exact e2⟩
  | .unit, x, us, hx => hx
  | .int k, x, us, hx => repC_one rfl hx
  | .bool, x, us, hx => repC_one rfl hx
  | .str, x, us, hx => repC_one rfl hx
  | .flt k, x, us, hx => repC_one rfl hx
  | .sl e, x, us, hx => repC_one rfl hx
  | .mp a b, x, us, hx => repC_one rfl hx
  | .fn, x, us, hx => repC_one rfl hx
theorem cells_repC : ∀ {τ : Ty} {x : τ.den} {us : List Value}, RepC h S τ us x → RepL h S (cellsPV τ x) us
  | .pair a b, x, us, hx => by
    have e1 := cells_repC hx.1
    have e2 := cells_repC hx.2
    have := e1.append e2
    rwa [List.take_append_drop] at this
  | .unit, x, us, hx => hx
  | .int k, x, us, hx => let ⟨u, h1, h2⟩ := hx.one rfl; ⟨u, [], h1, h2, rfl⟩
  | .bool, x, us, hx => let ⟨u, h1, h2⟩ := hx.one rfl; ⟨u, [], h1, h2, rfl⟩
  | .str, x, us, hx => let ⟨u, h1, h2⟩ := hx.one rfl; ⟨u, [], h1, h2, rfl⟩
  | .flt k, x, us, hx => let ⟨u, h1, h2⟩ := hx.one rfl; ⟨u, [], h1, h2, rfl⟩
  | .sl e, x, us, hx => let ⟨u, h1, h2⟩ := hx.one rfl; ⟨u, [], h1, h2, rfl⟩
  | .mp a b, x, us, hx => let ⟨u, h1, h2⟩ := hx.one rfl; ⟨u, [], h1, h2, rfl⟩
  | .fn, x, us, hx => let ⟨u, h1, h2⟩ := hx.one rfl; ⟨u, [], h1, h2, rfl⟩

mutual
/-- What is told of a slot, with own cells told as data. -/
inductive Co (σ : Sto) : PV → PV → Prop where
  | same {p : PV} : Co σ p p
  | row {w : Value} {e : TypeId} {τ : Ty} {xs : List τ.den} (hm : (w, Cell.row e τ xs) ∈ σ) : Co σ (.raw w) (.v (.sl τ) xs)
  | nil {τ : Ty} : Co σ (.raw (.slice none 0 0)) (.v (.sl τ) [])
  | cap {w : Value} {e : TypeId} {n : Nat} {τ : Ty} {xs : List τ.den} (hm : (w, Cell.cap e n τ xs) ∈ σ) : Co σ (.raw w) (.v (.sl τ) xs)
  | mp {w : Value} {κ ν : Ty} {kvs : List (κ.den × ν.den)} (hm : (w, Cell.mp κ ν kvs) ∈ σ) : Co σ (.raw w) (.v (.mp κ ν) kvs)
  | var {p : Value} {cs : List PV} {τ : Ty} {x : τ.den} (hm : (p, Cell.var cs) ∈ σ) (hc : CoL σ cs (cellsPV τ x)) : Co σ (.raw p) (.p τ x)
  | clo {f : FuncId} {a a' c c' : List PV} (ha : CoL σ a a') (hc : CoL σ c c') : Co σ (.clo f a c) (.clo f a' c')
  | tup {l l' : List PV} (hl : CoL σ l l') : Co σ (.tup l) (.tup l')
inductive CoL (σ : Sto) : List PV → List PV → Prop where
  | nil : CoL σ [] []
  | cons {p p' : PV} {l l' : List PV} (hp : Co σ p p') (hl : CoL σ l l') : CoL σ (p :: l) (p' :: l')
end
theorem CoL.refl : ∀ {l : List PV}, CoL σ l l
  | [] => .nil
  | _ :: _ => .cons .same CoL.refl
theorem shut_row {w : Value} {e : TypeId} {τ : Ty} {xs : List τ.den} (hc : CellR h (S ++ S0) w (.row e τ xs)) (hs : ∀ b ∈ blk w, b ∉ S0) : SlV h S0 τ w xs := by
  rcases hc with ⟨rfl, rfl⟩ | ⟨b, rs, m, rfl, h2, h3, h4⟩
  · exact .inl ⟨rfl, rfl⟩
  · exact (h4.nx (Goes.less fun c hc => List.mem_append_right _ hc)).slv h3 (hs b (by simp [blk]))
theorem shut_cap {w : Value} {e : TypeId} {n : Nat} {τ : Ty} {xs : List τ.den} (hc : CellR h (S ++ S0) w (.cap e n τ xs)) (hs : ∀ b ∈ blk w, b ∉ S0) : SlV h S0 τ w xs := by
  obtain ⟨b, rs, rfl, h2, h4, h5, h6, h7⟩ := hc
  have hb : b ∉ S0 := hs b (by simp [blk])
  have hle : xs.length * τ.size ≤ n * τ.size := Nat.mul_le_mul_right _ h6
  refine .inr ⟨b, 0, 0, rfl, .inr ⟨hb, e, rs, true, true, h4, by omega, fun i hi => ?_⟩⟩
  have h8 := (h7.nx (Goes.less (S' := S0) fun c hc => List.mem_append_right _ hc)).2 i hi
  have h9 : (i + 1) * τ.size ≤ xs.length * τ.size := Nat.mul_le_mul_right _ hi
  rw [Nat.add_mul, Nat.one_mul] at h9
  rw [List.drop_take, List.take_take, Nat.min_eq_left (by omega)] at h8
  rw [Nat.zero_add]
  exact h8
theorem shut_mp {w : Value} {κ ν : Ty} {kvs : List (κ.den × ν.den)} (hc : CellR h (S ++ S0) w (.mp κ ν kvs)) (hs : ∀ b ∈ blk w, b ∉ S0) : MpV h S0 κ ν w kvs := by
  obtain ⟨b, es, c, rfl, h2, h3, h4, h5⟩ := hc
  have hN : Goes h (S ++ S0) h S0 := Goes.less fun c hc => List.mem_append_right _ hc
  exact .inr ⟨b, es, c, rfl, hs b (by simp [blk]), h3, h4, fun i hi hj => ⟨(h5 i hi hj).1.nx hN, (h5 i hi hj).2.nx hN⟩⟩
mutual
theorem Co.ok (hc : ∀ c ∈ σ, CellR h (own σ ++ S0) c.1 c.2) (hs : ∀ b ∈ own σ, b ∉ S0) : ∀ {p p' : PV} {u : Value}, Co σ p p' → RepPV h (own σ ++ S0) p u → RepPV h S0 p' u
  | _, _, u, .same, hu => hu.nx (Goes.less fun b hb => List.mem_append_right _ hb)
  | _, _, u, .row hm, hu => by
    obtain rfl := hu
    exact (shut_row (hc _ hm) fun b hb => hs b (List.mem_flatMap.2 ⟨_, hm, hb⟩)).rep
  | _, _, u, .nil, hu => by obtain rfl := hu; exact SlV.nil.rep
  | _, _, u, .cap hm, hu => by
    obtain rfl := hu
    exact (shut_cap (hc _ hm) fun b hb => hs b (List.mem_flatMap.2 ⟨_, hm, hb⟩)).rep
  | _, _, u, .mp hm, hu => by
    obtain rfl := hu
    exact (shut_mp (hc _ hm) fun b hb => hs b (List.mem_flatMap.2 ⟨_, hm, hb⟩)).rep
  | _, _, u, .var hm hl, hu => by
    obtain rfl := hu
    obtain ⟨b, e, vs, h1, h2, h3, h4, h5⟩ := hc _ hm
    have hr := repC_cells (CoL.ok hc hs hl h4)
    have hlen := hr.len
    refine ⟨b, 0, e, vs, true, false, h1, hs b (List.mem_flatMap.2 ⟨_, hm, by rw [show u = _ from h1]; simp [blk]⟩), h3, by omega, ?_⟩
    rw [List.drop_zero, List.take_of_length_le (by omega)]
    exact hr
  | _, _, u, .clo ha hcc, ⟨va, vc, h1, h2, h3⟩ => ⟨va, vc, h1, CoL.ok hc hs ha h2, CoL.ok hc hs hcc h3⟩
  | _, _, u, .tup hl, ⟨vs, h1, h2⟩ => ⟨vs, h1, CoL.ok hc hs hl h2⟩
theorem CoL.ok (hc : ∀ c ∈ σ, CellR h (own σ ++ S0) c.1 c.2) (hs : ∀ b ∈ own σ, b ∉ S0) : ∀ {l l' : List PV} {us : List Value}, CoL σ l l' → RepL h (own σ ++ S0) l us → RepL h S0 l' us
  | _, _, us, .nil, hu => hu
  | _, _, us, .cons hp hl, ⟨u, r, h1, h2, h3⟩ => ⟨u, r, h1, Co.ok hc hs hp h2, CoL.ok hc hs hl h3⟩
end
/-- The first cell is shut: what is told of some slots by it. -/
inductive Shut (fl : VL) (c : Value × Cell) : VL → Prop where
  | nil : Shut fl c []
  | cons {k : Nat} {p p' : PV} {r : VL} (hk : lkV fl k = some p) (hc : Co [c] p p') (hr : Shut fl c r) : Shut fl c ((k, p') :: r)
theorem Iv.shut {c : Value × Cell} {nw : VL} (I : Iv h0 G S0 h (c :: σ) t ms fl) (hs : Shut fl c nw) : Iv h0 G S0 h σ t ms (nw ++ fl) := by
  have I' := I.forget
  have ho : own (c :: σ) = blk c.1 ++ own σ := rfl
  have ho1 : own [c] = blk c.1 := by show blk c.1 ++ [] = _; rw [List.append_nil]
  have hsl : Slots h (own σ ++ S0) t (nw ++ fl) := by
    clear I'
    induction hs with
    | nil => exact I.forget.slots
    | cons hk hc hr ih =>
      refine ih.cons (Co.ok (σ := [c]) (S0 := own σ ++ S0) (fun d hd => ?_) (fun b hb => ?_) hc ?_)
      · obtain rfl := List.mem_singleton.1 hd
        have := I.cells d List.mem_cons_self
        rw [ho1, ← List.append_assoc, ← ho]; exact this
      · rw [ho1] at hb
        have h1 := I.apart
        rw [ho] at h1
        intro hm
        rcases List.mem_append.1 hm with hm | hm
        · exact (List.nodup_append.1 h1).2.2 b hb b hm rfl
        · exact (I.new b (by rw [ho]; exact List.mem_append_left _ hb)).2 hm
      · rw [ho1, ← List.append_assoc, ← ho]; exact I.slots _ _ hk
  exact { I' with slots := hsl }
theorem VO.shut {c : Value × Cell} (nw : VL) (hs : Shut fl c nw) (hx : VO P orc ops n l (nw ++ fl) σ K) : VO P orc ops n l fl (c :: σ) K := fun h0 G S0 t h ms I => hx h0 G S0 t h ms (I.shut hs)
theorem VC.shut {a : Code} {c : Value × Cell} (nw : VL) (hs : Shut fl c nw) (hx : VC P orc rnd a n (nw ++ fl) σ Q) : VC P orc rnd a n fl (c :: σ) Q := fun h0 G S0 t h ms I => hx h0 G S0 t h ms (I.shut hs)
end Go.Fs
namespace Go.Fs
variable {P : Program} {orc : FuncId → List Value → Heap → Option (Value × Heap)} {rnd : Option Nat} {h h' h0 h1 h2 : Heap} {S S' S0 B G : List Nat} {σ σ' : Sto} {t t' : Tr} {ms : List Nat} {fl : VL} {ops : Array Oper} {n : Nat} {l : List Oper} {K : VL → Sto → Prop} {Q : Ex → VL → Sto → Prop}
  {d : Tmp} {ty : TypeId} {pos : String} {after : Array Edge} {op : Op} {v : PV} {g : Option (Nat × Bool)}

section
variable (P orc)
/-- A function's call, told by what its arguments and its result tell. -/
def VF (f : FuncId) (args : List PV) (r : PV) : Prop := ∀ (h : Heap) (S : List Nat) (us : List Value), HOk h → (∀ b ∈ S, b < h.next) → RepL h S args us → EvF P orc f us h fun u h' => Aft h h' [] ∧ RepPV h' S r u ∧ (r.flat = true → h' = h)
/-- A call of what a slot tells. -/
def VCall (F : PV) (args : List PV) (r : PV) : Prop := ∃ f a c, F = .clo f a c ∧ VF P orc f (a ++ args ++ c) r
end
theorem VF.call {f : FuncId} {args : List PV} {r : PV} (hf : VF P orc f args r) : VCall P orc (.clo f [] []) args r := ⟨f, [], [], rfl, by simpa using hf⟩
theorem VF.clo {f : FuncId} {a args c : List PV} {r : PV} (hf : VF P orc f (a ++ (args ++ c)) r) : VCall P orc (.clo f a c) args r := ⟨f, a, c, rfl, by rw [List.append_assoc]; exact hf⟩

theorem VCall.ev {F : PV} {args : List PV} {r : PV} (hc : VCall P orc F args r) {u : Value} {us : List Value} (hok : HOk h) (hS : ∀ b ∈ S, b < h.next) (hF : RepPV h S F u) (ha : RepL h S args us) :
    ∃ f a c, u = .func (.func f) a c ∧ EvF P orc f (a.toList ++ us ++ c.toList) h fun u h' => Aft h h' [] ∧ RepPV h' S r u ∧ (r.flat = true → h' = h) := by
  obtain ⟨f, a, c, rfl, hv⟩ := hc
  obtain ⟨va, vc, rfl, h1, h2⟩ := hF
  exact ⟨f, va.toArray, vc.toArray, rfl, hv h S _ hok hS ((h1.append ha).append h2)⟩
/-- A call. -/
theorem VO.call {f : Operand} {args : Array Operand} {ats : Array TypeId} {F r : PV} {as : List PV} (hf : evV fl f = some F) (ha : evVs fl args.toList = some as) (hc : VCall P orc F as r) (hk : VO P orc ops n l ((d, r) :: fl) σ K)
    (hw : wantV ops fl g = some true := by rfl) (hn : (Nat.blt d n && Nat.ble n 4000) = true := by rfl) : VO P orc ops n (⟨some d, .call { callee := .value f, args := args, argTypes := ats }, ty, pos, after, g⟩ :: l) fl σ K := fun h0 G S0 t h ms I => by
  obtain ⟨n1, n2⟩ := fits hn
  obtain ⟨fid, a, c, h1, h2⟩ := hc.ev I.ok (Lc.lt I.lc) (evV_ok I.slots hf) (evVs_ok I.slots ha)
  refine EvO.call (want_ok I.slots hw) rfl rfl h1 (h2.mono fun u h' hq => ?_)
  obtain ⟨q1, q2, _⟩ := hq
  exact ⟨_, put_fits n1 t u, hk h0 G S0 _ h' ms ((I.calm q1).set q2 n2)⟩
/-- A call of which nothing is left but a value, of data that are told by the own cells, too. -/
theorem VO.callC {f : Operand} {args : Array Operand} {ats : Array TypeId} {F F' r : PV} {as as' : List PV} (hf : evV fl f = some F) (ha : evVs fl args.toList = some as) (cF : Co σ F F') (ca : CoL σ as as') (hr : r.flat = true) (hc : VCall P orc F' as' r) (hk : VO P orc ops n l ((d, r) :: fl) σ K)
    (hw : wantV ops fl g = some true := by rfl) (hn : (Nat.blt d n && Nat.ble n 4000) = true := by rfl) : VO P orc ops n (⟨some d, .call { callee := .value f, args := args, argTypes := ats }, ty, pos, after, g⟩ :: l) fl σ K := fun h0 G S0 t h ms I => by
  obtain ⟨n1, n2⟩ := fits hn
  have L := I.lc
  obtain ⟨fid, a, c, h1, h2⟩ := hc.ev I.ok L.s0 (cF.ok L.cells L.sep (evV_ok I.slots hf)) (ca.ok L.cells L.sep (evVs_ok I.slots ha))
  refine EvO.call (want_ok I.slots hw) rfl rfl h1 (h2.mono fun u h' hq => ?_)
  obtain ⟨_, q2, q3⟩ := hq
  obtain rfl := q3 hr
  exact ⟨_, put_fits n1 t u, hk h0 G S0 _ h' ms (I.set ((q2.flat hr).2 _ _) n2)⟩

/-! ## A function's own run -/
def argVL : Nat → List PV → VL
  | _, [] => []
  | i, v :: r => (i, v) :: argVL (i + 1) r
theorem slots_args : ∀ {l : List PV} {us : List Value} {i : Nat} {t : Tr}, RepL h S l us → i + us.length ≤ 4000 → Slots h S (fillTr t i us) (argVL i l)
  | [], us, i, t, hx, _ => fun k v hk => by cases hk
  | p :: ps, us, i, t, ⟨u, r, h1, h2, h3⟩, hl => by
    subst h1
    rw [List.length_cons] at hl
    show Slots h S (fillTr (t.set depth i u) (i + 1) r) ((i, p) :: argVL (i + 1) ps)
    refine (slots_args h3 (by omega)).cons ?_
    rw [fill_get r (t.set depth i u) (i + 1) (by omega), if_pos (by omega), get_setD t i u i (by omega), if_pos rfl]
    exact h2
theorem af10 {us : List Value} (h : us.all af0 = true) : us.all af1 = true := List.all_eq_true.2 fun u hu => by
  have h1 := List.all_eq_true.1 h u hu
  cases u <;> first | exact h1 | cases h1
mutual
theorem RepPV.any1 : ∀ {pv : PV} {u : Value}, af1 u = true → RepPV h S pv u → RepPV h' S' pv u
  | .v τ x, u, ha, hx => RepV.anyHeap (τ := τ) hx ha
  | .raw w, u, _, hx => hx
  | .p τ x, u, ha, hx => by
    obtain ⟨b, o, e, rs, own, more, rfl, _⟩ := hx
    cases ha
  | .clo f a c, u, ha, hx => by
    obtain ⟨va, vc, rfl, _⟩ := hx
    cases ha
  | .tup l, u, ha, hx => by
    obtain ⟨vs, rfl, _⟩ := hx
    cases ha
  | .gd b v, u, ha, hx => ⟨fun e => RepPV.any1 ha (hx.1 e), hx.2⟩
  | .agg l, u, ha, hx => by
    obtain ⟨vs, rfl, h2⟩ := hx
    exact ⟨vs, rfl, RepL.any1 (af10 ha) h2⟩
theorem RepL.any1 : ∀ {l : List PV} {us : List Value}, us.all af1 = true → RepL h S l us → RepL h' S' l us
  | [], us, _, hx => hx
  | p :: ps, us, ha, ⟨u, r, h1, h2, h3⟩ => by
    subst h1
    rw [List.all_cons] at ha
    obtain ⟨a1, a2⟩ := band ha
    exact ⟨u, r, rfl, RepPV.any1 a1 h2, RepL.any1 a2 h3⟩
end
theorem not_rep_tuple {vs : Array Value} {τ : Ty} {x : τ.den} (hx : RepV h S τ (.tuple vs) x) : False := by
  have h1 := hx.1
  have h2 := hx.2
  cases hτ : τ.agg with
  | true => rw [hτ] at h1; cases h1
  | false =>
    cases τ with
    | sl e => obtain ⟨v, h3, h4⟩ := h2; simp [Value.cells] at h3; subst h3; rcases h4 with ⟨h4, _⟩ | ⟨_, _, _, h4, _⟩ <;> cases h4
    | pair a b => cases hτ
    | unit => cases hτ
    | mp a b => obtain ⟨v, h3, h4⟩ := h2; simp [Value.cells] at h3; subst h3; rcases h4 with ⟨h4, _⟩ | ⟨_, _, _, h4, _⟩ <;> cases h4
    | fn => cases x <;> simp [RepC, Value.cells, fnV] at h2
    | int k => simp [RepC, Value.cells] at h2
    | bool => simp [RepC, Value.cells] at h2
    | str => simp [RepC, Value.cells] at h2
    | flt k => simp [RepC, Value.cells] at h2
theorem RepPV.anyAf : ∀ {pv : PV} {u : Value}, af u = true → RepPV h S pv u → RepPV h' S' pv u
  | .tup l, u, ha, hx => by
    obtain ⟨vs, rfl, h2⟩ := hx
    exact ⟨vs, rfl, h2.any1 ha⟩
  | .v τ x, u, ha, hx => by
    cases u with
    | tuple vs => exact (not_rep_tuple hx).elim
    | _ => exact RepPV.any1 (pv := .v τ x) ha hx
  | .p τ x, u, ha, hx => by
    obtain ⟨b, o, e, rs, own, more, rfl, _⟩ := hx
    cases ha
  | .raw w, u, ha, hx => hx
  | .clo f a c, u, ha, hx => by
    obtain ⟨va, vc, rfl, _⟩ := hx
    cases ha
  | .gd b v, u, ha, hx => ⟨fun e => RepPV.anyAf ha (hx.1 e), hx.2⟩
  | .agg l, u, ha, hx => by
    have h1 := hx
    obtain ⟨vs, rfl, _⟩ := hx
    exact RepPV.any1 (pv := .agg l) ha h1

theorem drops_ok : ∀ {ms : List Nat} {h : Heap}, ms.Nodup → (∀ d ∈ ms, h.get d = some .defd) → ∃ h2, dropMarks ms h = some h2 ∧ Aft h h2 ms ∧ (∀ b, b ∉ ms → h2.get b = h.get b)
  | [], h, _, _ => ⟨h, rfl, Aft.refl _ _, fun _ _ => rfl⟩
  | d :: ms, h, hn, hd => by
    obtain ⟨hn1, hn2⟩ := List.nodup_cons.1 hn
    have hg : ∀ i ∈ ms, (h.drop d).get i = some .defd := fun i hi => by
      rw [Heap.get_drop, if_neg (fun e => hn1 (by subst e; exact hi))]
      exact hd i (List.mem_cons_of_mem _ hi)
    obtain ⟨h2, e1, e2, e3⟩ := drops_ok hn2 hg
    refine ⟨h2, ?_, (Aft.drop List.mem_cons_self).trans e2 fun i hi => .inl (List.mem_cons_of_mem _ hi), fun b hb => ?_⟩
    · simp only [dropMarks, hd d List.mem_cons_self]; exact e1
    · rw [List.mem_cons, not_or] at hb
      rw [e3 b hb.2, Heap.get_drop, if_neg hb.1]

/-- What a result tells. -/
inductive EndV (P : Program) (fl : VL) (σ : Sto) : ResultVar → PV → Prop where
  | tmp {i : Nat} {p p' : PV} (hi : lkV fl i = some p) (hc : Co σ p p') : EndV P fl σ (.tmp i) p'
  | cell {a : Nat} {ty : TypeId} {p : Value} {cs : List PV} {τ : Ty} {x : τ.den} (ha : lkV fl a = some (.raw p)) (hm : (p, Cell.var cs) ∈ σ) (hT : ValT P ty τ) (hc : CoL σ cs (cellsPV τ x)) : EndV P fl σ (.cell a ty) (.v τ x)
inductive EndL (P : Program) (fl : VL) (σ : Sto) : List ResultVar → List PV → Prop where
  | nil : EndL P fl σ [] []
  | cons {r : ResultVar} {p : PV} {rs : List ResultVar} {ps : List PV} (hr : EndV P fl σ r p) (hs : EndL P fl σ rs ps) : EndL P fl σ (r :: rs) (p :: ps)
def tupV : List PV → PV
  | [p] => p
  | l => .tup l
def VEnd (P : Program) (fn : Func) (r : PV) : Ex → VL → Sto → Prop := fun e fl σ => e.goes = true ∧ ∃ ps, EndL P fl σ fn.results.toList ps ∧ tupV ps = r

theorem EndV.ok (L : Lc S0 h σ t fl) (hg : ∀ b o, h.get b = some o → o ≠ .defd → h2.get b = some o) (hN : GoesR h S0 h2 S0) {r : ResultVar} {p : PV} (he : EndV P fl σ r p) : ∃ u, fsResult P t h2 r = some u ∧ RepPV h2 S0 p u := by
  cases he with
  | tmp hi hc => exact ⟨_, rfl, (hc.ok L.cells L.sep (L.slots _ _ hi)).nxR hN⟩
  | @cell a ty p cs τ x ha hm hT hc =>
    have hp : t.get a = p := L.slots _ _ ha
    have hr : RepPV h S0 (.p τ x) p := Co.ok L.cells L.sep (.var hm hc) (show RepPV h _ (.raw p) p from rfl)
    have hr2 := (hr.nxR hN : RepP h2 S0 τ p x)
    obtain ⟨e1, e2⟩ := hr2.load' hT
    exact ⟨_, by show fsLoad P ty (t.get a) h2 = _; rw [hp]; exact e1, e2⟩
theorem EndL.ok (L : Lc S0 h σ t fl) (hg : ∀ b o, h.get b = some o → o ≠ .defd → h2.get b = some o) (hN : GoesR h S0 h2 S0) : ∀ {rs : List ResultVar} {ps : List PV}, EndL P fl σ rs ps → ∃ us, fsResults P t h2 rs = some us ∧ RepL h2 S0 ps us
  | _, _, .nil => ⟨[], rfl, rfl⟩
  | _, _, .cons hr hs => by
    obtain ⟨u, e1, e2⟩ := hr.ok L hg hN
    obtain ⟨us, e3, e4⟩ := EndL.ok L hg hN hs
    exact ⟨u :: us, by simp only [fsResults, e1, e3], u, us, rfl, e2, e4⟩
theorem tup_rep : ∀ {ps : List PV} {us : List Value}, RepL h S ps us → RepPV h S (tupV ps) (tupled us)
  | [], us, hx => ⟨[], by rw [show us = [] from hx]; rfl, rfl⟩
  | [p], us, ⟨u, r, h1, h2, h3⟩ => by
    obtain rfl : r = [] := h3
    subst h1; exact h2
  | p :: q :: ps, us, hx => by
    obtain ⟨u, r, h1, h2, u2, r2, h3, h4, h5⟩ := hx
    subst h1 h3
    exact ⟨_, rfl, u, _, rfl, h2, u2, _, rfl, h4, h5⟩

/-- **A function is what its body shows.** -/
theorem VF.enter {f : FuncId} {args : List PV} {fn : Func} {c : Code} {r : PV} (hfn : P.funcs[f]? = some fn) (hc : fn.body = some c) (ho : ∀ us h, orc f us h = none) (hn : (Nat.blt 4000 fn.ntmps || Nat.blt fn.ntmps args.length) = false)
    (hb : VC P orc none c fn.ntmps (argVL 0 args) [] (VEnd P fn r)) : VF P orc f args r := fun h S us hok hS ha => by
  have hl := ha.len
  have hn2 : Nat.blt 4000 fn.ntmps = false ∧ Nat.blt fn.ntmps args.length = false := by simpa using hn
  have n3 := nble_no hn2.1
  have n4 := nble_no hn2.2
  have ha' : RepL (entry h) S args us := RepL.nx (h := h) (h' := entry h) (Goes.objs fun _ => rfl) ha
  have I0 : Iv (entry h) [] S (entry h) [] (fillTr .leaf 0 us) [] (argVL 0 args) := {
    ok := hok
    s0 := hS
    aft := Aft.refl _ _
    cells := fun c hc => by cases hc
    new := fun b hb => by cases hb
    apart := List.nodup_nil
    mark := fun d hd => by cases hd
    marks := List.nodup_nil
    slots := slots_args ha' (by omega) }
  refine EvF.enter hfn hc (ho us h) (by rw [hl]; exact hn) ((hb (entry h) [] S _ (entry h) [] I0).mono fun e fr h1 hq => ?_)
  obtain ⟨_, fl', σ', I, he, ps, hps, rfl⟩ := hq
  obtain ⟨h2, d1, d2, d3⟩ := drops_ok I.marks fun d hd => (I.mark d hd).2
  have hgd : ∀ b o, h1.get b = some o → o ≠ .defd → h2.get b = some o := fun b o hg hne => by
    rw [d3 b (fun hm => hne (by have := (I.mark b hm).2; rw [hg] at this; exact Option.some.inj this))]; exact hg
  have a2 : Aft (entry h) h2 [] := I.aft.trans d2 fun i hi => .inr (I.mark i hi).1
  have hN : GoesR h1 S h2 S := fun b _ hg hne hbS => ⟨hgd b _ hg hne, hbS⟩
  obtain ⟨us', e1, e2⟩ := hps.ok I.lc hgd hN
  have hrep := tup_rep e2
  have hlow : h.next ≤ h2.low := a2.low h.next (Nat.le_refl _) (Nat.le_refl _) (by simp)
  refine ⟨he, h2, us', d1, e1, ?_⟩
  unfold leftOf
  have hble : Nat.ble h.next h2.low = true := by rw [Nat.ble_eq]; exact hlow
  cases haf : af (tupled us') with
  | true =>
    rw [hble]
    exact ⟨Aft.refl _ _, hrep.anyAf haf, fun _ => rfl⟩
  | false =>
    refine ⟨⟨a2.next, fun b hb _ => a2.get b hb (by simp), fun x => a2.ok x, fun e h3 h4 _ => Nat.le_min.2 ⟨h3, Nat.le_trans h4 hlow⟩, fun b hb => .inl (a2.get b hb (by simp)), Nat.min_le_left _ _⟩, RepPV.nx (h := h2) (h' := { next := h2.next, low := min h.low h2.low, objs := h2.objs }) (fun _ _ a b => ⟨a, b⟩) hrep, fun hf => ?_⟩
    rw [(hrep.flat hf).1] at haf; cases haf
end Go.Fs
namespace Go.Fs
variable {P : Program} {orc : FuncId → List Value → Heap → Option (Value × Heap)} {rnd : Option Nat} {h h' h0 h1 h2 hs : Heap} {S S' S0 B G : List Nat} {σ σ' : Sto} {t t' : Tr} {ms : List Nat} {fl : VL} {ops : Array Oper} {n i mem : Nat} {l : List Oper} {K : VL → Sto → Prop} {Q : Ex → VL → Sto → Prop}
  {d : Tmp} {ty : TypeId} {pos : String} {after : Array Edge} {op : Op} {v : PV} {g : Option (Nat × Bool)} {bs nw : List Nat} {segs : List (Nat × Nat × Nat)} {tail so : Bool}

def nwHas : List Nat → Nat → Bool
  | [], _ => false
  | k :: r, i => bif Nat.beq k i then true else nwHas r i
def nwSet (old : Bool) (d : Nat) (nw : List Nat) : List Nat := bif old then nw.filter (fun k => !Nat.beq k d) else d :: nw
def oldX (nw : List Nat) : Operand → Bool
  | .tmp i => !nwHas nw i
  | _ => true
theorem nwHas_filter {d k : Nat} (hk : k ≠ d) : ∀ {nw : List Nat}, nwHas (nw.filter fun k => !Nat.beq k d) k = nwHas nw k
  | [] => rfl
  | a :: r => by
    rw [List.filter_cons]
    by_cases ha : a = d
    · subst ha
      rw [Nat.beq_refl]
      simp only [Bool.not_true, Bool.false_eq_true, if_false, nwHas]
      rw [beq_no (Ne.symm hk)]
      exact nwHas_filter hk
    · rw [beq_no ha]
      simp only [Bool.not_false, if_true, nwHas]
      rw [nwHas_filter hk]

/-- What lay there when the region began: the slots that are not new, and, if 'so', the own cells. -/
def Old (S0 : List Nat) (h : Heap) (σ : Sto) (t : Tr) (fl : VL) (nw : List Nat) (so : Bool) (segs : List (Nat × Nat × Nat)) : Prop := ∃ hs, HOk hs ∧ After hs h ∧ SegsOk hs segs ∧ (∀ b ∈ S0, b < hs.next) ∧
  (∀ k pv, lkV fl k = some pv → nwHas nw k = false → RepPV hs (own σ ++ S0) pv (t.get k)) ∧ (so = true → ∀ c ∈ σ, CellR hs (own σ ++ S0) c.1 c.2)
section
variable (P orc)
def VD (ops : Array Oper) (n : Nat) (l : List Oper) (i : Nat) (fl : VL) (nw : List Nat) (σ : Sto) (so : Bool) (bs : List Nat) (mem : Nat) (tail : Bool) (K : VL → Sto → Prop) : Prop :=
  ∀ (h0 : Heap) (G S0 : List Nat) (t : Tr) (h : Heap) (ms : List Nat) (segs : List (Nat × Nat × Nat)), Iv h0 G S0 h σ t ms fl → (tail = false → Old S0 h σ t fl nw so segs) →
    EvD P orc ops n l i ⟨t, h, bs, segs, mem, tail⟩ fun s => ∃ fl' σ', Iv h0 G S0 s.h σ' s.t ms fl' ∧ K fl' σ'
end
theorem VC.drawn {id : Nat} {ops : Array Oper} (hx : VD P orc ops n ops.toList 0 fl [] σ true [] 0 false fun fl' σ' => Q .normal fl' σ') : VC P orc rnd (.region id ops true) n fl σ Q := fun h0 G S0 t h ms I => by
  refine EvC.draw ?_
  obtain ⟨m, s', h1, fl', σ', h2, h3⟩ := hx h0 G S0 t h ms [] I fun _ => ⟨h, I.ok, After.refl h, SegsOk.nil, I.lc.s0, fun k pv hk _ => I.slots k pv hk, fun _ => I.cells⟩
  exact ⟨m, s', h1, rfl, fl', σ', h2, h3⟩
theorem VD.nil (hk : K fl σ) : VD P orc ops n [] i fl nw σ so bs mem tail K := fun _ _ _ _ _ _ _ I _ => EvD.nil ⟨fl, σ, I, hk⟩

/-- The old slots, with one more. -/
theorem Old.set {u : Value} {old : Bool} (ho : Old S0 h σ t fl nw so segs) (hd : d < 4000) (hu : old = true → ∀ hs, HOk hs → After hs h → (∀ b ∈ S0, b < hs.next) → (∀ k pv, lkV fl k = some pv → nwHas nw k = false → RepPV hs (own σ ++ S0) pv (t.get k)) → (so = true → ∀ c ∈ σ, CellR hs (own σ ++ S0) c.1 c.2) → RepPV hs (own σ ++ S0) v u) :
    Old S0 h σ (t.set depth d u) ((d, v) :: fl) (nwSet old d nw) so segs := by
  obtain ⟨hs, h1, h2, h3, h4, h5, h6⟩ := ho
  refine ⟨hs, h1, h2, h3, h4, fun k pv hk hn => ?_, h6⟩
  rw [get_setD t d u k hd]
  simp only [lkV] at hk
  cases hb : Nat.beq d k with
  | true =>
    rw [hb] at hk
    simp only [cond_true, Option.some.injEq] at hk
    subst hk
    rw [if_pos (nbeq hb).symm]
    cases old with
    | true => exact hu rfl hs h1 h2 h4 h5 h6
    | false =>
      simp only [nwSet, cond_false, nwHas, hb, cond_true] at hn
      cases hn
  | false =>
    rw [hb] at hk
    simp only [cond_false] at hk
    have hne := ne_of_no hb
    rw [if_neg (Ne.symm hne)]
    refine h5 k pv hk ?_
    cases old with
    | true => rw [nwSet, cond_true, nwHas_filter (Ne.symm hne)] at hn; exact hn
    | false => simpa only [nwSet, cond_false, nwHas, hb] using hn
/-- The same, as the heap goes on. -/
theorem Old.next {lo hi : Nat} (ho : Old S0 h σ t fl nw so segs) (ha : After h h') (hl : h.next ≤ lo) : Old S0 h' σ t fl nw so ((i, lo, hi) :: segs) := by
  obtain ⟨hs, h1, h2, h3, h4, h5, h6⟩ := ho
  exact ⟨hs, h1, h2.trans ha, SegsOk.cons (Nat.le_trans h2.next hl) h3, h4, h5, h6⟩
theorem Old.seg {lo hi : Nat} (ho : Old S0 h σ t fl nw so segs) (hl : h.next ≤ lo) : Old S0 h σ t fl nw so ((i, lo, hi) :: segs) := ho.next (After.refl h) hl
theorem old_sees {fl : VL} (h5 : ∀ k pv, lkV fl k = some pv → nwHas nw k = false → RepPV hs S pv (t.get k)) {x : Operand} {pv : PV} (hx : evV fl x = some pv) (ho : oldX nw x = true) : RepPV hs S pv (evalO t x) := by
  cases x with
  | tmp k => exact h5 k pv hx (by simpa [oldX] using ho)
  | const c =>
    obtain ⟨h1, h2⟩ := constV_ok hx
    show RepPV hs S pv (if af c then c else junk)
    rw [if_pos h1]; exact h2 _ _
  | global g => cases hx
  | func f => obtain rfl := Option.some.inj hx; exact ⟨[], [], rfl, rfl, rfl⟩
def oldOp (nw : List Nat) (op : Op) : Bool := op.operands.toList.all (oldX nw)
theorem old_op {fl : VL} (h5 : ∀ k pv, lkV fl k = some pv → nwHas nw k = false → RepPV hs S pv (t.get k)) (ho : oldOp nw op = true) : Sees hs S t fl op := fun x hx pv hp => old_sees h5 hp (List.all_eq_true.1 ho x hx)

/-- An operation that looks at nothing. -/
theorem VD.c {b : Nat} (hc : CalmV P fl [] op v) (hk : VD P orc ops n l (i + 1) ((d, v) :: fl) (nwSet (oldOp nw op || v.flat0) d nw) σ so (bs ++ [b]) mem tail K)
    (hb : beforeOf bs ⟨some d, op, ty, pos, after, g⟩ = b := by rfl) (hw : wantV ops fl g = some true := by rfl) (hn : (Nat.blt d n && Nat.ble n 4000) = true := by rfl) :
    VD P orc ops n (⟨some d, op, ty, pos, after, g⟩ :: l) i fl nw σ so bs mem tail K := fun h0 G S0 t h ms segs I ho => by
  obtain ⟨n1, n2⟩ := fits hn
  obtain ⟨u, e1, e2⟩ := hc.2 h (own σ ++ S0) t I.slots.sees (fun _ hc => by cases hc)
  refine EvD.op (s' := ⟨t.set depth d u, h, bs ++ [b], segs, mem, tail⟩) ?_ (hk h0 G S0 _ h ms segs (I.set e1 n2) fun ht => (ho ht).set n2 fun hold hs a1 a2 a3 a4 a5 => ?_)
  · unfold fsDraw
    have hwt : fsWanted ops t ⟨some d, op, ty, pos, after, g⟩ = some true := want_ok I.slots hw
    simp only [hwt, hc.1, if_true, e2, Nat.beq_refl, cond_true, put_fits n1, Option.map_some, hb]
  · rcases Bool.or_eq_true_iff.1 hold with hold | hold
    · obtain ⟨u', f1, f2⟩ := hc.2 hs (own σ ++ S0) t (old_op a4 hold) (fun _ hc => by cases hc)
      have : u' = u := by
        have g1 := e2 none 0 "" #[] none h
        rw [f2 none 0 "" #[] none h] at g1
        simpa using g1
      rw [← this]; exact f1
    · exact (RepPV.flat0 hold e1).2 _ _
/-- What an operation sees. -/
theorem seen_ok (I : Iv h0 G S0 h σ t ms fl) {o : Oper} {b : Nat} (hb : beforeOf bs o = b) (ho : tail = false → Old S0 h σ t fl nw so segs) :
    ∃ M, seenBy o ⟨t, h, bs, segs, mem, tail⟩ = M ∧ HOk M ∧ M.next = h.next ∧ M.low = h.next ∧ (∀ b o, M.get b = some o → h.get b = some o) ∧ (Nat.beq (mem &&& b) mem = true → M = entry h) ∧ (tail = false → ∃ hs, HOk hs ∧ After hs h ∧ After hs M ∧ SegsOk hs segs ∧ (∀ b ∈ S0, b < hs.next) ∧
      (∀ k pv, lkV fl k = some pv → nwHas nw k = false → RepPV hs (own σ ++ S0) pv (t.get k)) ∧ (so = true → ∀ c ∈ σ, CellR hs (own σ ++ S0) c.1 c.2)) := by
  have hM4 : ∀ b o', (seenBy o ⟨t, h, bs, segs, mem, tail⟩).get b = some o' → h.get b = some o' := by
    unfold seenBy
    simp only [hb]
    cases Nat.beq (mem &&& b) mem with
    | true => exact fun b o hg => hg
    | false => exact fun b o hg => mask_sees segs h.objs hg
  refine ⟨_, rfl, fun b o' hg => I.ok b o' (hM4 b o' hg), rfl, rfl, hM4, fun hord => ?_, fun ht => ?_⟩
  · unfold seenBy entry
    simp only [hb, hord, cond_true]
  · obtain ⟨hs, h1, h2, h3, h4, h5, h6⟩ := ho ht
    refine ⟨hs, h1, h2, ?_, h3, h4, h5, h6⟩
    unfold seenBy
    simp only [hb]
    cases Nat.beq (mem &&& b) mem with
    | true => exact ⟨h2.next, h2.get, h2.ok, fun e h1 h3 => Nat.le_trans h3 h2.next⟩
    | false => exact msk_after h2 h3

theorem draw_read {b : Nat} {o : Oper} {u : Value} {M : Heap} (hM : seenBy o ⟨t, h, bs, segs, mem, tail⟩ = M) (hMn : M.next = h.next) (hMl : M.low = h.next) (hb : beforeOf bs o = b) (hd : o.dst = some d) (hcalm : calm o.op = false) (hw : fsWanted ops t o = some true) (htl : (tail && !Nat.beq (mem &&& b) mem) = false)
    (hst : stepO P o (evalO t) M = some (u, M)) (n1 : Nat.blt d n = true) : fsDraw (stepO P) ops n o i ⟨t, h, bs, segs, mem, tail⟩ = some ⟨t.set depth d u, h, bs ++ [b], (i, h.next, h.next) :: segs, mem ||| 2 ^ i, tail⟩ := by
  unfold fsDraw
  have hM' : ({ next := h.next, low := h.next, objs := bif Nat.beq (mem &&& b) mem then h.objs else mask b segs h.objs } : Heap) = M := by
    rw [← hM]; unfold seenBy; simp only [hb]
  simp only [hw, hcalm, Bool.false_eq_true, if_false, hb, htl, cond_false, hM', hst]
  simp only [hMn, hMl, blt_refl', ble_refl', cond_false, hd, put_fits n1, cond_true, newer_same, List.nil_append]
/-- An operation that reads what lay there when the region began; 'cs': the own cells that it reads. -/
theorem VD.r {b : Nat} (cs : Sto) (hc : ReadV P fl cs op v) (hcs : cs = [] ∨ (so = true ∧ cs = σ)) (hk : VD P orc ops n l (i + 1) ((d, v) :: fl) (nwSet true d nw) σ so (bs ++ [b]) (mem ||| 2 ^ i) false K)
    (hb : beforeOf bs ⟨some d, op, ty, pos, after, g⟩ = b := by rfl) (hold : oldOp nw op = true := by rfl) (hw : wantV ops fl g = some true := by rfl) (hn : (Nat.blt d n && Nat.ble n 4000) = true := by rfl) :
    VD P orc ops n (⟨some d, op, ty, pos, after, g⟩ :: l) i fl nw σ so bs mem false K := fun h0 G S0 t h ms segs I ho => by
  obtain ⟨n1, n2⟩ := fits hn
  obtain ⟨M, m1, m2, m3, m4, m5, m6, m7⟩ := seen_ok (mem := mem) I hb ho
  obtain ⟨hs, a1, a2, a3, a4, a5, a6, a7⟩ := m7 rfl
  have hcell : ∀ c ∈ cs, CellR hs (own σ ++ S0) c.1 c.2 := by
    rcases hcs with rfl | ⟨hso, hcs⟩
    · intro c hc; cases hc
    · rw [hcs]; exact a7 hso
  obtain ⟨u, e1, e2⟩ := hc.2 hs (own σ ++ S0) t (old_op a6 hold) hcell
  have hst := e2 M (fun b o hg => by rw [a3.get b (a1 b o hg)]; exact hg) (some d) ty pos after g
  have hrep : RepPV h (own σ ++ S0) v u := e1.nx (a2.nx a1)
  refine EvD.op (draw_read m1 m3 m4 hb rfl hc.1 (want_ok I.slots hw) rfl hst n1) (hk h0 G S0 _ h ms _ (I.set hrep n2) fun _ => ?_)
  refine Old.seg ?_ (Nat.le_refl _)
  refine Old.set (old := true) ⟨hs, a1, a2, a4, a5, a6, a7⟩ n2 fun _ hs' b1 b2 b3 b4 b5 => ?_
  have hcell' : ∀ c ∈ cs, CellR hs' (own σ ++ S0) c.1 c.2 := by
    rcases hcs with rfl | ⟨hso, hcs⟩
    · intro c hc; cases hc
    · rw [hcs]; exact b5 hso
  obtain ⟨u', f1, f2⟩ := hc.2 hs' (own σ ++ S0) t (old_op b4 hold) hcell'
  have g1 := e2 h (fun b o hg => by rw [a2.get b (a1 b o hg)]; exact hg) (some d) ty pos after g
  rw [f2 h (fun b o hg => by rw [b2.get b (b1 b o hg)]; exact hg) (some d) ty pos after g] at g1
  have : u' = u := by simpa using g1
  rw [← this]; exact f1
/-- An operation that reads, ordered behind all that was made. -/
theorem VD.ro {b : Nat} (hc : ReadV P fl σ op v) (hk : VD P orc ops n l (i + 1) ((d, v) :: fl) (nwSet v.flat0 d nw) σ so (bs ++ [b]) (mem ||| 2 ^ i) tail K)
    (hb : beforeOf bs ⟨some d, op, ty, pos, after, g⟩ = b := by rfl) (hord : Nat.beq (mem &&& b) mem = true := by rfl) (hw : wantV ops fl g = some true := by rfl) (hn : (Nat.blt d n && Nat.ble n 4000) = true := by rfl) :
    VD P orc ops n (⟨some d, op, ty, pos, after, g⟩ :: l) i fl nw σ so bs mem tail K := fun h0 G S0 t h ms segs I ho => by
  obtain ⟨n1, n2⟩ := fits hn
  obtain ⟨M, m1, m2, m3, m4, m5, m6, m7⟩ := seen_ok (mem := mem) I hb ho
  have hMe := m6 hord
  obtain ⟨u, e1, e2⟩ := hc.2 h (own σ ++ S0) t I.slots.sees I.cells
  have hst := e2 M (fun b o hg => by rw [hMe]; exact hg) (some d) ty pos after g
  refine EvD.op (draw_read m1 m3 m4 hb rfl hc.1 (want_ok I.slots hw) (by rw [hord]; simp) hst n1) (hk h0 G S0 _ h ms _ (I.set e1 n2) fun ht => ?_)
  exact Old.seg ((ho ht).set n2 fun hf _ _ _ _ _ _ => (RepPV.flat0 hf e1).2 _ _) (Nat.le_refl _)

theorem VD.skip {b : Nat} (hk : VD P orc ops n l (i + 1) ((d, .raw undef) :: fl) (nwSet true d nw) σ so (bs ++ [b]) mem tail K)
    (hb : beforeOf bs ⟨some d, op, ty, pos, after, g⟩ = b := by rfl) (hw : wantV ops fl g = some false := by rfl) (hn : (Nat.blt d n && Nat.ble n 4000) = true := by rfl) :
    VD P orc ops n (⟨some d, op, ty, pos, after, g⟩ :: l) i fl nw σ so bs mem tail K := fun h0 G S0 t h ms segs I ho => by
  obtain ⟨n1, n2⟩ := fits hn
  have hwt : fsWanted ops t ⟨some d, op, ty, pos, after, g⟩ = some false := want_ok I.slots hw
  refine EvD.op (s' := ⟨t.set depth d undef, h, bs ++ [b], segs, mem, tail⟩) ?_ (hk h0 G S0 _ h ms segs (I.set (show RepPV _ _ (.raw undef) undef from rfl) n2) fun ht => (ho ht).set n2 fun _ _ _ _ _ _ _ => (show RepPV _ _ (.raw undef) undef from rfl))
  unfold fsDraw
  simp only [hwt, put_fits n1, Option.map_some, hb]
theorem VD.splitB {x : Tmp} {r : Bool} (hc : lkV fl x = some (.v .bool r)) (ht : r = true → VD P orc ops n l i ((x, .v .bool true) :: fl) (nwSet true x nw) σ so bs mem tail K) (hf : r = false → VD P orc ops n l i ((x, .v .bool false) :: fl) (nwSet true x nw) σ so bs mem tail K) :
    VD P orc ops n l i fl nw σ so bs mem tail K := fun h0 G S0 t h ms segs I ho => by
  have hx : Iv h0 G S0 h σ t ms ((x, .v .bool r) :: fl) := { I with slots := I.slots.cons (I.slots x _ hc) }
  have hO : tail = false → Old S0 h σ t ((x, .v .bool r) :: fl) (nwSet true x nw) so segs := fun e => by
    obtain ⟨hs, h1, h2, h3, h4, h5, h6⟩ := ho e
    refine ⟨hs, h1, h2, h3, h4, fun k pv hk hn => ?_, h6⟩
    simp only [lkV] at hk
    cases hb : Nat.beq x k with
    | true =>
      rw [hb] at hk
      simp only [cond_true, Option.some.injEq] at hk
      subst hk
      rw [← nbeq hb]
      exact (RepPV.flat0 (pv := .v .bool r) rfl (I.slots x _ hc)).2 _ _
    | false =>
      rw [hb] at hk
      simp only [cond_false] at hk
      refine h5 k pv hk ?_
      rw [nwSet, cond_true, nwHas_filter (Ne.symm (ne_of_no hb))] at hn; exact hn
  cases r with
  | true => exact ht rfl h0 G S0 t h ms segs hx hO
  | false => exact hf rfl h0 G S0 t h ms segs hx hO
theorem VD.splitD {x : Tmp} {p : Prop} {inst : Decidable p} (hc : lkV fl x = some (.v .bool (@decide p inst))) (ht : p → VD P orc ops n l i ((x, .v .bool true) :: fl) (nwSet true x nw) σ so bs mem tail K) (hf : ¬ p → VD P orc ops n l i ((x, .v .bool false) :: fl) (nwSet true x nw) σ so bs mem tail K) :
    VD P orc ops n l i fl nw σ so bs mem tail K := VD.splitB hc (fun h => ht (of_decide_eq_true h)) fun h => hf (of_decide_eq_false h)

/-! ## Calls -/
/-- A call of what lay there, or whose result is all that is left. -/
theorem VD.call {b : Nat} {f : Operand} {args : Array Operand} {ats : Array TypeId} {F r : PV} {as : List PV} (hf : evV fl f = some F) (ha : evVs fl args.toList = some as) (hc : VCall P orc F as r) (hk : VD P orc ops n l (i + 1) ((d, r) :: fl) (nwSet r.flat d nw) σ so (bs ++ [b]) (mem ||| 2 ^ i) false K)
    (hb : beforeOf bs ⟨some d, .call { callee := .value f, args := args, argTypes := ats }, ty, pos, after, g⟩ = b := by rfl) (hold : (oldX nw f && args.toList.all (oldX nw)) = true := by rfl) (hw : wantV ops fl g = some true := by rfl) (hn : (Nat.blt d n && Nat.ble n 4000) = true := by rfl) :
    VD P orc ops n (⟨some d, .call { callee := .value f, args := args, argTypes := ats }, ty, pos, after, g⟩ :: l) i fl nw σ so bs mem false K := fun h0 G S0 t h ms segs I ho => by
  obtain ⟨n1, n2⟩ := fits hn
  obtain ⟨o1, o2⟩ := band hold
  obtain ⟨M, m1, m2, m3, m4, m5, m6, m7⟩ := seen_ok (mem := mem) I hb ho
  obtain ⟨hs, a1, a2, a3, a4, a5, a6, a7⟩ := m7 rfl
  have hN : Goes hs (own σ ++ S0) M (own σ ++ S0) := a3.nx a1
  have hargs : ∀ (l : List Operand) (as : List PV), evVs fl l = some as → l.all (oldX nw) = true → RepL M (own σ ++ S0) as (l.map (evalO t)) := by
    intro l
    induction l with
    | nil => intro as hx _; obtain rfl := Option.some.inj hx; rfl
    | cons x r ih =>
      intro as hx hl
      rw [List.all_cons] at hl
      obtain ⟨l1, l2⟩ := band hl
      simp only [evVs] at hx
      split at hx
      · rename_i v vs0 hv hvs
        obtain rfl := Option.some.inj hx
        exact ⟨_, _, rfl, (old_sees a6 hv l1).nx hN, ih vs0 hvs l2⟩
      · cases hx
  obtain ⟨fid, ca, cc, h1, h2⟩ := hc.ev m2 (fun b hb => by rw [m3]; exact Lc.lt I.lc b hb) ((old_sees a6 hf o1).nx hN) (hargs _ _ ha o2)
  refine EvD.call (o := ⟨some d, .call { callee := .value f, args := args, argTypes := ats }, ty, pos, after, g⟩) (want_ok I.slots hw) rfl rfl h1 rfl ?_
  rw [m1]
  refine h2.mono fun u h' hq => ?_
  obtain ⟨q1, q2, q3⟩ := hq
  have hA := q1.after
  have hl : h.next ≤ h'.low := hA.low h.next (by omega) (by omega)
  have hlow : Nat.ble h.next h'.low = true := by rw [Nat.ble_eq]; exact hl
  have hnx : h.next ≤ h'.next := by have := hA.next; omega
  refine ⟨blt_of_le hnx, by simp only [hlow, Bool.true_or], _, put_fits n1 t u, ?_⟩
  have hd : drewOn ⟨some d, .call { callee := .value f, args := args, argTypes := ats }, ty, pos, after, g⟩ i ⟨t, h, bs, segs, mem, false⟩ (t.set depth d u) h' =
      ⟨t.set depth d u, { next := h'.next, low := h.low, objs := newer h.next h'.next h'.objs ++ h.objs }, bs ++ [b], (i, h.next, h'.next) :: segs, mem ||| 2 ^ i, false⟩ := by
    unfold drewOn
    simp only [hlow, cond_true, hb]
  rw [hd]
  obtain ⟨e1, e2⟩ := newer_left (h' := h') I.ok m5 m3 hA m2
  have eA : Aft h { next := h'.next, low := h.low, objs := newer h.next h'.next h'.objs ++ h.objs } [] := ⟨e1.next, fun b hb _ => e1.get b hb, e1.ok, fun e h3 h4 _ => e1.low e h3 h4, fun b hb => .inl (e1.get b hb), Nat.le_refl _⟩
  refine hk h0 G S0 _ _ ms _ ((I.calm eA).set (q2.nx (e2 _)) n2) fun _ => ?_
  exact ((Old.set (old := r.flat) ⟨hs, a1, a2, a4, a5, a6, a7⟩ n2 fun hfl _ _ _ _ _ _ => (q2.flat hfl).2 _ _)).next e1 (Nat.le_refl _)
/-- A call, ordered behind all that was made. -/
theorem VD.callO {b : Nat} {f : Operand} {args : Array Operand} {ats : Array TypeId} {F r : PV} {as : List PV} (hf : evV fl f = some F) (ha : evVs fl args.toList = some as) (hc : VCall P orc F as r) (hk : VD P orc ops n l (i + 1) ((d, r) :: fl) (nwSet r.flat d nw) σ so (bs ++ [b]) (mem ||| 2 ^ i) tail K)
    (hb : beforeOf bs ⟨some d, .call { callee := .value f, args := args, argTypes := ats }, ty, pos, after, g⟩ = b := by rfl) (hord : Nat.beq (mem &&& b) mem = true := by rfl) (hw : wantV ops fl g = some true := by rfl) (hn : (Nat.blt d n && Nat.ble n 4000) = true := by rfl) :
    VD P orc ops n (⟨some d, .call { callee := .value f, args := args, argTypes := ats }, ty, pos, after, g⟩ :: l) i fl nw σ so bs mem tail K := fun h0 G S0 t h ms segs I ho => by
  obtain ⟨n1, n2⟩ := fits hn
  obtain ⟨M, m1, m2, m3, m4, m5, m6, m7⟩ := seen_ok (mem := mem) I hb ho
  obtain rfl := m6 hord
  have Le := I.lc.objs (h' := entry h) (fun _ => rfl) rfl
  obtain ⟨fid, ca, cc, h1, h2⟩ := hc.ev m2 Le.lt (evV_ok Le.slots hf) (evVs_ok Le.slots ha)
  refine EvD.call (o := ⟨some d, .call { callee := .value f, args := args, argTypes := ats }, ty, pos, after, g⟩) (want_ok I.slots hw) rfl rfl h1 (by simp only [hb, hord]; simp) ?_
  rw [m1]
  refine h2.mono fun u h' hq => ?_
  obtain ⟨q1, q2, q3⟩ := hq
  have hA := q1.after
  have hl : h.next ≤ h'.low := hA.low h.next (Nat.le_refl _) (Nat.le_refl _)
  have hlow : Nat.ble h.next h'.low = true := by rw [Nat.ble_eq]; exact hl
  have hnx : h.next ≤ h'.next := hA.next
  refine ⟨blt_of_le hnx, by simp only [hlow, Bool.true_or], _, put_fits n1 t u, ?_⟩
  have hd : drewOn ⟨some d, .call { callee := .value f, args := args, argTypes := ats }, ty, pos, after, g⟩ i ⟨t, h, bs, segs, mem, tail⟩ (t.set depth d u) h' =
      ⟨t.set depth d u, { next := h'.next, low := h.low, objs := newer h.next h'.next h'.objs ++ h.objs }, bs ++ [b], (i, h.next, h'.next) :: segs, mem ||| 2 ^ i, tail⟩ := by
    unfold drewOn
    simp only [hlow, cond_true, hb]
  rw [hd]
  obtain ⟨e1, e2⟩ := newer_left (h' := h') I.ok m5 rfl hA m2
  have eA : Aft h { next := h'.next, low := h.low, objs := newer h.next h'.next h'.objs ++ h.objs } [] := ⟨e1.next, fun b hb _ => e1.get b hb, e1.ok, fun e h3 h4 _ => e1.low e h3 h4, fun b hb => .inl (e1.get b hb), Nat.le_refl _⟩
  refine hk h0 G S0 _ _ ms _ ((I.calm eA).set (q2.nx (e2 _)) n2) fun ht => ?_
  exact ((ho ht).set n2 fun hfl _ _ _ _ _ _ => (q2.flat hfl).2 _ _).next e1 (Nat.le_refl _)
/-- A call of which nothing is left but a value, of data that are told by the own cells, too, ordered behind all that was made. -/
theorem VD.callC {b : Nat} {f : Operand} {args : Array Operand} {ats : Array TypeId} {F F' r : PV} {as as' : List PV} (hf : evV fl f = some F) (ha : evVs fl args.toList = some as) (cF : Co σ F F') (ca : CoL σ as as') (hr : r.flat = true) (hc : VCall P orc F' as' r)
    (hk : VD P orc ops n l (i + 1) ((d, r) :: fl) (nwSet true d nw) σ so (bs ++ [b]) (mem ||| 2 ^ i) tail K)
    (hb : beforeOf bs ⟨some d, .call { callee := .value f, args := args, argTypes := ats }, ty, pos, after, g⟩ = b := by rfl) (hord : Nat.beq (mem &&& b) mem = true := by rfl) (hw : wantV ops fl g = some true := by rfl) (hn : (Nat.blt d n && Nat.ble n 4000) = true := by rfl) :
    VD P orc ops n (⟨some d, .call { callee := .value f, args := args, argTypes := ats }, ty, pos, after, g⟩ :: l) i fl nw σ so bs mem tail K := fun h0 G S0 t h ms segs I ho => by
  obtain ⟨n1, n2⟩ := fits hn
  obtain ⟨M, m1, m2, m3, m4, m5, m6, m7⟩ := seen_ok (mem := mem) I hb ho
  obtain rfl := m6 hord
  have Le := I.lc.objs (h' := entry h) (fun _ => rfl) rfl
  obtain ⟨fid, a, c, h1, h2⟩ := hc.ev m2 Le.s0 (cF.ok Le.cells Le.sep (evV_ok Le.slots hf)) (ca.ok Le.cells Le.sep (evVs_ok Le.slots ha))
  refine EvD.call (o := ⟨some d, .call { callee := .value f, args := args, argTypes := ats }, ty, pos, after, g⟩) (want_ok I.slots hw) rfl rfl h1 (by simp only [hb, hord]; simp) ?_
  rw [m1]
  refine h2.mono fun u h' hq => ?_
  obtain ⟨q1, q2, q3⟩ := hq
  obtain rfl := q3 hr
  have hlow : Nat.ble h.next (entry h).low = true := ble_refl' _
  refine ⟨blt_refl' _, by simp only [hlow, Bool.true_or], _, put_fits n1 t u, ?_⟩
  have hd : drewOn ⟨some d, .call { callee := .value f, args := args, argTypes := ats }, ty, pos, after, g⟩ i ⟨t, h, bs, segs, mem, tail⟩ (t.set depth d u) (entry h) = ⟨t.set depth d u, h, bs ++ [b], (i, h.next, h.next) :: segs, mem ||| 2 ^ i, tail⟩ := by
    unfold drewOn
    simp only [hlow, cond_true, hb]
    show DSt.mk _ { next := h.next, low := h.low, objs := newer h.next h.next h.objs ++ h.objs } _ _ _ _ = _
    rw [newer_same]
    rfl
  rw [hd]
  exact hk h0 G S0 _ _ ms _ (I.set ((q2.flat hr).2 _ _) n2) fun ht => Old.seg ((ho ht).set n2 fun _ _ _ _ _ _ _ => (q2.flat hr).2 _ _) (Nat.le_refl _)
end Go.Fs
namespace Go.Fs
variable {P : Program} {orc : FuncId → List Value → Heap → Option (Value × Heap)} {h h' h0 : Heap} {fl : FL} {op : Op} {v : Value} {S S' S0 : List Nat}
theorem SlV.hiEnd {T e : TypeId} {τ : Ty} (hT : ElT P T e τ) {v : Value} {xs : List τ.den} (hv : SlV h S τ v xs) {lo : Option Value} (H : Heap) : fsSlice P T v lo none none H = fsSlice P T v lo (some (.int .i64 (xs.length : Nat))) none H := by
  rcases hv with ⟨rfl, rfl⟩ | ⟨b, o, mk, rfl, _⟩
  · simp only [fsSlice, hT.sl.sl, boundOf, List.length_nil]
    rfl
  · have h1 : boundOf (some (.int .i64 (xs.length : Nat))) xs.length = some xs.length := by
      simp only [boundOf, Int.natCast_nonneg, if_true, Int.toNat_natCast]
    simp only [fsSlice, hT.sl.sl, h1]
    rfl
theorem SlV.cutL {T e : TypeId} {τ : Ty} (hT : ElT P T e τ) {v : Value} {xs : List τ.den} (hv : SlV h S τ v xs) {a : Int} (h0 : 0 ≤ a ∧ a ≤ (xs.length : Nat)) :
    ∃ w, (∀ nn ll, fsSlice P T v (some (.int .i64 a)) none none { next := nn, low := ll, objs := h.objs } = some w) ∧ SlV h S τ w (xs.drop a.toNat) := by
  obtain ⟨w, h1, h2⟩ := hv.cut hT (a := a) (b := (xs.length : Nat)) ⟨h0.1, h0.2, Int.le_refl _⟩
  refine ⟨w, fun nn ll => by rw [hv.hiEnd hT]; exact h1 nn ll, ?_⟩
  rwa [Int.toNat_natCast, List.take_length] at h2
theorem StepR.sliceL {T : TypeId} {x lo : Operand} {u a w : Value} (hx : evL fl x = some u) (hl : evL fl lo = some a) (hv : ∀ nn ll, fsSlice P T u (some a) none none { next := nn, low := ll, objs := h.objs } = some w) : StepR P fl h (.slice T x (some lo) none none) w :=
  ⟨rfl, fun t ht _ _ _ _ _ n l => by
    show (fsSlice P T (evalO t x) (some (evalO t lo)) none none { next := n, low := l, objs := h.objs }).map _ = _
    rw [evL_ok ht hx, evL_ok ht hl, hv]; rfl⟩
theorem max_if (p q : Int) : (if q > p then q else p) = max p q := by
  rw [Int.max_def]; split <;> split <;> omega
theorem max2_int (p q : Int) : runPure P (Builtin.max2 (.int .i64 p) (.int .i64 q)) = some (.int .i64 (max p q)) := by
  have : runPure P (Builtin.max2 (.int .i64 p) (.int .i64 q)) = some (.int .i64 (if q > p then q else p)) := rfl
  rw [this, max_if]
theorem StepA.max3 {a : Array TypeId} {x y z : Operand} {p q r : Int} (hx : evL fl x = some (.int .i64 p)) (hy : evL fl y = some (.int .i64 q)) (hz : evL fl z = some (.int .i64 r)) : StepA P fl (.call { callee := .builtin .max, args := #[x, y, z], argTypes := a }) (.int .i64 (Max.max (Max.max p q) r)) := fun t ht d ty pos after g H => by
  show (if [evalO t x, evalO t y, evalO t z].all af = true then (purely P (Builtin.max_ a ty [evalO t x, evalO t y, evalO t z].toArray)).map fun v => (v, H) else none) = _
  rw [evL_ok ht hx, evL_ok ht hy, evL_ok ht hz]
  have : (purely P (Builtin.max_ a ty [Value.int .i64 p, Value.int .i64 q, Value.int .i64 r].toArray)) = some (.int .i64 (Max.max (Max.max p q) r)) := by
    simp [purely, Builtin.max_, runPure_bind, max2_int]
    rfl
  rw [this]; rfl
theorem StepA.max4 {a : Array TypeId} {x y z w : Operand} {p q r s : Int} (hx : evL fl x = some (.int .i64 p)) (hy : evL fl y = some (.int .i64 q)) (hz : evL fl z = some (.int .i64 r)) (hw : evL fl w = some (.int .i64 s)) : StepA P fl (.call { callee := .builtin .max, args := #[x, y, z, w], argTypes := a }) (.int .i64 (Max.max (Max.max (Max.max p q) r) s)) := fun t ht d ty pos after g H => by
  show (if [evalO t x, evalO t y, evalO t z, evalO t w].all af = true then (purely P (Builtin.max_ a ty [evalO t x, evalO t y, evalO t z, evalO t w].toArray)).map fun v => (v, H) else none) = _
  rw [evL_ok ht hx, evL_ok ht hy, evL_ok ht hz, evL_ok ht hw]
  have : (purely P (Builtin.max_ a ty [Value.int .i64 p, Value.int .i64 q, Value.int .i64 r, Value.int .i64 s].toArray)) = some (.int .i64 (Max.max (Max.max (Max.max p q) r) s)) := by
    simp [purely, Builtin.max_, runPure_bind, max2_int]
    rfl
  rw [this]; rfl
theorem StepC.shl {T T' : TypeId} {x y : Operand} {p q : Int} (hx : evL fl x = some (.int .i64 p)) (hy : evL fl y = some (.int .i64 q)) (hq : 0 ≤ q ∧ q ≤ 64) (hb : -9223372036854775808 ≤ p * 2 ^ q.toNat ∧ p * 2 ^ q.toNat ≤ 9223372036854775807) : StepC P fl (.binOp .shl T x y T') (.int .i64 (p * 2 ^ q.toNat)) :=
  StepC.bin (P := P) (op := .shl) (T := T) (T' := T') hx hy rfl
    (by show (runPure P (Op.shift .shl .i64 p .i64 q)).bind _ = _
        unfold Op.shift
        rw [if_neg (by omega)]
        have : min q.toNat IntKind.i64.bits = q.toNat := Nat.min_eq_left (by show q.toNat ≤ 64; omega)
        simp only [this, wrap64 hb.1 hb.2]
        rfl)
end Go.Fs
namespace Go.Fs
variable {P : Program} {orc : FuncId → List Value → Heap → Option (Value × Heap)} {rnd : Option Nat} {h h' h0 h1 h2 : Heap} {S S' S0 B G : List Nat} {σ σ' : Sto} {t t' : Tr} {ms : List Nat} {fl : VL} {ops : Array Oper} {n : Nat} {l : List Oper} {K : VL → Sto → Prop} {Q : Ex → VL → Sto → Prop}
  {d : Tmp} {ty : TypeId} {pos : String} {after : Array Edge} {op : Op} {v pv : PV} {g : Option (Nat × Bool)} {x y z : Operand} {T T' e : TypeId} {τ τ' : Ty}

/-! ## Moves -/
theorem CalmV.move (hx : evV fl x = some pv) : CalmV P fl σ (.move x) pv := ⟨rfl, fun h S t hs _ => ⟨evalO t x, hs x (by simp [Op.operands]) _ hx, fun _ _ _ _ _ _ => rfl⟩⟩
theorem CalmV.assign (hx : evV fl x = some pv) : CalmV P fl σ (.assign x) pv := ⟨rfl, fun h S t hs _ => ⟨evalO t x, hs x (by simp [Op.operands]) _ hx, fun _ _ _ _ _ _ => rfl⟩⟩
theorem CalmV.pickT (hc : evV fl z = some (.v .bool true)) (hx : evV fl x = some pv) : CalmV P fl σ (.pick z x y) pv := ⟨rfl, fun h S t hs _ => ⟨evalO t x, hs x (by simp [Op.operands]) _ hx, fun _ _ _ _ _ H => by
  have := (hs z (by simp [Op.operands]) _ hc : RepPV h S (.v .bool true) _).bool
  show (match evalO t z with | .bool true => some (evalO t x, H) | .bool false => some (evalO t y, H) | _ => none) = _
  rw [this]⟩⟩
theorem CalmV.pickF (hc : evV fl z = some (.v .bool false)) (hy : evV fl y = some pv) : CalmV P fl σ (.pick z x y) pv := ⟨rfl, fun h S t hs _ => ⟨evalO t y, hs y (by simp [Op.operands]) _ hy, fun _ _ _ _ _ H => by
  have := (hs z (by simp [Op.operands]) _ hc : RepPV h S (.v .bool false) _).bool
  show (match evalO t z with | .bool true => some (evalO t x, H) | .bool false => some (evalO t y, H) | _ => none) = _
  rw [this]⟩⟩

/-! ## Two operands -/
theorem CalmV.bin {b : BinOp} {p q : PV} (hx : evV fl x = some p) (hy : evV fl y = some q) (hv : ∀ (h : Heap) (S : List Nat) (a c : Value), RepPV h S p a → RepPV h S q c → ∃ u, RepPV h S v u ∧ (af a && af c) = true ∧ purely P (do eqGuard b T x y a c; binOp b T a c) = some u) : CalmV P fl σ (.binOp b T x y T') v :=
  ⟨rfl, fun h S t hs _ => by
    obtain ⟨u, h1, h2, h3⟩ := hv h S _ _ (hs x (by simp [Op.operands]) _ hx) (hs y (by simp [Op.operands]) _ hy)
    refine ⟨u, h1, fun _ _ _ _ _ H => ?_⟩
    show (if (af (evalO t x) && af (evalO t y)) = true then _ else _) = _
    rw [if_pos h2, h3]; rfl⟩
theorem CalmV.binI {b : BinOp} {k k' : IntKind} {p q : Int} {u : Value} (hx : evV fl x = some (.v (.int k) p)) (hy : evV fl y = some (.v (.int k') q)) (hu : purely P (do eqGuard b T x y (.int k p) (.int k' q); binOp b T (.int k p) (.int k' q)) = some u) (hv : ∀ h S, RepPV h S v u) : CalmV P fl σ (.binOp b T x y T') v :=
  .bin hx hy fun h S a c ha hc => by
    obtain rfl := RepV.int ha
    obtain rfl := RepV.int hc
    exact ⟨u, hv h S, rfl, hu⟩
section
variable {p q : Int}
abbrev fit (n : Int) : Prop := -9223372036854775808 ≤ n ∧ n ≤ 9223372036854775807
theorem CalmV.add (hx : evV fl x = some (.v (.int .i64) p)) (hy : evV fl y = some (.v (.int .i64) q)) (h0 : fit (p + q)) : CalmV P fl σ (.binOp .add T x y T') (.v (.int .i64) (p + q)) :=
  .binI hx hy (u := .int .i64 (IntKind.i64.wrap (p + q))) rfl fun h S => by rw [wrap64 h0.1 h0.2]; exact RepV.ofInt _ _
theorem CalmV.sub (hx : evV fl x = some (.v (.int .i64) p)) (hy : evV fl y = some (.v (.int .i64) q)) (h0 : fit (p - q)) : CalmV P fl σ (.binOp .sub T x y T') (.v (.int .i64) (p - q)) :=
  .binI hx hy (u := .int .i64 (IntKind.i64.wrap (p - q))) rfl fun h S => by rw [wrap64 h0.1 h0.2]; exact RepV.ofInt _ _
theorem CalmV.mul (hx : evV fl x = some (.v (.int .i64) p)) (hy : evV fl y = some (.v (.int .i64) q)) (h0 : fit (p * q)) : CalmV P fl σ (.binOp .mul T x y T') (.v (.int .i64) (p * q)) :=
  .binI hx hy (u := .int .i64 (IntKind.i64.wrap (p * q))) rfl fun h S => by rw [wrap64 h0.1 h0.2]; exact RepV.ofInt _ _
theorem CalmV.quo (hx : evV fl x = some (.v (.int .i64) p)) (hy : evV fl y = some (.v (.int .i64) q)) (hq : q ≠ 0) (h0 : fit (p.tdiv q)) : CalmV P fl σ (.binOp .quo T x y T') (.v (.int .i64) (p.tdiv q)) :=
  .binI hx hy (u := .int .i64 (IntKind.i64.wrap (p.tdiv q))) (by show (runPure P (Op.intDiv .quo .i64 p q)).bind _ = _; unfold Op.intDiv; rw [if_neg hq]; rfl) fun h S => by rw [wrap64 h0.1 h0.2]; exact RepV.ofInt _ _
theorem CalmV.rem (hx : evV fl x = some (.v (.int .i64) p)) (hy : evV fl y = some (.v (.int .i64) q)) (hq : q ≠ 0) : CalmV P fl σ (.binOp .rem T x y T') (.v (.int .i64) (p.tmod q)) :=
  .binI hx hy (u := .int .i64 (p.tmod q)) (by show (runPure P (Op.intDiv .rem .i64 p q)).bind _ = _; unfold Op.intDiv; rw [if_neg hq]; rfl) fun h S => RepV.ofInt _ _
theorem CalmV.shr (hx : evV fl x = some (.v (.int .i64) p)) (hy : evV fl y = some (.v (.int .i64) q)) (hq : 0 ≤ q ∧ q ≤ 64) : CalmV P fl σ (.binOp .shr T x y T') (.v (.int .i64) (p.fdiv (2 ^ q.toNat))) :=
  .binI hx hy (u := .int .i64 (p.fdiv (2 ^ q.toNat))) (by have this : min q.toNat IntKind.i64.bits = q.toNat := Nat.min_eq_left (show q.toNat ≤ 64 by omega); show (runPure P (Op.shift .shr .i64 p .i64 q)).bind _ = _; unfold Op.shift; rw [if_neg (by omega)]; simp only [this]; rfl) fun h S => RepV.ofInt _ _
theorem CalmV.shl (hx : evV fl x = some (.v (.int .i64) p)) (hy : evV fl y = some (.v (.int .i64) q)) (hq : 0 ≤ q ∧ q ≤ 64) (hb : fit (p * 2 ^ q.toNat)) : CalmV P fl σ (.binOp .shl T x y T') (.v (.int .i64) (p * 2 ^ q.toNat)) :=
  .binI hx hy (u := .int .i64 (p * 2 ^ q.toNat)) (by have this : min q.toNat IntKind.i64.bits = q.toNat := Nat.min_eq_left (show q.toNat ≤ 64 by omega); show (runPure P (Op.shift .shl .i64 p .i64 q)).bind _ = _; unfold Op.shift; rw [if_neg (by omega)]; simp only [this, wrap64 hb.1 hb.2]; rfl) fun h S => RepV.ofInt _ _
variable {k : IntKind}
theorem cmp_int (b : BinOp) (r : Bool) (hr : Op.intCmp b p q = pure (.bool r)) (ha : ∀ s : Sem Value, binOp b T (.int k p) (.int k q) = s → s = Op.intCmp b p q) (hg : eqGuard b T x y (.int k p) (.int k q) = pure ()) : purely P (do eqGuard b T x y (.int k p) (.int k q); binOp b T (.int k p) (.int k q)) = some (.bool r) := by
  rw [hg, ha _ rfl, hr]; rfl
theorem binCmp {b : BinOp} (hb : binOp b T (.int k p) (.int k q) = if k ≠ k then stuck "BinOp: operands of different kinds" else Op.intCmp b p q) : binOp b T (.int k p) (.int k q) = Op.intCmp b p q := by rw [hb, if_neg (by simp)]
theorem CalmV.lss (hx : evV fl x = some (.v (.int k) p) := by rfl) (hy : evV fl y = some (.v (.int k) q) := by rfl) : CalmV P fl σ (.binOp .lss T x y T') (.v .bool (decide (p < q))) :=
  .binI hx hy (u := .bool (decide (p < q))) (cmp_int .lss _ rfl (fun s hs => by rw [← hs]; exact binCmp rfl) rfl) fun h S => RepV.ofBool _
theorem CalmV.leq (hx : evV fl x = some (.v (.int k) p) := by rfl) (hy : evV fl y = some (.v (.int k) q) := by rfl) : CalmV P fl σ (.binOp .leq T x y T') (.v .bool (decide (p ≤ q))) :=
  .binI hx hy (u := .bool (decide (p ≤ q))) (cmp_int .leq _ rfl (fun s hs => by rw [← hs]; exact binCmp rfl) rfl) fun h S => RepV.ofBool _
theorem CalmV.gtr (hx : evV fl x = some (.v (.int k) p) := by rfl) (hy : evV fl y = some (.v (.int k) q) := by rfl) : CalmV P fl σ (.binOp .gtr T x y T') (.v .bool (decide (q < p))) :=
  .binI hx hy (u := .bool (decide (q < p))) (cmp_int .gtr _ rfl (fun s hs => by rw [← hs]; exact binCmp rfl) rfl) fun h S => RepV.ofBool _
theorem CalmV.geq (hx : evV fl x = some (.v (.int k) p) := by rfl) (hy : evV fl y = some (.v (.int k) q) := by rfl) : CalmV P fl σ (.binOp .geq T x y T') (.v .bool (decide (q ≤ p))) :=
  .binI hx hy (u := .bool (decide (q ≤ p))) (cmp_int .geq _ rfl (fun s hs => by rw [← hs]; exact binCmp rfl) rfl) fun h S => RepV.ofBool _
theorem CalmV.eql (hx : evV fl x = some (.v (.int k) p) := by rfl) (hy : evV fl y = some (.v (.int k) q) := by rfl) : CalmV P fl σ (.binOp .eql T x y T') (.v .bool (decide (p = q))) := by
  have e : (p == q) = decide (p = q) := by by_cases h : p = q <;> simp [h]
  exact .binI hx hy (u := .bool (p == q)) (cmp_int .eql _ rfl (fun s hs => by rw [← hs]; exact binCmp rfl) rfl) fun h S => by rw [e]; exact RepV.ofBool _
theorem CalmV.neq (hx : evV fl x = some (.v (.int k) p) := by rfl) (hy : evV fl y = some (.v (.int k) q) := by rfl) : CalmV P fl σ (.binOp .neq T x y T') (.v .bool (decide (p ≠ q))) := by
  have e : (p != q) = decide (p ≠ q) := by by_cases h : p = q <;> simp [h]
  exact .binI hx hy (u := .bool (p != q)) (cmp_int .neq _ rfl (fun s hs => by rw [← hs]; exact binCmp rfl) rfl) fun h S => by rw [e]; exact RepV.ofBool _
end
theorem CalmV.un {b : UnOp} {p : PV} (hx : evV fl x = some p) (hv : ∀ (h : Heap) (S : List Nat) (a : Value), RepPV h S p a → ∃ u, RepPV h S v u ∧ af a = true ∧ purely P (Op.unary b a) = some u) : CalmV P fl σ (.unOp b T x) v :=
  ⟨rfl, fun h S t hs _ => by
    obtain ⟨u, h1, h2, h3⟩ := hv h S _ (hs x (by simp [Op.operands]) _ hx)
    refine ⟨u, h1, fun _ _ _ _ _ H => ?_⟩
    show (if af (evalO t x) = true then _ else _) = _
    rw [if_pos h2, h3]; rfl⟩
theorem CalmV.not {r : Bool} (hx : evV fl x = some (.v .bool r) := by rfl) : CalmV P fl σ (.unOp .not T x) (.v .bool (!r)) :=
  .un hx fun h S a ha => by
    obtain rfl := RepV.bool ha
    exact ⟨_, RepV.ofBool _, rfl, rfl⟩
theorem CalmV.neg {p : Int} (hx : evV fl x = some (.v (.int .i64) p)) (h0 : fit (-p)) : CalmV P fl σ (.unOp .neg T x) (.v (.int .i64) (-p)) :=
  .un hx fun h S a ha => by
    obtain rfl := RepV.int ha
    refine ⟨.int .i64 (IntKind.i64.wrap (0 - p)), ?_, rfl, rfl⟩
    rw [Int.zero_sub, wrap64 h0.1 h0.2]; exact RepV.ofInt _ _
theorem CalmV.conv {p : PV} {s D : TypeId} (hx : evV fl x = some p) (hv : ∀ (h : Heap) (S : List Nat) (a : Value), RepPV h S p a → ∃ u, RepPV h S v u ∧ af a = true ∧ purely P (convert s D a) = some u) : CalmV P fl σ (.convert s D x) v :=
  ⟨rfl, fun h S t hs _ => by
    obtain ⟨u, h1, h2, h3⟩ := hv h S _ (hs x (by simp [Op.operands]) _ hx)
    refine ⟨u, h1, fun _ _ _ _ _ H => ?_⟩
    show (if af (evalO t x) = true then _ else _) = _
    rw [if_pos h2, h3]; rfl⟩
/-- Is the conversion one of whole numbers? -/
def convB (P : Program) (s D : TypeId) (k2 : IntKind) : Bool := (P.underlying s).isSome && (match P.underlying D with | some (.int k) => decide (k = k2) | _ => false)
theorem CalmV.convI {p : Int} {s D : TypeId} {k : IntKind} (hx : evV fl x = some (.v (.int k) p)) (k2 : IntKind) (hw : k2.wrap p = p) (hb : convB P s D k2 = true := by kernel_rfl) : CalmV P fl σ (.convert s D x) (.v (.int k2) p) :=
  .conv hx fun h S a ha => by
    obtain rfl := RepV.int ha
    unfold convB at hb
    obtain ⟨b1, b2⟩ := band hb
    obtain ⟨td, hs⟩ := Option.isSome_iff_exists.1 b1
    split at b2
    · rename_i k3 hd
      obtain rfl : k3 = k2 := of_decide_eq_true b2
      refine ⟨.int k3 p, RepV.ofInt _ _, rfl, ?_⟩
      unfold purely convert
      simp only [runPure_bind, runPure_underlying hs, runPure_underlying hd, Option.bind_some]
      show (runPure P (Conv.intToInt k3 p)).bind _ = _
      simp only [Conv.intToInt, runPure_pure, Option.bind_some, hw]
      rfl
    · cases b2

/-! ## Closures, tuples -/
theorem CalmV.func {f : FuncId} {a c : Array Operand} {us vs : List PV} (ha : evVs fl a.toList = some us := by rfl) (hc : evVs fl c.toList = some vs := by rfl) : CalmV P fl σ (.makeFunc (.func f) a c) (.clo f us vs) :=
  ⟨rfl, fun h S t hs _ => by
    have aux : ∀ (l : List Operand) (vs : List PV), (∀ x ∈ l, ∀ pv, evV fl x = some pv → RepPV h S pv (evalO t x)) → evVs fl l = some vs → RepL h S vs (l.map (evalO t)) := by
      intro l
      induction l with
      | nil => intro vs _ hx; obtain rfl := Option.some.inj hx; rfl
      | cons x r ih =>
        intro vs hq hx
        simp only [evVs] at hx
        split at hx
        · rename_i v vs0 hv hvs
          obtain rfl := Option.some.inj hx
          exact ⟨_, _, rfl, hq x List.mem_cons_self _ hv, ih vs0 (fun y hy => hq y (List.mem_cons_of_mem _ hy)) hvs⟩
        · cases hx
    refine ⟨.func (.func f) (a.map (evalO t)) (c.map (evalO t)), ⟨a.toList.map (evalO t), c.toList.map (evalO t), by congr 1 <;> (apply Array.toList_inj.1; simp), aux _ _ (fun x hx => hs x (by simp [Op.operands]; left; simpa using hx)) ha, aux _ _ (fun x hx => hs x (by simp [Op.operands]; right; simpa using hx)) hc⟩, fun _ _ _ _ _ H => rfl⟩⟩
theorem RepL.get : ∀ {l : List PV} {us : List Value} {i : Nat} {p : PV}, RepL h S l us → l[i]? = some p → ∃ u, us[i]? = some u ∧ RepPV h S p u
  | [], us, i, p, _, hp => by simp at hp
  | q :: qs, us, i, p, ⟨u, r, h1, h2, h3⟩, hp => by
    subst h1
    cases i with
    | zero => simp only [List.getElem?_cons_zero, Option.some.injEq] at hp; subst hp; exact ⟨u, rfl, h2⟩
    | succ i =>
      obtain ⟨w, e1, e2⟩ := RepL.get (l := qs) (us := r) (i := i) h3 (by simpa using hp)
      exact ⟨w, by simpa using e1, e2⟩
theorem CalmV.extract {l : List PV} {i : Nat} (hx : evV fl x = some (.tup l) := by rfl) (hi : l[i]? = some pv := by rfl) (h2 : Nat.ble 2 l.length = true := by rfl) : CalmV P fl σ (.extract x i) pv :=
  ⟨rfl, fun h S t hs _ => by
    obtain ⟨us, h3, h4⟩ := hs x (by simp [Op.operands]) _ hx
    obtain ⟨u, h5, h6⟩ := h4.get hi
    have hlen := h4.len
    refine ⟨u, h6, fun _ _ _ _ _ H => ?_⟩
    show (bif isJunk (evalO t x) then none else (runPure P (Instr.extract (evalO t x) i)).map _) = _
    rw [h3]
    have hj : isJunk (.tuple us.toArray) = false := by
      unfold isJunk
      split
      · rename_i hh
        have : us = [.tuple ⟨[]⟩] := by simpa using congrArg (fun v => match v with | Value.tuple a => a.toList | _ => []) hh
        rw [this] at hlen
        have := nble h2
        simp at hlen; omega
      · rfl
    rw [hj]
    simp only [cond_false, Instr.extract]
    have : us.toArray[i]? = some u := by simpa using h5
    rw [this]
    rfl⟩

/-! ## Parts of data -/
/-- The part of a datum at an offset. -/
inductive Sub : (τ : Ty) → τ.den → Nat → (τ' : Ty) → τ'.den → Prop where
  | o {τ : Ty} {x : τ.den} : Sub τ x 0 τ x
  | l {a b : Ty} {x : (Ty.pair a b).den} {k : Nat} {τ' : Ty} {y : τ'.den} (hs : Sub a x.1 k τ' y) : Sub (.pair a b) x k τ' y
  | r {a b : Ty} {x : (Ty.pair a b).den} {k k' : Nat} {τ' : Ty} {y : τ'.den} (hs : Sub b x.2 k τ' y) (hk : k' = a.size + k := by rfl) : Sub (.pair a b) x k' τ' y
theorem Sub.repC {τ : Ty} {x : τ.den} {k : Nat} {τ' : Ty} {y : τ'.den} (hs : Sub τ x k τ' y) : ∀ {cs : List Value}, RepC h S τ cs x → k + τ'.size ≤ cs.length ∧ RepC h S τ' ((cs.drop k).take τ'.size) y := by
  induction hs with
  | o =>
    intro cs hx
    have := hx.len
    exact ⟨by omega, by rw [List.drop_zero, List.take_of_length_le (by omega)]; exact hx⟩
  | @l a b x k τ' y hs ih =>
    intro cs hx
    obtain ⟨h1, h2⟩ := ih hx.1
    rw [List.length_take] at h1
    refine ⟨by omega, ?_⟩
    rw [List.drop_take, List.take_take, Nat.min_eq_left (by omega)] at h2
    exact h2
  | @r a b x k k' τ' y hs hk ih =>
    intro cs hx
    obtain ⟨h1, h2⟩ := ih hx.2
    rw [List.length_drop] at h1
    have hl := hx.len
    have hsz : (Ty.pair a b).size = a.size + b.size := rfl
    subst hk
    rw [List.drop_drop] at h2
    refine ⟨?_, h2⟩
    have := RepC.len h2
    rw [List.length_take, List.length_drop] at this
    by_cases h0 : τ'.size = 0
    · have hlb := hx.2.len
      rw [List.length_drop] at hlb
      omega
    · omega
theorem CalmV.fa {s : TypeId} {f k : Nat} {dx : τ.den} {dy : τ'.den} (hs : Sub τ dx k τ' dy) (hb : offB P s f k = true := by kernel_rfl) (hx : evV fl x = some (.p τ dx) := by rfl) : CalmV P fl σ (.fieldAddr s x f) (.p τ' dy) :=
  ⟨rfl, fun h S t hq _ => by
    have hp : RepP h S τ (evalO t x) dx := hq x (by simp [Op.operands]) _ hx
    refine ⟨padd (evalO t x) k, ?_, fun _ _ _ _ _ H => ?_⟩
    · obtain ⟨b', o, e', rs, own, more, h1, h2, h3, h4, h5⟩ := hp
      obtain ⟨h6, h7⟩ := hs.repC h5
      rw [List.length_take, List.length_drop] at h6
      refine ⟨b', o + k, e', rs, own, more, by rw [h1]; rfl, h2, h3, by omega, ?_⟩
      rw [List.drop_take, List.take_take, List.drop_drop, Nat.min_eq_left (by omega)] at h7
      exact h7
    · show (runPure P (Instr.fieldAt s (evalO t x) f)).map _ = _
      rw [hp.fa hb]; rfl⟩
theorem isAggD_run {t : TypeId} {dd : TypeDesc} (h : P.underlying t = some dd) : runPure P (isAgg t) = some (isAggD dd) := by
  unfold isAgg
  rw [runPure_bind, runPure_underlying h]
  cases dd <;> rfl
/-- A field's place, and whether it is a struct. -/
def fldB (P : Program) (s : TypeId) (f k : Nat) (τ' : Ty) : Bool :=
  match P.underlying s with
  | some (.struct fs) => match fs[f]? with
    | some fd => Nat.beq fd.offset k && (match P.info? fd.type, P.underlying fd.type with | some i, some dd => Nat.beq i.size τ'.size && (isAggD dd == τ'.agg) | _, _ => false)
    | none => false
  | _ => false
theorem CalmV.fld {f k : Nat} {dx : τ.den} {dy : τ'.den} (hs : Sub τ dx k τ' dy) (ha : τ.agg = true := by rfl) (hb : fldB P T f k τ' = true := by kernel_rfl) (hx : evV fl x = some (.v τ dx) := by rfl) : CalmV P fl σ (.field T x f) (.v τ' dy) :=
  ⟨rfl, fun h S t hq _ => by
    have hp : RepV h S τ (evalO t x) dx := hq x (by simp [Op.operands]) _ hx
    unfold fldB at hb
    split at hb
    · rename_i fs hfs
      split at hb
      · rename_i fd hfd
        obtain ⟨b1, b2⟩ := band hb
        obtain rfl := nbeq b1
        split at b2
        · rename_i i dd hi hdd
          obtain ⟨b3, b4⟩ := band b2
          have hsz := nbeq b3
          have hag : isAggD dd = τ'.agg := by simpa using b4
          have h1 := hp.1
          rw [ha] at h1
          cases hev : evalO t x with
          | agg cs =>
            rw [hev] at hp
            obtain ⟨k1, k2⟩ := hs.repC hp.2
            have hcells : (Value.agg cs).cells.toList = cs.toList := rfl
            rw [hcells] at k1 k2
            cases hta : τ'.agg with
            | true =>
              refine ⟨.agg (cs.extract fd.offset (fd.offset + i.size)), ⟨by rw [hta]; rfl, ?_⟩, fun _ _ _ _ _ H => ?_⟩
              · show RepC h S τ' (cs.extract fd.offset (fd.offset + i.size)).toList dy
                have e1 : (cs.extract fd.offset (fd.offset + i.size)).toList = (cs.toList.drop fd.offset).take τ'.size := by
                  rw [Array.toList_extract, List.extract_eq_take_drop, hsz]
                  congr 1; omega
                rw [e1]; exact k2
              · show (runPure P (Instr.field T (evalO t x) f)).map _ = _
                unfold Instr.field
                rw [runPure_bind, runPure_underlying hfs]
                simp only [Option.bind_some, hfd, hev]
                have hpt : runPure P (part fd.type cs fd.offset) = some (.agg (cs.extract fd.offset (fd.offset + i.size))) := by
                  unfold part
                  rw [runPure_bind, isAggD_run hdd, hag, hta]
                  simp only [Option.bind_some, if_true, runPure_bind, runPure_sizeOf hi]
                  rfl
                show ((runPure P (asAgg (.agg cs) >>= fun c => part fd.type c fd.offset)).map _) = _
                show ((runPure P (part fd.type cs fd.offset)).map _) = _
                rw [hpt]; rfl
            | false =>
              have h1s := Ty.size_one hta
              rw [h1s] at k1 k2
              have ho : fd.offset < cs.toList.length := by omega
              rw [take_one ho] at k2
              obtain ⟨u, hu, hv⟩ := RepC.one hta k2
              simp only [List.cons.injEq, and_true] at hu
              refine ⟨u, hv, fun _ _ _ _ _ H => ?_⟩
              show (runPure P (Instr.field T (evalO t x) f)).map _ = _
              unfold Instr.field
              rw [runPure_bind, runPure_underlying hfs]
              simp only [Option.bind_some, hfd, hev]
              have hg : cs[fd.offset]? = some u := by
                rw [← hu]
                have : fd.offset < cs.size := by simpa using ho
                simp [this]
              have hpt : runPure P (part fd.type cs fd.offset) = some u := by
                unfold part
                rw [runPure_bind, isAggD_run hdd, hag, hta]
                simp only [Option.bind_some, Bool.false_eq_true, if_false, hg]
                rfl
              show ((runPure P (part fd.type cs fd.offset)).map _) = _
              rw [hpt]; rfl
          | _ => rw [hev] at h1; cases h1
        · cases b2
      · cases hb
    · cases hb⟩
end Go.Fs
namespace Go.Fs
variable {P : Program} {orc : FuncId → List Value → Heap → Option (Value × Heap)} {rnd : Option Nat} {h h' h0 h1 h2 : Heap} {S S' S0 B G : List Nat} {σ σ' σr : Sto} {t t' : Tr} {ms : List Nat} {fl : VL} {ops : Array Oper} {n i mem : Nat} {l : List Oper} {K : VL → Sto → Prop} {Q : Ex → VL → Sto → Prop}
  {d : Tmp} {ty : TypeId} {pos : String} {after : Array Edge} {op : Op} {v pv : PV} {g : Option (Nat × Bool)} {x y z : Operand} {T T' e : TypeId} {τ τ' : Ty} {bs nw : List Nat} {segs : List (Nat × Nat × Nat)} {tail so : Bool} {w : Value}

/-! ## Elements -/
theorem CalmV.ix {xs : List τ.den} {j : Nat} (hx : evV fl x = some (.v (.sl τ) xs)) (hy : evV fl y = some (.v (.int .i64) ((j : Nat) : Int))) (hT : ElT P T e τ) (hj : j < xs.length) : CalmV P fl σ (.indexAddr T x y) (.p τ xs[j]) :=
  ⟨rfl, fun h S t hs _ => by
    have h1 := RepV.sl (hs x (by simp [Op.operands]) _ hx : RepV h S (.sl τ) (evalO t x) xs)
    have h2 := RepV.int (hs y (by simp [Op.operands]) _ hy)
    refine ⟨_, h1.at hj, fun _ _ _ _ _ H => ?_⟩
    show (if af (evalO t y) then (runPure P (Instr.indexAt T (evalO t x) (evalO t y))).map fun v => (v, H) else none) = _
    rw [h2, h1.ix hT hj]; rfl⟩
theorem CalmV.ixZ {xs : List τ.den} {k : Int} (hx : evV fl x = some (.v (.sl τ) xs)) (hy : evV fl y = some (.v (.int .i64) k)) (hT : ElT P T e τ) (h0 : 0 ≤ k) (hk : k < (xs.length : Nat)) : CalmV P fl σ (.indexAddr T x y) (.p τ (xs[k.toNat]'(by omega))) := by
  obtain ⟨j, rfl⟩ := Int.eq_ofNat_of_zero_le h0
  exact CalmV.ix hx hy hT (by omega)
/-- An element of an own row. -/
theorem CalmV.ixO {xs : List τ.den} {j : Nat} (hx : evV fl x = some (.raw w)) (hy : evV fl y = some (.v (.int .i64) ((j : Nat) : Int))) (hm : (w, Cell.row e τ xs) ∈ σ) (hT : ElT P T e τ) (hj : j < xs.length) : CalmV P fl σ (.indexAddr T x y) (.raw (ptrAt w τ.size j)) :=
  ⟨rfl, fun h S t hs hc => by
    have h1 : evalO t x = w := hs x (by simp [Op.operands]) _ hx
    have h2 := RepV.int (hs y (by simp [Op.operands]) _ hy)
    refine ⟨_, rfl, fun _ _ _ _ _ H => ?_⟩
    show (if af (evalO t y) then (runPure P (Instr.indexAt T (evalO t x) (evalO t y))).map fun v => (v, H) else none) = _
    rcases hc _ hm with ⟨_, rfl⟩ | ⟨b, rs, m, h3, h4, h5, h6⟩
    · simp at hj
    · have hg : GrowR h S 0 e m τ w xs := .inr ⟨b, rs, h4, Nat.zero_le _, h3, h5, h6⟩
      rw [h1, h2, hg.ix hT hj]; rfl⟩
theorem CalmV.ixOZ {xs : List τ.den} {k : Int} (hx : evV fl x = some (.raw w)) (hy : evV fl y = some (.v (.int .i64) k)) (hm : (w, Cell.row e τ xs) ∈ σ) (hT : ElT P T e τ) (h0 : 0 ≤ k) (hk : k < (xs.length : Nat)) : CalmV P fl σ (.indexAddr T x y) (.raw (ptrAt w τ.size k.toNat)) := by
  obtain ⟨j, rfl⟩ := Int.eq_ofNat_of_zero_le h0
  exact CalmV.ixO hx hy hm hT (by omega)
/-- A field of an own variable. -/
theorem CalmV.faO {s : TypeId} {f k : Nat} {cs : List PV} (hm : (w, Cell.var cs) ∈ σ) (hb : offB P s f k = true := by kernel_rfl) (hx : evV fl x = some (.raw w) := by rfl) : CalmV P fl σ (.fieldAddr s x f) (.raw (padd w k)) :=
  ⟨rfl, fun h S t hs hc => by
    have h1 : evalO t x = w := hs x (by simp [Op.operands]) _ hx
    obtain ⟨b, e, vs, h3, h4, h5, _⟩ := hc _ hm
    have hB : BoxR h 0 w vs := ⟨b, e, h3, Nat.zero_le _, h5⟩
    refine ⟨_, rfl, fun _ _ _ _ _ H => ?_⟩
    show (runPure P (Instr.fieldAt s (evalO t x) f)).map _ = _
    rw [h1, hB.fa hb]; rfl⟩

/-! ## Loads -/
theorem ReadV.ld {dx : τ.den} (hT : ValT P T τ) (hx : evV fl x = some (.p τ dx) := by rfl) : ReadV P fl σ (.load T x) (.v τ dx) :=
  ⟨rfl, fun h S t hs _ => by
    have hp : RepP h S τ (evalO t x) dx := hs x (by simp [Op.operands]) _ hx
    refine ⟨_, hp.val, fun H hH _ _ _ _ _ => ?_⟩
    have hp' : RepP H S τ (evalO t x) dx := hp.nx fun b o hg hb => ⟨hH b o hg, hb⟩
    have e1 : valAt H τ (evalO t x) = valAt h τ (evalO t x) := by
      obtain ⟨b, o, e, rs, own, more, h1, h2, h3, h4, h5⟩ := hp
      rw [h1]
      simp only [valAt, h3, hH b _ h3]
    show (fsLoad P T (evalO t x) H).map _ = _
    rw [(hp'.load' hT).1, e1]; rfl⟩
theorem ReadV.ldO {xs : List τ.den} {j : Nat} (hx : evV fl x = some (.raw (ptrAt w τ.size j))) (hm : (w, Cell.row T τ xs) ∈ σ) (hT : ValT P T τ) (hj : j < xs.length) : ReadV P fl σ (.load T x) (.v τ xs[j]) :=
  ⟨rfl, fun h S t hs hc => by
    have h1 : evalO t x = ptrAt w τ.size j := hs x (by simp [Op.operands]) _ hx
    rcases hc _ hm with ⟨_, rfl⟩ | ⟨b, rs, m, h3, h4, h5, h6⟩
    · simp at hj
    · have hg : GrowR h S 0 T m τ w xs := .inr ⟨b, rs, h4, Nat.zero_le _, h3, h5, h6⟩
      refine ⟨_, (hg.ld hT hj).2, fun H hH _ _ _ _ _ => ?_⟩
      have hg' : GrowR H S 0 T m τ w xs := .inr ⟨b, rs, h4, Nat.zero_le _, h3, hH b _ h5, h6.nx fun b o hg hb => ⟨hH b o hg, hb⟩⟩
      have e1 : valAt H τ (ptrAt w τ.size j) = valAt h τ (ptrAt w τ.size j) := by
        rw [show w = _ from h3]; simp only [ptrAt, valAt, h5, hH b _ h5]
      show (fsLoad P T (evalO t x) H).map _ = _
      rw [h1, (hg'.ld hT hj).1, e1]; rfl⟩
/-- A cell of an own variable. -/
theorem ReadV.ldF {cs : List PV} {k : Nat} (hm : (w, Cell.var cs) ∈ σ) (hT : ValT P T τ) (ha : τ.agg = false := by rfl) (hk : cs[k]? = some v := by rfl) (hx : evV fl x = some (.raw (padd w k)) := by rfl) : ReadV P fl σ (.load T x) v :=
  ⟨rfl, fun h S t hs hc => by
    have h1 : evalO t x = padd w k := hs x (by simp [Op.operands]) _ hx
    obtain ⟨b, e, vs, h3, h4, h5, h6, _⟩ := hc _ hm
    obtain ⟨u, h7, h8⟩ := h6.get hk
    refine ⟨u, h8, fun H hH _ _ _ _ _ => ?_⟩
    have hB : BoxR H 0 w vs := ⟨b, e, h3, Nat.zero_le _, hH b _ h5⟩
    show (fsLoad P T (evalO t x) H).map _ = _
    rw [h1, hB.ld1 hT ha h7]; rfl⟩
theorem ReadV.ldV {cs : List PV} (hm : (w, Cell.var cs) ∈ σ) (hT : ValT P T τ) (ha : τ.agg = false := by rfl) (hk : cs[0]? = some v := by rfl) (hx : evV fl x = some (.raw w) := by rfl) : ReadV P fl σ (.load T x) v :=
  ⟨rfl, fun h S t hs hc => by
    have h1 : evalO t x = w := hs x (by simp [Op.operands]) _ hx
    obtain ⟨b, e, vs, h3, h4, h5, h6, _⟩ := hc _ hm
    obtain ⟨u, h7, h8⟩ := h6.get hk
    refine ⟨u, h8, fun H hH _ _ _ _ _ => ?_⟩
    have hB : BoxR H 0 w vs := ⟨b, e, h3, Nat.zero_le _, hH b _ h5⟩
    show (fsLoad P T (evalO t x) H).map _ = _
    rw [h1, hB.ld0 hT ha h7]; rfl⟩
theorem ReadV.ldA {cs : List PV} {dx : τ.den} (hm : (w, Cell.var cs) ∈ σ) (hT : ValT P T τ) (hc : cs = cellsPV τ dx := by rfl) (ha : τ.agg = true := by rfl) (hx : evV fl x = some (.raw w) := by rfl) : ReadV P fl σ (.load T x) (.v τ dx) :=
  ⟨rfl, fun h S t hs hcc => by
    have h1 : evalO t x = w := hs x (by simp [Op.operands]) _ hx
    obtain ⟨b, e, vs, h3, h4, h5, h6, _⟩ := hcc _ hm
    rw [hc] at h6
    have h7 := repC_cells h6
    refine ⟨.agg vs.toArray, ⟨ha.symm, by simpa [Value.cells] using h7⟩, fun H hH _ _ _ _ _ => ?_⟩
    have hB : BoxR H 0 w vs := ⟨b, e, h3, Nat.zero_le _, hH b _ h5⟩
    show (fsLoad P T (evalO t x) H).map _ = _
    rw [h1, hB.ldA hT ha h7.len]; rfl⟩

/-! ## Lengths, extremes, parts -/
theorem ReadV.len {xs : List τ.den} (hT : ElT P T e τ) (hx : evV fl x = some (.v (.sl τ) xs) := by rfl) : ReadV P fl σ (.call { callee := .builtin .len, args := #[x], argTypes := #[T] }) (.v (.int .i64) (xs.length : Nat)) :=
  ⟨rfl, fun h S t hs _ => by
    have h1 := RepV.sl (hs x (by simp [Op.operands, Call.operands]) _ hx : RepV h S (.sl τ) (evalO t x) xs)
    refine ⟨_, RepV.ofInt _ _, fun H _ _ _ _ _ _ => ?_⟩
    show (fsLen P #[T] (evalO t x) H).map _ = _
    rw [h1.len hT]; rfl⟩
theorem ReadV.lenO {xs : List τ.den} (hm : (w, Cell.row e τ xs) ∈ σ) (hT : ElT P T e τ) (hx : evV fl x = some (.raw w) := by rfl) : ReadV P fl σ (.call { callee := .builtin .len, args := #[x], argTypes := #[T] }) (.v (.int .i64) (xs.length : Nat)) :=
  ⟨rfl, fun h S t hs hc => by
    have h1 : evalO t x = w := hs x (by simp [Op.operands, Call.operands]) _ hx
    refine ⟨_, RepV.ofInt _ _, fun H _ _ _ _ _ _ => ?_⟩
    show (fsLen P #[T] (evalO t x) H).map _ = _
    rw [h1]
    rcases hc _ hm with ⟨rfl, rfl⟩ | ⟨b, rs, m, h3, h4, h5, h6⟩
    · rw [SlV.len (h := h) (S := S) (τ := τ) hT SlV.nil]; rfl
    · have hg : GrowR h S 0 e m τ w xs := .inr ⟨b, rs, h4, Nat.zero_le _, h3, h5, h6⟩
      rw [hg.len hT]; rfl⟩
theorem ReadV.len0 (hT : ElT P T e τ) (hx : evV fl x = some (.raw (.slice none 0 0)) := by rfl) : ReadV P fl σ (.call { callee := .builtin .len, args := #[x], argTypes := #[T] }) (.v (.int .i64) ((0 : Nat) : Int)) :=
  ⟨rfl, fun h S t hs _ => by
    have h1 : evalO t x = .slice none 0 0 := hs x (by simp [Op.operands, Call.operands]) _ hx
    refine ⟨_, RepV.ofInt _ _, fun H _ _ _ _ _ _ => ?_⟩
    show (fsLen P #[T] (evalO t x) H).map _ = _
    rw [h1, SlV.len (h := h) (S := S) (τ := τ) hT SlV.nil]; rfl⟩
theorem ReadV.lenS {s : ByteArray} (hT : P.underlying T = some .string := by kernel_rfl) (hx : evV fl x = some (.v .str s) := by rfl) : ReadV P fl σ (.call { callee := .builtin .len, args := #[x], argTypes := #[T] }) (.v (.int .i64) (s.size : Nat)) :=
  ⟨rfl, fun h S t hs _ => by
    have h1 := RepV.str (hs x (by simp [Op.operands, Call.operands]) _ hx)
    refine ⟨_, RepV.ofInt _ _, fun H _ _ _ _ _ _ => ?_⟩
    show (fsLen P #[T] (evalO t x) H).map _ = _
    rw [h1]
    simp [fsLen, hT]⟩
section
variable {p q r s : Int} {a : Array TypeId}
theorem ReadV.max (hx : evV fl x = some (.v (.int .i64) p) := by rfl) (hy : evV fl y = some (.v (.int .i64) q) := by rfl) : ReadV P fl σ (.call { callee := .builtin .max, args := #[x, y], argTypes := a }) (.v (.int .i64) (Max.max p q)) :=
  ⟨rfl, fun h S t hs _ => by
    have h1 := RepV.int (hs x (by simp [Op.operands, Call.operands]) _ hx)
    have h2 := RepV.int (hs y (by simp [Op.operands, Call.operands]) _ hy)
    refine ⟨_, RepV.ofInt _ _, fun H _ d ty pos after g => ?_⟩
    show (if [evalO t x, evalO t y].all af = true then (purely P (Builtin.max_ a ty [evalO t x, evalO t y].toArray)).map fun v => (v, H) else none) = _
    rw [h1, h2]
    have : (purely P (Builtin.max_ a ty [Value.int .i64 p, Value.int .i64 q].toArray)) = some (.int .i64 (if q > p then q else p)) := rfl
    rw [this, max_if]; rfl⟩
theorem ReadV.min (hx : evV fl x = some (.v (.int .i64) p) := by rfl) (hy : evV fl y = some (.v (.int .i64) q) := by rfl) : ReadV P fl σ (.call { callee := .builtin .min, args := #[x, y], argTypes := a }) (.v (.int .i64) (Min.min p q)) :=
  ⟨rfl, fun h S t hs _ => by
    have h1 := RepV.int (hs x (by simp [Op.operands, Call.operands]) _ hx)
    have h2 := RepV.int (hs y (by simp [Op.operands, Call.operands]) _ hy)
    refine ⟨_, RepV.ofInt _ _, fun H _ d ty pos after g => ?_⟩
    show (if [evalO t x, evalO t y].all af = true then (purely P (Builtin.min_ a ty [evalO t x, evalO t y].toArray)).map fun v => (v, H) else none) = _
    rw [h1, h2]
    have : (purely P (Builtin.min_ a ty [Value.int .i64 p, Value.int .i64 q].toArray)) = some (.int .i64 (if q < p then q else p)) := rfl
    rw [this]
    have e : (if q < p then q else p) = Min.min p q := by rw [Int.min_def]; split <;> split <;> omega
    rw [e]; rfl⟩
theorem ReadV.max3 {z : Operand} (hx : evV fl x = some (.v (.int .i64) p) := by rfl) (hy : evV fl y = some (.v (.int .i64) q) := by rfl) (hz : evV fl z = some (.v (.int .i64) r) := by rfl) : ReadV P fl σ (.call { callee := .builtin .max, args := #[x, y, z], argTypes := a }) (.v (.int .i64) (Max.max (Max.max p q) r)) :=
  ⟨rfl, fun h S t hs _ => by
    have h1 := RepV.int (hs x (by simp [Op.operands, Call.operands]) _ hx)
    have h2 := RepV.int (hs y (by simp [Op.operands, Call.operands]) _ hy)
    have h3 := RepV.int (hs z (by simp [Op.operands, Call.operands]) _ hz)
    refine ⟨_, RepV.ofInt _ _, fun H _ d ty pos after g => ?_⟩
    show (if [evalO t x, evalO t y, evalO t z].all af = true then (purely P (Builtin.max_ a ty [evalO t x, evalO t y, evalO t z].toArray)).map fun v => (v, H) else none) = _
    rw [h1, h2, h3]
    have : (purely P (Builtin.max_ a ty [Value.int .i64 p, Value.int .i64 q, Value.int .i64 r].toArray)) = some (.int .i64 (if r > (if q > p then q else p) then r else (if q > p then q else p))) := rfl
    rw [this, max_if, max_if]; rfl⟩
theorem ReadV.max4 {z z2 : Operand} (hx : evV fl x = some (.v (.int .i64) p) := by rfl) (hy : evV fl y = some (.v (.int .i64) q) := by rfl) (hz : evV fl z = some (.v (.int .i64) r) := by rfl) (hz2 : evV fl z2 = some (.v (.int .i64) s) := by rfl) : ReadV P fl σ (.call { callee := .builtin .max, args := #[x, y, z, z2], argTypes := a }) (.v (.int .i64) (Max.max (Max.max (Max.max p q) r) s)) :=
  ⟨rfl, fun h S t hs _ => by
    have h1 := RepV.int (hs x (by simp [Op.operands, Call.operands]) _ hx)
    have h2 := RepV.int (hs y (by simp [Op.operands, Call.operands]) _ hy)
    have h3 := RepV.int (hs z (by simp [Op.operands, Call.operands]) _ hz)
    have h4 := RepV.int (hs z2 (by simp [Op.operands, Call.operands]) _ hz2)
    refine ⟨_, RepV.ofInt _ _, fun H _ d ty pos after g => ?_⟩
    show (if [evalO t x, evalO t y, evalO t z, evalO t z2].all af = true then (purely P (Builtin.max_ a ty [evalO t x, evalO t y, evalO t z, evalO t z2].toArray)).map fun v => (v, H) else none) = _
    rw [h1, h2, h3, h4]
    have : (purely P (Builtin.max_ a ty [Value.int .i64 p, Value.int .i64 q, Value.int .i64 r, Value.int .i64 s].toArray)) = some (.int .i64 (if s > (if r > (if q > p then q else p) then r else (if q > p then q else p)) then s else (if r > (if q > p then q else p) then r else (if q > p then q else p)))) := rfl
    rw [this, max_if, max_if, max_if]; rfl⟩
end
theorem SlV.cutH {xs : List τ.den} {a b : Nat} {u : Value} {H : Heap} (hT : ElT P T e τ) (hv : SlV h S τ u xs) (hab : a ≤ b) (hb : b ≤ xs.length) (hH : ∀ b o, h.get b = some o → H.get b = some o) {lo hi : Option Value} (hl : boundOf lo 0 = some a) (hh : ∀ n, n = xs.length → boundOf hi n = some b) : fsSlice P T u lo hi none H = fsSlice P T u lo hi none h := by
  rcases hv with ⟨rfl, rfl⟩ | ⟨bl, o, mk, rfl, h2⟩
  · simp only [fsSlice, hT.sl.sl]
  · obtain ⟨i, z, hinf, hsz, _⟩ := hT.sl.info
    have e1 : Nat.ble a b = true := by rw [Nat.ble_eq]; exact hab
    have e2 : Nat.ble b xs.length = true := by rw [Nat.ble_eq]; exact hb
    have hm : markOf e bl a mk H = markOf e bl a mk h := by
      unfold markOf
      by_cases ha : a = 0
      · subst ha; rfl
      · rcases h2 with rfl | ⟨_, e', rs, own, more, h3, _, _⟩
        · simp at hb; omega
        · rw [h3, hH _ _ h3]
    simp only [fsSlice, hT.sl.sl, hinf, hl, hh _ rfl, e1, e2, Bool.and_self, cond_true, hm]
theorem ReadV.cut {xs : List τ.den} {a b : Int} {lo hi : Operand} (hx : evV fl x = some (.v (.sl τ) xs)) (hl : evV fl lo = some (.v (.int .i64) a)) (hh : evV fl hi = some (.v (.int .i64) b)) (hT : ElT P T e τ) (h0 : 0 ≤ a ∧ a ≤ b ∧ b ≤ (xs.length : Nat)) : ReadV P fl σ (.slice T x (some lo) (some hi) none) (.v (.sl τ) ((xs.take b.toNat).drop a.toNat)) :=
  ⟨rfl, fun h S t hs _ => by
    have h1 := RepV.sl (hs x (by simp [Op.operands]) _ hx : RepV h S (.sl τ) (evalO t x) xs)
    have h2 := RepV.int (hs lo (by simp [Op.operands]) _ hl)
    have h3 := RepV.int (hs hi (by simp [Op.operands]) _ hh)
    obtain ⟨u, e1, e2⟩ := h1.cut hT h0
    refine ⟨u, e2.rep, fun H hH _ _ _ _ _ => ?_⟩
    obtain ⟨a', rfl⟩ := Int.eq_ofNat_of_zero_le h0.1
    obtain ⟨b', rfl⟩ := Int.eq_ofNat_of_zero_le (show 0 ≤ b by omega)
    have e3 := e1 h.next h.low
    show (fsSlice P T (evalO t x) (some (evalO t lo)) (some (evalO t hi)) none H).map _ = _
    rw [h2, h3, h1.cutH hT (a := a') (b := b') (by omega) (by omega) hH (by simp [boundOf]) (fun _ _ => by simp [boundOf])]
    rw [show h = { next := h.next, low := h.low, objs := h.objs } from rfl, e3]; rfl⟩
theorem ReadV.cutL {xs : List τ.den} {a : Int} {lo : Operand} (hx : evV fl x = some (.v (.sl τ) xs)) (hl : evV fl lo = some (.v (.int .i64) a)) (hT : ElT P T e τ) (h0 : 0 ≤ a ∧ a ≤ (xs.length : Nat)) : ReadV P fl σ (.slice T x (some lo) none none) (.v (.sl τ) (xs.drop a.toNat)) :=
  ⟨rfl, fun h S t hs _ => by
    have h1 := RepV.sl (hs x (by simp [Op.operands]) _ hx : RepV h S (.sl τ) (evalO t x) xs)
    have h2 := RepV.int (hs lo (by simp [Op.operands]) _ hl)
    obtain ⟨u, e1, e2⟩ := h1.cutL hT h0
    refine ⟨u, e2.rep, fun H hH _ _ _ _ _ => ?_⟩
    obtain ⟨a', rfl⟩ := Int.eq_ofNat_of_zero_le h0.1
    have e3 := e1 h.next h.low
    show (fsSlice P T (evalO t x) (some (evalO t lo)) none none H).map _ = _
    rw [h2, h1.cutH hT (a := a') (b := xs.length) (by omega) (by omega) hH (by simp [boundOf]) (fun _ e => by simp [boundOf, e])]
    rw [show h = { next := h.next, low := h.low, objs := h.objs } from rfl, e3]; rfl⟩
theorem ReadV.cutH {xs : List τ.den} {b : Int} {hi : Operand} (hx : evV fl x = some (.v (.sl τ) xs)) (hh : evV fl hi = some (.v (.int .i64) b)) (hT : ElT P T e τ) (h0 : 0 ≤ b ∧ b ≤ (xs.length : Nat)) : ReadV P fl σ (.slice T x none (some hi) none) (.v (.sl τ) (xs.take b.toNat)) :=
  ⟨rfl, fun h S t hs _ => by
    have h1 := RepV.sl (hs x (by simp [Op.operands]) _ hx : RepV h S (.sl τ) (evalO t x) xs)
    have h3 := RepV.int (hs hi (by simp [Op.operands]) _ hh)
    obtain ⟨u, e1, e2⟩ := h1.cut hT (a := 0) (b := b) ⟨Int.le_refl _, h0⟩
    rw [show (0 : Int).toNat = 0 from rfl, List.drop_zero] at e2
    refine ⟨u, e2.rep, fun H hH _ _ _ _ _ => ?_⟩
    obtain ⟨b', rfl⟩ := Int.eq_ofNat_of_zero_le h0.1
    have e3 := e1 h.next h.low
    have e4 : fsSlice P T (evalO t x) none (some (.int .i64 (b' : Nat))) none h = fsSlice P T (evalO t x) (some (.int .i64 0)) (some (.int .i64 (b' : Nat))) none h := by
      rcases h1 with ⟨hu, _⟩ | ⟨bl, o, mk, hu, _⟩ <;> rw [hu] <;> simp only [fsSlice, hT.sl.sl, boundOf] <;> rfl
    show (fsSlice P T (evalO t x) none (some (evalO t hi)) none H).map _ = _
    rw [h3, h1.cutH hT (a := 0) (b := b') (by omega) (by omega) hH (by simp [boundOf]) (fun _ _ => by simp [boundOf])]
    rw [e4, show h = { next := h.next, low := h.low, objs := h.objs } from rfl, e3]; rfl⟩
end Go.Fs
