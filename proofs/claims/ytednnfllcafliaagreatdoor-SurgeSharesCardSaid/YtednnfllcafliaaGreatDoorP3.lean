/- Variables that are written once, slices that are made and written, closures. No condition. Structs of two whole numbers, compared. No condition. The evaluator is sound: code. No condition. From the evaluator's runs to the model's calls. No condition. Two functions of Go's library by their contracts: an oracle for the evaluator. No condition. A closed call that answers true, as an oracle. No condition. Slices whose room is known: slices.Grow, appends that stay in their row. No condition. Functions that write the slice that they are handed. No condition. -/
import Derived.Test.YtednnfllcafliaaGreatDoorP2
import Derived.Test.YtednnfllcafliaaGreatDoorP1
import Derived.Scope
import Derived.Lib.ItoaNum
import Derived.Lib.Join
import Derived.Test.YtednnfllcafliaaGreatDoorChecked
set_option linter.all false
namespace Go.Fs
variable {P : Program} {orc : FuncId → List Value → Heap → Option (Value × Heap)} {rnd : Option Nat} {h h' h0 h1 h2 hs : Heap} {ops : Array Oper} {n i mem b : Nat} {fl : FL} {K : FL → Heap → Prop} {l : List Oper} {bs : List Nat} {segs : List (Nat × Nat × Nat)} {tail : Bool}
  {d : Tmp} {ty : TypeId} {pos : String} {after : Array Edge} {op : Op} {v : Value} {S S' S0 : List Nat} {ms : List Nat} {Q : Ex → Fr → Heap → Prop} {c : Code}

/-- A variable that is made, and will be written once. -/
def Pend (h : Heap) (lo : Nat) (S : List Nat) (p : Value) (m : Nat) : Prop := ∃ b e cs, p = .pointer (some ⟨b, 0, none⟩) ∧ lo ≤ b ∧ b ∉ S ∧ h.get b = some (.row e cs true false) ∧ cs.length = m
theorem Pend.keep {lo m : Nat} {p : Value} (hp : Pend h lo S p m) (ha : After h h') (hok : HOk h) : Pend h' lo S p m := by
  obtain ⟨b, e, cs, h1, h2, h3, h4, h5⟩ := hp
  exact ⟨b, e, cs, h1, h2, h3, by rw [ha.get b (hok b _ h4)]; exact h4, h5⟩
theorem Pend.inS {lo m : Nat} {p : Value} (hp : Pend h lo S p m) (hok : HOk h) (hS : ∀ b ∈ S', b < h.next) : ∀ b ∈ ownP p ++ S', b < h.next := by
  obtain ⟨b, e, cs, rfl, h2, h3, h4, h5⟩ := hp
  intro i hi
  rcases List.mem_append.1 hi with hi | hi
  · simp only [ownP, List.mem_singleton] at hi; subst hi; exact hok _ _ h4
  · exact hS i hi
theorem XO.allocP {e : TypeId} {z : Value} (hz : (P.info? e).bind (·.zero) = some z) (ha : af z = true) (ho : z.cells.toList.all oneCell = true) (hA : After h0 h) (hok0 : HOk h0) (hS : ∀ b ∈ S, b < h.next) (hn : Nat.blt d n = true) (h4 : Nat.ble n 4000 = true)
    (hk : ∀ p h', Pend h' h0.next S p z.cells.toList.length → After h h' → Goes h S h' (ownP p ++ S) → XO P orc ops n l ((d, p) :: fl) h' K) : XO P orc ops n (⟨some d, .alloc e, ty, pos, after, none⟩ :: l) fl h K :=
  XO.mk (.alloc hz ha ho) hn h4 (hk _ _ ⟨h.next, e, z.cells.toList, rfl, hA.next, fun hm => by have := hS _ hm; omega, by rw [Heap.get_push, if_pos rfl], rfl⟩ (After.push h _) (BoxR.new hA hok0).2.2)
theorem splice_all {cs us : List Value} (hl : us.length = cs.length) : splice cs 0 us = us := by
  unfold splice
  rw [List.take_zero, List.nil_append, Nat.zero_add, hl, List.drop_length, List.append_nil]
theorem XO.stP {T : TypeId} {x y : Operand} {u p : Value} {τ : Ty} {w : τ.den} (hx : evL fl x = some p) (hy : evL fl y = some u) (hp : Pend h h0.next S p τ.size) (hu : RepV h (ownP p ++ S) τ u w) (hT : ValT P T τ) (hA : After h0 h)
    (hk : ∀ h', RepP h' S τ p w → After h0 h' → Goes h (ownP p ++ S) h' S → h'.next = h.next → (∀ b ∈ S, h'.get b = h.get b) → XO P orc ops n l fl h' K) : XO P orc ops n (⟨none, .store T x y, ty, pos, after, none⟩ :: l) fl h K := by
  obtain ⟨b, e, cs, rfl, h2, h3, h4, h5⟩ := hp
  obtain ⟨i, hi, hs⟩ := hT.info
  have hul : u.cells.toList.length = τ.size := hu.2.len
  have hst : fsStore P T (.pointer (some ⟨b, 0, none⟩)) u h = some (h.set b (.row e u.cells.toList true false)) := by
    have hsp : splice cs 0 u.cells.toList = u.cells.toList := splice_all (by omega)
    simp only [fsStore, h4, hi, hs, hul, hu.2.allOne]
    rw [if_pos ⟨trivial, by omega, trivial⟩, hsp]
  have hG : Goes h (ownP (.pointer (some ⟨b, 0, none⟩)) ++ S) (h.set b (.row e u.cells.toList true false)) S := fun c o hg hc => by
    simp only [ownP, List.cons_append, List.nil_append, List.mem_cons, not_or] at hc
    exact ⟨by rw [Heap.get_set h4, if_neg hc.1]; exact hg, hc.2⟩
  refine XO.st hx hy hst (hk _ ⟨b, 0, e, u.cells.toList, true, false, rfl, h3, by rw [Heap.get_set h4, if_pos rfl], by omega, ?_⟩ (hA.set h4 h2) hG rfl fun c hc => ?_)
  · rw [List.drop_zero, List.take_of_length_le (by omega)]
    exact hu.2.nx hG
  · rw [Heap.get_set h4, if_neg (fun e => h3 (by subst e; exact hc))]

/-- The function's own slices, as the heap goes on. -/
theorem GrowR.up {lo : Nat} {e : TypeId} {m : Bool} {τ : Ty} {v : Value} {xs : List τ.den} (hg : GrowR h S lo e m τ v xs) (ha : After h h') (hok : HOk h) (hN : Goes h S h' S') (hs : ∀ b ∈ ownB v, b ∈ S') : GrowR h' S' lo e m τ v xs := by
  rcases hg with hg | ⟨b, rs, h1, h2, rfl, h4, h5⟩
  · exact .inl hg
  · exact .inr ⟨b, rs, hs b (by simp [ownB]), h2, rfl, by rw [ha.get b (hok b _ h4)]; exact h4, h5.nx hN⟩
theorem GrowR.chg {lo : Nat} {e : TypeId} {m : Bool} {τ : Ty} {v : Value} {xs : List τ.den} (hg : GrowR h S lo e m τ v xs) (hget : ∀ b ∈ ownB v, h'.get b = h.get b) (hN : Goes h S h' S') (hs : ∀ b ∈ ownB v, b ∈ S') : GrowR h' S' lo e m τ v xs := by
  rcases hg with hg | ⟨b, rs, h1, h2, rfl, h4, h5⟩
  · exact .inl hg
  · exact .inr ⟨b, rs, hs b (by simp [ownB]), h2, rfl, by rw [hget b (by simp [ownB])]; exact h4, h5.nx hN⟩

/-! ## 'make([]T, n)', and elements that are written -/
theorem zeros1 {z : Value} (hz : z.cells.size = 1) (n : Nat) : zeros z n = List.replicate n (z.cells[0]'(by omega)) := by
  unfold zeros
  rw [show n * z.cells.size = n by rw [hz, Nat.mul_one]]
  refine List.ext_getElem (by simp) fun i h1 h2 => ?_
  simp only [List.getElem_map, List.getElem_range, List.getElem_replicate]
  have h3 : i % z.cells.size = 0 := by rw [hz, Nat.mod_one]
  simp only [h3]
  rw [getElem!_pos z.cells 0 (by omega)]
theorem elems_replicate {τ : Ty} {u : Value} {x : τ.den} (h1 : τ.size = 1) (hx : RepC h S τ [u] x) (n : Nat) : Elems h S τ (List.replicate n u) (List.replicate n x) := by
  refine ⟨by simp [h1], fun i hi => ?_⟩
  have hi' : i < n := by simpa using hi
  rw [h1, Nat.mul_one, take_one (by simpa using hi'), List.getElem_replicate, List.getElem_replicate]
  exact hx
theorem GrowR.made {T e : TypeId} {τ : Ty} (hT : ElT P T e τ) (h1 : τ.size = 1) {u : Value} {x0 : τ.den} (hz : (P.info? e).bind (·.zero) = some u) (hu : u.cells = #[u]) (hx : ∀ (h : Heap) (S : List Nat), RepC h S τ [u] x0) {k : Nat} (hk : k ≤ 1000000) (hA : After h0 h) (hok0 : HOk h0) :
    ∃ v h', fsMakeSlice P T (.int .i64 (k : Nat)) (.int .i64 (k : Nat)) h = some (v, h') ∧ GrowR h' (ownB v ++ S) h0.next e false τ v (List.replicate k x0) ∧ After h h' ∧ Goes h S h' (ownB v ++ S) := by
  obtain ⟨i, z, hi1, hi2, hi3, hi3', hi4, hi5, hi6⟩ := hT.sl.info
  have hok := hA.ok hok0
  have hzu : z = u := by
    rw [hi1] at hz
    simp only [Option.bind_some, hi4, Option.some.injEq] at hz
    exact hz
  subst hzu
  have hz0 : z.cells[0]'(by rw [hi5, h1]; omega) = z := by simp [hu]
  refine ⟨.slice (some ⟨h.next, 0, none⟩) k 0, h.push (.row e (zeros z k) true false), ?_, .inr ⟨h.next, zeros z k, mem_own, hA.next, by simp, by rw [Heap.get_push, if_pos rfl], ?_⟩, After.push h _, fun b o hg hb => ?_⟩
  · unfold fsMakeSlice
    simp only [hT.sl.sl, hi1, hi4]
    have hb : i.bytes * k ≤ 1099511627776 := by
      have := Nat.mul_le_mul hi3' hk
      omega
    have hc : (decide (0 ≤ ((k : Nat) : Int)) && decide (((k : Nat) : Int) ≤ ((k : Nat) : Int)) && decide (((k : Nat) : Int) ≤ 1099511627776) && Nat.ble (i.bytes * ((k : Nat) : Int).toNat) 1099511627776 && Nat.blt 0 i.size && Nat.beq z.cells.size i.size && z.cells.toList.all af0) = true := by
      have e1 : Nat.ble (i.bytes * ((k : Nat) : Int).toNat) 1099511627776 = true := by rw [Nat.ble_eq, Int.toNat_natCast]; exact hb
      have e2 : Nat.blt 0 i.size = true := by show Nat.ble 1 i.size = true; rw [Nat.ble_eq, hi2, h1]; exact Nat.le_refl _
      rw [e1, e2, hi5, hi2, Nat.beq_refl, hi6]
      simp
      omega
    rw [hc]
    rfl
  · have := elems_replicate (h := h.push (.row e (zeros z k) true false)) (S := ownB (.slice (some ⟨h.next, 0, none⟩) k 0) ++ S) h1 (hx _ _) k
    rw [zeros1 (by omega), hz0]
    rw [zeros1 (by omega), hz0] at this
    exact this
  · have := hok b o hg
    refine ⟨by rw [Heap.get_push, if_neg (by omega)]; exact hg, ?_⟩
    simp only [ownB, List.cons_append, List.nil_append, List.mem_cons, not_or]
    exact ⟨by omega, hb⟩

theorem elems_set {τ : Ty} {rs us : List Value} {xs : List τ.den} {x : τ.den} {j : Nat} (he : Elems h S τ rs xs) (hj : j < xs.length) (hx : RepC h S τ us x) : Elems h S τ (splice rs (j * τ.size) us) (xs.set j x) := by
  have hul := hx.len
  have hrl := he.1
  have hjs : (j + 1) * τ.size ≤ xs.length * τ.size := Nat.mul_le_mul_right _ hj
  rw [Nat.add_mul, Nat.one_mul] at hjs
  have hl1 : (rs.take (j * τ.size)).length = j * τ.size := by rw [List.length_take]; omega
  refine ⟨?_, fun i hi => ?_⟩
  · unfold splice
    rw [List.length_append, List.length_append, hl1, List.length_drop, List.length_set]
    omega
  · rw [List.length_set] at hi
    have hold := he.2 i hi
    unfold splice
    rw [List.append_assoc]
    by_cases h1 : i < j
    · have h2 : (i + 1) * τ.size ≤ j * τ.size := Nat.mul_le_mul_right _ h1
      rw [Nat.add_mul, Nat.one_mul] at h2
      rw [List.getElem_set_ne (by omega), List.drop_append_of_le_length (by omega), List.take_append_of_le_length (by rw [List.length_drop]; omega), List.drop_take, List.take_take, Nat.min_eq_left (by omega)]
      exact hold
    · by_cases h2 : i = j
      · subst h2
        have e1 : (rs.take (i * τ.size) ++ (us ++ rs.drop (i * τ.size + us.length))).drop (i * τ.size) = us ++ rs.drop (i * τ.size + us.length) := by
          have := List.drop_left' (l₂ := us ++ rs.drop (i * τ.size + us.length)) hl1
          exact this
        rw [e1, List.getElem_set_self, List.take_left' hul]
        exact hx
      · have h3 : (j + 1) * τ.size ≤ i * τ.size := Nat.mul_le_mul_right _ (by omega)
        rw [Nat.add_mul, Nat.one_mul] at h3
        have e1 : (rs.take (j * τ.size) ++ (us ++ rs.drop (j * τ.size + us.length))).drop (i * τ.size) = rs.drop (i * τ.size) := by
          rw [List.drop_append, List.drop_eq_nil_of_le (by omega), List.nil_append, hl1, List.drop_append, List.drop_eq_nil_of_le (by omega), List.nil_append, List.drop_drop]
          congr 1
          omega
        rw [e1, List.getElem_set_ne (by omega)]
        exact hold
theorem GrowR.own {lo : Nat} {e : TypeId} {m : Bool} {τ : Ty} {v : Value} {xs : List τ.den} (hg : GrowR h S lo e m τ v xs) (h0 : 0 < xs.length) : ∃ b rs, b ∈ S ∧ lo ≤ b ∧ v = .slice (some ⟨b, 0, none⟩) xs.length 0 ∧ h.get b = some (.row e rs true m) ∧ Elems h S τ rs xs := by
  rcases hg with ⟨rfl, rfl⟩ | hg
  · simp at h0
  · exact hg
theorem GrowR.ix {lo : Nat} {T e : TypeId} {m : Bool} {τ : Ty} {v : Value} {xs : List τ.den} (hg : GrowR h S lo e m τ v xs) (hT : ElT P T e τ) {j : Nat} (hj : j < xs.length) : runPure P (Instr.indexAt T v (.int .i64 (j : Nat))) = some (ptrAt v τ.size j) := by
  obtain ⟨b, rs, _, _, rfl, _, _⟩ := hg.own (by omega)
  obtain ⟨i, z, hinf, hsz, _⟩ := hT.sl.info
  unfold Instr.indexAt
  have h6 : (0 : Int) ≤ (j : Int) ∧ (j : Int) < (xs.length : Nat) := by omega
  simp only [runPure_bind, asIntOf, runPure_pure, Option.bind_some, runPure_underlying hT.sl.sl, if_pos h6, runPure_sizeOf hinf, hsz, add_none, Int.toNat_natCast, ptrAt]
theorem GrowR.ixZ {lo : Nat} {T e : TypeId} {m : Bool} {τ : Ty} {v : Value} {xs : List τ.den} (hg : GrowR h S lo e m τ v xs) (hT : ElT P T e τ) {z : Int} (h0 : 0 ≤ z) (hn : z < (xs.length : Nat)) : runPure P (Instr.indexAt T v (.int .i64 z)) = some (ptrAt v τ.size z.toNat) := by
  obtain ⟨j, rfl⟩ := Int.eq_ofNat_of_zero_le h0
  exact hg.ix hT (by omega)
/-- What is read of the function's own slice. -/
theorem GrowR.ld {lo : Nat} {e : TypeId} {m : Bool} {τ : Ty} {v : Value} {xs : List τ.den} (hg : GrowR h S lo e m τ v xs) (hT : ValT P e τ) {j : Nat} (hj : j < xs.length) : fsLoad P e (ptrAt v τ.size j) h = some (valAt h τ (ptrAt v τ.size j)) ∧ RepV h S τ (valAt h τ (ptrAt v τ.size j)) xs[j] := by
  obtain ⟨b, rs, _, _, rfl, h4, h5⟩ := hg.own (by omega)
  have hjs : (j + 1) * τ.size ≤ xs.length * τ.size := Nat.mul_le_mul_right _ hj
  rw [Nat.add_mul, Nat.one_mul] at hjs
  have hrl := h5.1
  obtain ⟨i, hi, hs⟩ := hT.info
  obtain ⟨d, hd, ha⟩ := hT.agg
  have hx := h5.2 j hj
  simp only [fsLoad, valAt, ptrAt, h4, hd, hi, ha, hs, Nat.zero_add]
  cases hb : τ.agg with
  | true =>
    simp only [if_true, show j * τ.size + τ.size ≤ rs.length by omega]
    exact ⟨trivial, by simpa [isAggV] using hb.symm, by simpa [Value.cells] using hx⟩
  | false =>
    have h1 := Ty.size_one hb
    rw [h1] at hx hjs hrl ⊢
    have ho : j * 1 < rs.length := by omega
    rw [take_one ho] at hx
    obtain ⟨u, hu, hv⟩ := hx.one hb
    simp only [List.cons.injEq, and_true] at hu
    simp only [Bool.false_eq_true, if_false, List.getD_eq_getElem?_getD, List.getElem?_eq_getElem ho, Option.getD_some]
    exact ⟨trivial, by rw [hu]; exact hv⟩
theorem GrowR.ldInt {lo : Nat} {e : TypeId} {m : Bool} {k : IntKind} {v : Value} {xs : List Int} (hg : GrowR h S lo e m (.int k) v xs) (hT : ValT P e (.int k)) {j : Nat} (hj : j < xs.length) : fsLoad P e (ptrAt v 1 j) h = some (.int k xs[j]) := by
  obtain ⟨h1, h2⟩ := hg.ld hT hj
  rw [show ptrAt v 1 j = ptrAt v (Ty.int k).size j from rfl, h1, h2.int]
/-- What is written into it. -/
theorem GrowR.set {e : TypeId} {m : Bool} {τ : Ty} {v u : Value} {xs : List τ.den} {x : τ.den} (hg : GrowR h S h0.next e m τ v xs) (hT : ValT P e τ) {j : Nat} (hj : j < xs.length) (hu : RepV h S τ u x) (hA : After h0 h) (hok : HOk h) :
    ∃ h', fsStore P e (ptrAt v τ.size j) u h = some h' ∧ GrowR h' S h0.next e m τ v (xs.set j x) ∧ After h0 h' ∧ Goes h S h' S ∧ h'.next = h.next ∧ (∀ b, b ∉ ownB v → h'.get b = h.get b) ∧ h'.low < h.next := by
  obtain ⟨b, rs, hbS, hlo, rfl, h4, h5⟩ := hg.own (by omega)
  have hjs : (j + 1) * τ.size ≤ xs.length * τ.size := Nat.mul_le_mul_right _ hj
  rw [Nat.add_mul, Nat.one_mul] at hjs
  have hrl := h5.1
  obtain ⟨i, hi, hs⟩ := hT.info
  have hul : u.cells.toList.length = τ.size := hu.2.len
  have hG : Goes h S (h.set b (.row e (splice rs (j * τ.size) u.cells.toList) true m)) S := fun c o hg hc => ⟨by rw [Heap.get_set h4, if_neg (fun e => hc (by rw [e]; exact hbS))]; exact hg, hc⟩
  refine ⟨h.set b (.row e (splice rs (j * τ.size) u.cells.toList) true m), ?_, .inr ⟨b, splice rs (j * τ.size) u.cells.toList, hbS, hlo, by rw [List.length_set], by rw [Heap.get_set h4, if_pos rfl], (elems_set h5 hj hu.2).nx hG⟩, hA.set h4 hlo, hG, rfl, fun c hc => ?_, ?_⟩
  · simp only [fsStore, ptrAt, h4, hi, hs, hul, hu.2.allOne, Nat.zero_add]
    rw [if_pos ⟨trivial, by omega, trivial⟩]
  · rw [Heap.get_set h4, if_neg (fun e => hc (by subst e; simp [ownB]))]
  · have := hok b _ h4
    show min h.low b < h.next
    omega

/-! ## Closures -/
theorem evList_ok {t : Tr} (ht : TrIs fl t) {l : List Operand} {vs : List Value} (h : evA fl l = some vs) : l.map (evalO t) = vs := evA_ok ht l vs h
theorem StepC.func {f : FuncId} {a c : Array Operand} {us vs : List Value} (ha : evA fl a.toList = some us) (hc : evA fl c.toList = some vs) : StepC P fl (.makeFunc (.func f) a c) (.func (.func f) us.toArray vs.toArray) :=
  ⟨rfl, fun t ht _ _ _ _ _ h => by
    have e1 : a.map (evalO t) = us.toArray := by
      apply Array.toList_inj.1
      rw [Array.toList_map, evA_ok ht _ _ ha]
    have e2 : c.map (evalO t) = vs.toArray := by
      apply Array.toList_inj.1
      rw [Array.toList_map, evA_ok ht _ _ hc]
    show some (Value.func (.func f) (a.map (evalO t)) (c.map (evalO t)), h) = _
    rw [e1, e2]⟩

/-! ## Guards in drawn regions -/
theorem XD.splitD {x : Tmp} {p : Prop} {inst : Decidable p} (hc : lk fl x = some (.bool (@decide p inst))) (ht : p → XD P orc ops n l i ((x, .bool true) :: fl) h bs segs mem tail K) (hf : ¬ p → XD P orc ops n l i ((x, .bool false) :: fl) h bs segs mem tail K) : XD P orc ops n l i fl h bs segs mem tail K := by
  intro t hT
  have hs : ∀ v, lk fl x = some v → TrIs ((x, v) :: fl) t := fun v hv k u hk => by
    simp only [lk] at hk
    cases hb : Nat.beq x k with
    | true => rw [hb] at hk; simp only [cond_true, Option.some.injEq] at hk; subst hk; rw [← nbeq hb]; exact hT x _ hv
    | false => rw [hb] at hk; exact hT k u hk
  by_cases hp : p
  · rw [decide_eq_true hp] at hc; exact ht hp t (hs _ hc)
  · rw [decide_eq_false hp] at hc; exact hf hp t (hs _ hc)
theorem XD.splitB {x : Tmp} {r : Bool} (hc : lk fl x = some (.bool r)) (ht : r = true → XD P orc ops n l i ((x, .bool true) :: fl) h bs segs mem tail K) (hf : r = false → XD P orc ops n l i ((x, .bool false) :: fl) h bs segs mem tail K) : XD P orc ops n l i fl h bs segs mem tail K := by
  intro t hT
  have hs : ∀ v, lk fl x = some v → TrIs ((x, v) :: fl) t := fun v hv k u hk => by
    simp only [lk] at hk
    cases hb : Nat.beq x k with
    | true => rw [hb] at hk; simp only [cond_true, Option.some.injEq] at hk; subst hk; rw [← nbeq hb]; exact hT x _ hv
    | false => rw [hb] at hk; exact hT k u hk
  cases r with
  | true => exact ht rfl t (hs _ hc)
  | false => exact hf rfl t (hs _ hc)
theorem XD.skip {b j : Nat} {w r : Bool} {x : Tmp} (hj : (ops[j]?).bind (·.dst) = some x) (hb : lk fl x = some (.bool r)) (hw : (r == w) = false) (hbb : beforeOf bs ⟨some d, op, ty, pos, after, some (j, w)⟩ = b) (hn : Nat.blt d n = true) (h4 : Nat.ble n 4000 = true)
    (hk : XD P orc ops n l (i + 1) ((d, undef) :: fl) h (bs ++ [b]) segs mem tail K) : XD P orc ops n (⟨some d, op, ty, pos, after, some (j, w)⟩ :: l) i fl h bs segs mem tail K := fun t ht => by
  have hwt : fsWanted ops t ⟨some d, op, ty, pos, after, some (j, w)⟩ = some false := by rw [wanted_b ht rfl hj hb, hw]
  obtain ⟨t', h1, h2⟩ := put_ok (v := undef) hn h4 t ht
  refine EvD.op (s' := ⟨t', h, bs ++ [b], segs, mem, tail⟩) ?_ (hk t' h2)
  unfold fsDraw
  simp only [hwt, h1, Option.map_some, hbb]
theorem XD.skipU {b j : Nat} {w : Bool} {x : Tmp} (hj : (ops[j]?).bind (·.dst) = some x) (hb : lk fl x = some undef) (hbb : beforeOf bs ⟨some d, op, ty, pos, after, some (j, w)⟩ = b) (hn : Nat.blt d n = true) (h4 : Nat.ble n 4000 = true)
    (hk : XD P orc ops n l (i + 1) ((d, undef) :: fl) h (bs ++ [b]) segs mem tail K) : XD P orc ops n (⟨some d, op, ty, pos, after, some (j, w)⟩ :: l) i fl h bs segs mem tail K := fun t ht => by
  obtain ⟨t', h1, h2⟩ := put_ok (v := undef) hn h4 t ht
  refine EvD.op (s' := ⟨t', h, bs ++ [b], segs, mem, tail⟩) ?_ (hk t' h2)
  have hw : fsWanted ops t ⟨some d, op, ty, pos, after, some (j, w)⟩ = some false := by
    unfold fsWanted
    simp only [hj, ht x _ hb]
    rfl
  unfold fsDraw
  simp only [hw, h1, Option.map_some, hbb]
theorem XD.gc {b j : Nat} {w r : Bool} {x : Tmp} (hj : (ops[j]?).bind (·.dst) = some x) (hb : lk fl x = some (.bool r)) (hw : (r == w) = true) (hs : StepC P fl op v) (hbb : beforeOf bs ⟨some d, op, ty, pos, after, some (j, w)⟩ = b) (hn : Nat.blt d n = true) (h4 : Nat.ble n 4000 = true)
    (hk : XD P orc ops n l (i + 1) ((d, v) :: fl) h (bs ++ [b]) segs mem tail K) : XD P orc ops n (⟨some d, op, ty, pos, after, some (j, w)⟩ :: l) i fl h bs segs mem tail K := fun t ht => by
  have hwt : fsWanted ops t ⟨some d, op, ty, pos, after, some (j, w)⟩ = some true := by rw [wanted_b ht rfl hj hb, hw]
  obtain ⟨t', h1, h2⟩ := put_ok (v := v) hn h4 t ht
  refine EvD.op (s' := ⟨t', h, bs ++ [b], segs, mem, tail⟩) ?_ (hk t' h2)
  unfold fsDraw
  simp only [hwt, hs.1, if_true, hs.2 t ht, Nat.beq_refl, cond_true, h1, Option.map_some, hbb]
theorem XD.ga {b j : Nat} {w r : Bool} {x : Tmp} (hj : (ops[j]?).bind (·.dst) = some x) (hb : lk fl x = some (.bool r)) (hw : (r == w) = true) (hc : calm op = false) (hs : StepA P fl op v) (hbb : beforeOf bs ⟨some d, op, ty, pos, after, some (j, w)⟩ = b) (htl : (tail && !Nat.beq (mem &&& b) mem) = false) (hn : Nat.blt d n = true) (h4 : Nat.ble n 4000 = true)
    (hk : XD P orc ops n l (i + 1) ((d, v) :: fl) h (bs ++ [b]) ((i, h.next, h.next) :: segs) (mem ||| 2 ^ i) tail K) : XD P orc ops n (⟨some d, op, ty, pos, after, some (j, w)⟩ :: l) i fl h bs segs mem tail K := fun t ht => by
  have hwt : fsWanted ops t ⟨some d, op, ty, pos, after, some (j, w)⟩ = some true := by rw [wanted_b ht rfl hj hb, hw]
  obtain ⟨t', h1, h2⟩ := put_ok (v := v) hn h4 t ht
  refine EvD.op (s' := ⟨t', h, bs ++ [b], (i, h.next, h.next) :: segs, mem ||| 2 ^ i, tail⟩) ?_ (hk t' h2)
  unfold fsDraw
  simp only [hwt, hc, Bool.false_eq_true, if_false, hbb, htl, cond_false, hs t ht, blt_refl', h1, ble_refl', cond_true, newer_same, List.nil_append]
theorem XD.gld {b j : Nat} {w r : Bool} {xx : Tmp} {T : TypeId} {x : Operand} {u : Value} (hj : (ops[j]?).bind (·.dst) = some xx) (hb : lk fl xx = some (.bool r)) (hw : (r == w) = true) (hA : After hs h) (hsg : SegsOk hs segs) (hok : HOk hs) (hx : evL fl x = some u) (hv : fsLoad P T u hs = some v)
    (hbb : beforeOf bs ⟨some d, .load T x, ty, pos, after, some (j, w)⟩ = b) (htl : (tail && !Nat.beq (mem &&& b) mem) = false) (hn : Nat.blt d n = true) (h4 : Nat.ble n 4000 = true)
    (hk : XD P orc ops n l (i + 1) ((d, v) :: fl) h (bs ++ [b]) ((i, h.next, h.next) :: segs) (mem ||| 2 ^ i) tail K) : XD P orc ops n (⟨some d, .load T x, ty, pos, after, some (j, w)⟩ :: l) i fl h bs segs mem tail K := fun t ht => by
  have hwt : fsWanted ops t ⟨some d, .load T x, ty, pos, after, some (j, w)⟩ = some true := by rw [wanted_b ht rfl hj hb, hw]
  obtain ⟨t', h1, h2⟩ := put_ok (v := v) hn h4 t ht
  refine EvD.op (s' := ⟨t', h, bs ++ [b], (i, h.next, h.next) :: segs, mem ||| 2 ^ i, tail⟩) ?_ (hk t' h2)
  have hv' : fsLoad P T (evalO t x) { next := h.next, low := h.next, objs := bif Nat.beq (mem &&& b) mem then h.objs else mask b segs h.objs } = some v := by
    rw [evL_ok ht hx]
    cases Nat.beq (mem &&& b) mem with
    | true => exact fsLoad_after (h := entry h) ⟨hA.next, hA.get, hA.ok, fun e h1 h2 => Nat.le_trans h2 hA.next⟩ hok hv
    | false => exact fsLoad_msk hA hsg hok hv
  unfold fsDraw
  have hs : stepO P ⟨some d, .load T x, ty, pos, after, some (j, w)⟩ (evalO t) { next := h.next, low := h.next, objs := bif Nat.beq (mem &&& b) mem then h.objs else mask b segs h.objs } = some (v, { next := h.next, low := h.next, objs := bif Nat.beq (mem &&& b) mem then h.objs else mask b segs h.objs }) := by
    show (fsLoad P T (evalO t x) _).map _ = _
    rw [hv']; rfl
  simp only [hwt, show calm (Op.load T x) = false from rfl, Bool.false_eq_true, if_false, hbb, htl, cond_false, hs, blt_refl', h1, ble_refl', cond_true, newer_same, List.nil_append]
theorem XD.gcallV {jj : Nat} {w r : Bool} {xx : Tmp} {f : Operand} {args : Array Operand} {ats : Array TypeId} {g : FuncId} {a c : Array Value} {vs : List Value} {bb : Nat} (hj : (ops[jj]?).bind (·.dst) = some xx) (hb' : lk fl xx = some (.bool r)) (hw : (r == w) = true) (hA : After hs h) (hsg : SegsOk hs segs)
    (hf : evL fl f = some (.func (.func g) a c)) (ha : evA fl args.toList = some vs)
    (hb : beforeOf bs ⟨some d, .call { callee := .value f, args := args, argTypes := ats }, ty, pos, after, some (jj, w)⟩ = bb) (htl : (tail && !Nat.beq (mem &&& bb) mem) = false) (hn : Nat.blt d n = true) (h4 : Nat.ble n 4000 = true)
    (hc : ∀ M, After hs M → (Nat.beq (mem &&& bb) mem = true → M = entry h) → EvF P orc g (a.toList ++ vs ++ c.toList) M fun v h' => h' = M ∧ XD P orc ops n l (i + 1) ((d, v) :: fl) h (bs ++ [bb]) ((i, h.next, h.next) :: segs) (mem ||| 2 ^ i) tail K) :
    XD P orc ops n (⟨some d, .call { callee := .value f, args := args, argTypes := ats }, ty, pos, after, some (jj, w)⟩ :: l) i fl h bs segs mem tail K := fun t ht => by
  have hwt : fsWanted ops t ⟨some d, .call { callee := .value f, args := args, argTypes := ats }, ty, pos, after, some (jj, w)⟩ = some true := by rw [wanted_b ht rfl hj hb', hw]
  refine EvD.call (o := ⟨some d, .call { callee := .value f, args := args, argTypes := ats }, ty, pos, after, some (jj, w)⟩) hwt rfl rfl (evL_ok ht hf) (by simp only [hb]; exact htl) ?_
  have hM : ∃ M, seenBy ⟨some d, .call { callee := .value f, args := args, argTypes := ats }, ty, pos, after, some (jj, w)⟩ ⟨t, h, bs, segs, mem, tail⟩ = M ∧ After hs M ∧ (Nat.beq (mem &&& bb) mem = true → M = entry h) ∧ M.next = h.next ∧ M.low = h.next := by
    refine ⟨_, rfl, ?_, ?_, rfl, rfl⟩
    · unfold seenBy
      simp only [hb]
      cases Nat.beq (mem &&& bb) mem with
      | true => exact ⟨hA.next, hA.get, hA.ok, fun e h1 h2 => Nat.le_trans h2 hA.next⟩
      | false => exact msk_after hA hsg
    · intro ho
      unfold seenBy entry
      simp only [hb, ho, cond_true]
  obtain ⟨M, hM1, hM2, hM3, hM4, hM5⟩ := hM
  rw [hM1, evA_ok ht _ _ ha]
  refine (hc M hM2 hM3).mono fun v h' hx => ?_
  obtain ⟨rfl, hx⟩ := hx
  obtain ⟨t', h1, h2⟩ := put_ok (v := v) hn h4 t ht
  have hlow : Nat.ble h.next h'.low = true := by rw [Nat.ble_eq]; omega
  refine ⟨by rw [hM4]; exact blt_refl' _, by simp only [hlow, Bool.true_or], t', h1, ?_⟩
  have hd : drewOn ⟨some d, .call { callee := .value f, args := args, argTypes := ats }, ty, pos, after, some (jj, w)⟩ i ⟨t, h, bs, segs, mem, tail⟩ t' h' = ⟨t', h, bs ++ [bb], (i, h.next, h.next) :: segs, mem ||| 2 ^ i, tail⟩ := by
    unfold drewOn
    simp only [hlow, cond_true, hM4, newer_same, List.nil_append, hb]
  rw [hd]
  exact hx t' h2

theorem BoxR.chg {lo : Nat} {p : Value} {cs : List Value} (hb : BoxR h lo p cs) (hg : ∀ b ∈ ownP p, h'.get b = h.get b) : BoxR h' lo p cs := by
  obtain ⟨b, e, rfl, h2, h3⟩ := hb
  exact ⟨b, e, rfl, h2, by rw [hg b (by simp [ownP])]; exact h3⟩

/-! ## Parts of a slice -/
theorem SlV.cut {T e : TypeId} {τ : Ty} (hT : ElT P T e τ) {v : Value} {xs : List τ.den} (hv : SlV h S τ v xs) {a b : Int} (h0 : 0 ≤ a ∧ a ≤ b ∧ b ≤ (xs.length : Nat)) :
    ∃ w, (∀ nn ll, fsSlice P T v (some (.int .i64 a)) (some (.int .i64 b)) none { next := nn, low := ll, objs := h.objs } = some w) ∧ SlV h S τ w ((xs.take b.toNat).drop a.toNat) := by
  obtain ⟨i, z, hinf, hsz, _⟩ := hT.sl.info
  obtain ⟨a', rfl⟩ := Int.eq_ofNat_of_zero_le h0.1
  obtain ⟨b', rfl⟩ := Int.eq_ofNat_of_zero_le (show 0 ≤ b by omega)
  have hb : b' ≤ xs.length := by omega
  have hab : a' ≤ b' := by omega
  simp only [Int.toNat_natCast]
  rcases hv with ⟨rfl, rfl⟩ | ⟨bl, o, mk, rfl, h2⟩
  · have : a' = 0 ∧ b' = 0 := by simp at hb; omega
    obtain ⟨rfl, rfl⟩ := this
    refine ⟨.slice none 0 0, fun nn ll => ?_, .inl ⟨rfl, rfl⟩⟩
    simp [fsSlice, hT.sl.sl, boundOf, hinf]
  · have e1 : Nat.ble a' b' = true := by rw [Nat.ble_eq]; exact hab
    have e2 : Nat.ble b' xs.length = true := by rw [Nat.ble_eq]; exact hb
    have hl : ((xs.take b').drop a').length = b' - a' := by simp; omega
    by_cases hab' : a' < b' ∨ a' = 0
    · refine ⟨.slice (some ⟨bl, o + a' * τ.size, none⟩) (b' - a') (bif Nat.beq mk 1 then (bif Nat.beq b' xs.length then 1 else 2) else markOf e bl a' mk h), fun nn ll => ?_, ?_⟩
      · have hmk : markOf e bl a' mk { next := nn, low := ll, objs := h.objs } = markOf e bl a' mk h := rfl
        have hcut : (Nat.blt a' b' || Nat.beq a' 0) = true := by
          rcases hab' with h3 | rfl
          · have : Nat.blt a' b' = true := by show Nat.ble (a' + 1) b' = true; rw [Nat.ble_eq]; exact h3
            rw [this]; rfl
          · simp
        simp only [fsSlice, hT.sl.sl, hinf, boundOf, Int.natCast_nonneg, if_true, Int.toNat_natCast, e1, e2, Bool.and_self, cond_true, cutAt, hcut, hsz, hmk]
      · refine .inr ⟨bl, o + a' * τ.size, _, by rw [hl], ?_⟩
        by_cases hz : a' = b'
        · left; exact List.eq_nil_of_length_eq_zero (by omega)
        · right
          rcases h2 with rfl | ⟨h2, e', rs, own, more, h3, h4, h5⟩
          · simp at hb; omega
          · have hbs : b' * τ.size ≤ xs.length * τ.size := Nat.mul_le_mul_right _ hb
            have habs : a' * τ.size + (b' - a') * τ.size = b' * τ.size := by rw [← Nat.add_mul]; congr 1; omega
            refine ⟨h2, e', rs, own, more, h3, by rw [hl]; omega, fun i hi => ?_⟩
            rw [hl] at hi
            have := h5 (a' + i) (by omega)
            rw [List.getElem_drop, List.getElem_take]
            rwa [Nat.add_mul, ← Nat.add_assoc] at this
    · have hab2 : a' = b' := by omega
      subst hab2
      refine ⟨.slice (some ⟨0, 0, none⟩) 0 2, fun nn ll => ?_, .inr ⟨0, 0, 2, by rw [hl]; simp, .inl (List.eq_nil_of_length_eq_zero (by omega))⟩⟩
      have hcut : (Nat.blt a' a' || Nat.beq a' 0) = false := by
        rw [blt_refl', beq_no (by omega)]; rfl
      simp only [fsSlice, hT.sl.sl, hinf, boundOf, Int.natCast_nonneg, if_true, Int.toNat_natCast, e1, e2, Bool.and_self, cond_true, cutAt, hcut, cond_false]
theorem StepR.slice {T : TypeId} {x lo hi : Operand} {u a b w : Value} (hx : evL fl x = some u) (hl : evL fl lo = some a) (hh : evL fl hi = some b) (hv : ∀ nn ll, fsSlice P T u (some a) (some b) none { next := nn, low := ll, objs := h.objs } = some w) : StepR P fl h (.slice T x (some lo) (some hi) none) w :=
  ⟨rfl, fun t ht _ _ _ _ _ n l => by
    show (fsSlice P T (evalO t x) (some (evalO t lo)) (some (evalO t hi)) none { next := n, low := l, objs := h.objs }).map _ = _
    rw [evL_ok ht hx, evL_ok ht hl, evL_ok ht hh, hv]; rfl⟩
theorem RepV.nil0 {τ : Ty} {v : Value} {x : τ.den} (hv : RepV h S τ v x) : RepV h [] τ v x := hv.nx (Goes.less fun _ hb => by cases hb)
theorem SlV.nil0 {τ : Ty} {v : Value} {xs : List τ.den} (hv : SlV h S τ v xs) : SlV h [] τ v xs := hv.nx (Goes.less fun _ hb => by cases hb)
theorem RepP.nil0 {τ : Ty} {p : Value} {x : τ.den} (hv : RepP h S τ p x) : RepP h [] τ p x := hv.nx (Goes.less fun _ hb => by cases hb)
theorem noS : ∀ b ∈ ([] : List Nat), b < h.next := fun _ hb => by cases hb
end Go.Fs
namespace Go.Fs
variable {P : Program} {fl : FL}

/-- A struct of two fields of int. -/
def iiB (P : Program) (T : TypeId) : Bool :=
  match P.underlying T with
  | some (.struct ⟨[f0, f1]⟩) => !P.stoodInHeld T && !P.eqGuardType P.depth T && !(f0.name == "_") && !(f1.name == "_") && Nat.beq f0.offset 0 && Nat.beq f1.offset 1 &&
      (match P.underlying f0.type with | some (.int .i64) => true | _ => false) && (match P.underlying f1.type with | some (.int .i64) => true | _ => false)
  | _ => false
theorem iiB_inv {T : TypeId} (h : iiB P T = true) : ∃ f0 f1 : Field, P.underlying T = some (.struct #[f0, f1]) ∧ P.stoodInHeld T = false ∧ P.eqGuardType P.depth T = false ∧ f0.name ≠ "_" ∧ f1.name ≠ "_" ∧ f0.offset = 0 ∧ f1.offset = 1 ∧ P.underlying f0.type = some (.int .i64) ∧ P.underlying f1.type = some (.int .i64) := by
  unfold iiB at h
  split at h
  · rename_i f0 f1 hu
    obtain ⟨h, h8⟩ := band h
    obtain ⟨h, h7⟩ := band h
    obtain ⟨h, h6⟩ := band h
    obtain ⟨h, h5⟩ := band h
    obtain ⟨h, h4⟩ := band h
    obtain ⟨h, h3⟩ := band h
    obtain ⟨h1, h2⟩ := band h
    refine ⟨f0, f1, hu, by simpa using h1, by simpa using h2, by simpa using h3, by simpa using h4, nbeq h5, nbeq h6, ?_, ?_⟩
    · split at h7
      · assumption
      · cases h7
    · split at h8
      · assumption
      · cases h8
  · cases h
theorem runPure_program : runPure P program = some P := rfl
theorem runPure_isAgg {t : TypeId} (h : P.underlying t = some (.int .i64)) : runPure P (isAgg t) = some false := by
  unfold isAgg
  rw [runPure_bind, runPure_underlying h]
  rfl
theorem runPure_part {t : TypeId} (h : P.underlying t = some (.int .i64)) {cs : Array Value} {o : Nat} {v : Value} (hv : cs[o]? = some v) : runPure P (part t cs o) = some v := by
  unfold part
  rw [runPure_bind, runPure_isAgg h]
  simp only [Option.bind_some, Bool.false_eq_true, if_false, hv]
  rfl
theorem equal_int {t : TypeId} (h : P.underlying t = some (.int .i64)) (d : Nat) (a c : Int) : runPure P (Op.equalIn (d + 1) t (.int .i64 a) (.int .i64 c)) = some (decide (a = c)) := by
  unfold Op.equalIn
  rw [runPure_bind, runPure_underlying h]
  show some (a == c) = _
  by_cases hac : a = c <;> simp [hac]
theorem equal_ii {T : TypeId} (h : iiB P T = true) (a b c d : Int) : runPure P (Op.equal T (.agg #[.int .i64 a, .int .i64 b]) (.agg #[.int .i64 c, .int .i64 d])) = some (decide (a = c) && decide (b = d)) := by
  obtain ⟨f0, f1, hu, hs, _, n0, n1, o0, o1, u0, u1⟩ := iiB_inv h
  unfold Op.equal
  show runPure P (Op.equalIn (9998 + 1 + 1) T _ _) = _
  have e0 := equal_int u0 9998 a c
  have e1 := equal_int u1 9998 b d
  have p0 : runPure P (part f0.type #[.int .i64 a, .int .i64 b] 0) = some (.int .i64 a) := runPure_part u0 rfl
  have p1 : runPure P (part f0.type #[.int .i64 c, .int .i64 d] 0) = some (.int .i64 c) := runPure_part u0 rfl
  have p2 : runPure P (part f1.type #[.int .i64 a, .int .i64 b] 1) = some (.int .i64 b) := runPure_part u1 rfl
  have p3 : runPure P (part f1.type #[.int .i64 c, .int .i64 d] 1) = some (.int .i64 d) := runPure_part u1 rfl
  rw [Op.equalIn]
  rw [runPure_bind, runPure_underlying hu]
  simp only [Option.bind_some, runPure_bind, runPure_program, hs, Bool.false_eq_true, if_false]
  simp only [← Array.forIn_toList, List.forIn_cons, List.forIn_nil, runPure_bind, n0, n1, ne_eq, not_false_eq_true, if_true, o0, o1, p0, p1, p2, p3, e0, e1, Option.bind_some]
  have e1' : runPure P (Op.equalIn 9999 f1.type (.int .i64 b) (.int .i64 d)) = some (decide (b = d)) := e1
  by_cases hac : a = c
  · subst hac
    by_cases hbd : b = d
    · subst hbd
      simp [runPure_bind, p2, e1', runPure_pure]
    · simp [runPure_bind, p2, p3, e1', hbd, runPure_pure]
  · simp [hac, runPure_bind, runPure_pure]
theorem StepC.neII {T T' : TypeId} {x y : Operand} {a b c d : Int} (h : iiB P T = true) (hx : evL fl x = some (.agg #[.int .i64 a, .int .i64 b])) (hy : evL fl y = some (.agg #[.int .i64 c, .int .i64 d])) : StepC P fl (.binOp .neq T x y T') (.bool (decide ((a, b) ≠ (c, d)))) := by
  obtain ⟨f0, f1, hu, hs, hg, n0, n1, o0, o1, u0, u1⟩ := iiB_inv h
  refine StepC.bin hx hy rfl ?_
  show (runPure P (do eqGuard .neq T x y _ _; binOp .neq T _ _)).bind _ = _
  have he : runPure P (eqGuard .neq T x y (.agg #[.int .i64 a, .int .i64 b]) (.agg #[.int .i64 c, .int .i64 d])) = some () := by
    unfold eqGuard
    simp [runPure_bind, runPure_program, hg, runPure_pure]
  have hb : runPure P (binOp .neq T (.agg #[.int .i64 a, .int .i64 b]) (.agg #[.int .i64 c, .int .i64 d])) = some (.bool (!(decide (a = c) && decide (b = d)))) := by
    unfold binOp
    simp only [runPure_bind, equal_ii h, Option.bind_some, runPure_pure]
  rw [runPure_bind, he]
  simp only [Option.bind_some, hb]
  by_cases hac : a = c <;> by_cases hbd : b = d <;> simp [hac, hbd, af, af1, af0]
theorem StepC.eqII {T T' : TypeId} {x y : Operand} {a b c d : Int} (h : iiB P T = true) (hx : evL fl x = some (.agg #[.int .i64 a, .int .i64 b])) (hy : evL fl y = some (.agg #[.int .i64 c, .int .i64 d])) : StepC P fl (.binOp .eql T x y T') (.bool (decide ((a, b) = (c, d)))) := by
  obtain ⟨f0, f1, hu, hs, hg, n0, n1, o0, o1, u0, u1⟩ := iiB_inv h
  refine StepC.bin hx hy rfl ?_
  show (runPure P (do eqGuard .eql T x y _ _; binOp .eql T _ _)).bind _ = _
  have he : runPure P (eqGuard .eql T x y (.agg #[.int .i64 a, .int .i64 b]) (.agg #[.int .i64 c, .int .i64 d])) = some () := by
    unfold eqGuard
    simp [runPure_bind, runPure_program, hg, runPure_pure]
  have hb : runPure P (binOp .eql T (.agg #[.int .i64 a, .int .i64 b]) (.agg #[.int .i64 c, .int .i64 d])) = some (.bool (decide (a = c) && decide (b = d))) := by
    unfold binOp
    simp only [runPure_bind, equal_ii h, Option.bind_some, runPure_pure]
  rw [runPure_bind, he]
  simp only [Option.bind_some, hb]
  by_cases hac : a = c <;> by_cases hbd : b = d <;> simp [hac, hbd, af, af1, af0]
end Go.Fs
namespace Go
variable {P : Program}
theorem stepR_scopeFs {b : Frame} {a : Act} {k : List Item} {cs : List Frame} {w : World} {c : Code} : step P (lone (b.atR a (.code (.scope c) :: k)) cs w) = .next (lone (b.atR a (.code c :: .inScope c :: k)) cs w) :=
  step_lone_go (by simp [stepG, stepG.exec, Frame.atR])
theorem stepR_inScopeFs {b : Frame} {a : Act} {k : List Item} {cs : List Frame} {w : World} {c : Code} : step P (lone (b.atR a (.inScope c :: k)) cs w) = .next (lone (b.atR a k) cs w) :=
  step_lone_go (by simp [stepG, stepG.exec, Frame.atR])
/-- A piece that is left by no jump to a label. -/
theorem wpIn_scopeFs {F : Fence} {n : Nat} {Q : Exit → Act → World → Prop} {a : Act} {w : World} {c : Code} (h : c.wpIn F n P (Exit.noGoto Q) a w) : (Code.scope c).wpIn F n P Q a w := by
  intro b k cs hro hb hr
  have h0 : (lone (b.atR a (.code (.scope c) :: k)) cs w).fenced P F := fenced_calm hb hr rfl
  obtain ⟨e, a₁, w₁, hq, harr⟩ := h b (.inScope c :: k) cs hro hb hr
  cases e with
  | normal => exact ⟨.normal, a₁, w₁, hq, .head h0 stepR_scopeFs (StepsIn.trans harr (.one (fenced_calm hb hr rfl) stepR_inScopeFs))⟩
  | exit id =>
    have hx : exitTo id (.inScope c :: k) = exitTo id k := by simp [exitTo]
    exact ⟨.exit id, a₁, w₁, hq, fun k' hk => .head h0 stepR_scopeFs (harr.1 k' (by rw [hx]; exact hk)),
      fun hr' hk => let ⟨k₁, h1, h2⟩ := harr.2 hr' (by rw [hx]; exact hk); ⟨k₁, h1, .head h0 stepR_scopeFs h2⟩⟩
  | goto l => exact hq.elim
  | ret => exact ⟨_, a₁, w₁, hq, .of_steps (.one h0 stepR_scopeFs) harr⟩
  | panic ch => exact ⟨_, a₁, w₁, hq, .of_steps (.one h0 stepR_scopeFs) harr⟩
  | outgrown => exact ⟨_, a₁, w₁, hq, .of_steps (.one h0 stepR_scopeFs) harr⟩

end Go
namespace Go.Fs
open Go.RowKit (Below)
variable {P : Program} {ρ ρ' : Ren} {S S' : Nat → Prop} {B : Nat} {w0 w w' w1 w2 : World} {h h' h1 h2 : Heap}

theorem call_sound (hP : ProgOk P) {orc : FuncId → List Value → Heap → Option (Value × Heap)} (horc : CallSound P B w0 orc) {m : Nat} {rec : Rec} (hrec : SoundR P B w0 m rec) : CallSound P B w0 (callOf P orc rec) := by
  intro f args h v h' hf
  unfold callOf at hf
  split at hf
  · rename_i r hr
    simp only [Option.some.injEq] at hf
    subst hf
    exact horc _ _ _ _ _ hr
  · exact enter_sound hP hrec _ _ _ _ _ hf

theorem Post.same {fr : Fr} {a : Act} (hr : HR P ρ S B w0 h w) (ht : TrR ρ S fr.t fr.n a.tmps) (hm : MarksR ρ S fr.marks a.defers) : Post P B w0 ρ ρ S h w fr h w a :=
  ⟨Moved.same hr, ht.mono fun _ hb => ⟨.inl hb, rfl⟩, hm.mono fun _ hb => ⟨.inl hb, rfl⟩⟩

theorem step_sound (hP : ProgOk P) {orc : FuncId → List Value → Heap → Option (Value × Heap)} (horc : CallSound P B w0 orc) {m : Nat} {rec : Rec} (hrec : SoundR P B w0 m rec) : SoundR P B w0 (m + 1) (fsStep P orc rec) := by
  intro rnd c fr h e fr' h' hok hf ρ S w a nn Q hr ht hm hs k
  have hcs : CallSound P B w0 (callOf P orc rec) := call_sound hP horc hrec
  have hys : YieldSound P B w0 (fsYield rec) := yield_sound hrec
  cases c with
  | skip =>
    simp only [fsStep, Option.some.injEq, Prod.mk.injEq] at hf
    obtain ⟨rfl, rfl, rfl⟩ := hf
    exact wpIn_skip (k _ _ _ (Post.same hr ht hm))
  | label l =>
    simp only [fsStep, Option.some.injEq, Prod.mk.injEq] at hf
    obtain ⟨rfl, rfl, rfl⟩ := hf
    exact wpIn_label (k _ _ _ (Post.same hr ht hm))
  | exit id =>
    simp only [fsStep, Option.some.injEq, Prod.mk.injEq] at hf
    obtain ⟨rfl, rfl, rfl⟩ := hf
    exact wpIn_exit (k _ _ _ (Post.same hr ht hm))
  | ret =>
    simp only [fsStep, Option.some.injEq, Prod.mk.injEq] at hf
    obtain ⟨rfl, rfl, rfl⟩ := hf
    exact wpIn_ret (k _ _ _ (Post.same hr ht hm))
  | goto l => simp only [fsStep] at hf; cases hf
  | refuse l => simp only [fsStep] at hf; cases hf
  | scope b =>
    simp only [fsStep] at hf
    refine wpIn_scopeFs ?_
    refine (hrec rnd b fr h e fr' h' hok hf ρ S w a nn _ hr ht hm hs fun ρ1 w1 a1 p1 => ?_).wpIn
    have hq := k _ _ _ p1
    cases e with
    | normal => exact hq
    | exit id => exact hq
    | ret => exact hq
  | seq x y =>
    simp only [fsStep] at hf
    obtain ⟨ok1, ok2⟩ := band (show (codeOk x && codeOk y) = true from hok)
    refine wpIn_seq ?_
    split at hf
    · rename_i fr1 h1 hrun
      refine (hrec rnd x fr h _ fr1 h1 ok1 hrun ρ S w a nn _ hr ht hm hs fun ρ1 w1 a1 p1 => ?_).wpIn
      show y.wpIn (rndF ρ rnd) nn P Q a1 w1
      rw [← rndF_eq hs p1.moved.agree]
      exact (hrec rnd y fr1 h1 e fr' h' ok2 hf ρ1 _ w1 a1 nn Q p1.moved.hr p1.tmps p1.marks (fun l hl => .inl (hs l hl)) fun ρ2 w2 a2 p2 => k _ _ _ (Post.trans (fr1 := fr1) (a1 := a1) p1.moved p2)).wpIn
    · rename_i hne
      refine (hrec rnd x fr h e fr' h' ok1 hf ρ S w a nn _ hr ht hm hs fun ρ1 w1 a1 p1 => ?_).wpIn
      have hq := k _ _ _ p1
      cases e with
      | normal => exact (hne _ _ hf).elim
      | exit id => exact hq
      | ret => exact hq
  | cond x y z =>
    simp only [fsStep] at hf
    obtain ⟨ok1, ok2⟩ := band (show (codeOk y && codeOk z) = true from hok)
    have hev := ht.eval a.defers x
    split at hf
    · rename_i hx
      rw [hx] at hev
      exact wpIn_cond_true hev.bool_inv (hrec rnd y fr h e fr' h' ok1 hf ρ S w a nn Q hr ht hm hs k).wpIn
    · rename_i hx
      rw [hx] at hev
      exact wpIn_cond_false hev.bool_inv (hrec rnd z fr h e fr' h' ok2 hf ρ S w a nn Q hr ht hm hs k).wpIn
    · cases hf
  | block id b =>
    simp only [fsStep] at hf
    refine wpIn_block ?_
    split at hf
    · rename_i id' fr1 h1 hrun
      refine (hrec rnd b fr h _ fr1 h1 hok hrun ρ S w a nn _ hr ht hm hs fun ρ1 w1 a1 p1 => ?_).wpIn
      cases hb : Nat.beq id' id with
      | true =>
        rw [hb] at hf
        simp only [cond_true, Option.some.injEq, Prod.mk.injEq] at hf
        obtain ⟨rfl, rfl, rfl⟩ := hf
        have := k _ _ _ p1
        simp only [exOf, Exit.inBlock, nbeq hb, if_true]
        exact this
      | false =>
        rw [hb] at hf
        simp only [cond_false, Option.some.injEq, Prod.mk.injEq] at hf
        obtain ⟨rfl, rfl, rfl⟩ := hf
        have := k _ _ _ p1
        simp only [exOf, Exit.inBlock, if_neg (ne_of_no hb)]
        exact this
    · rename_i hne
      refine (hrec rnd b fr h e fr' h' hok hf ρ S w a nn _ hr ht hm hs fun ρ1 w1 a1 p1 => ?_).wpIn
      have hq := k _ _ _ p1
      cases e with
      | normal => exact hq
      | exit id' => exact (hne _ _ _ hf).elim
      | ret => exact hq
  | loop b =>
    simp only [fsStep] at hf
    show Code.roundsIn (rndF ρ rnd) nn P b Q (m + 1) a w
    rw [roundsIn_succ]
    split at hf
    · rename_i fr1 h1 hrun
      refine (hrec rnd b fr h _ fr1 h1 hok hrun ρ S w a nn _ hr ht hm hs fun ρ1 w1 a1 p1 => ?_).wpIn
      show Code.roundsIn (rndF ρ rnd) nn P b Q m a1 w1
      rw [← rndF_eq hs p1.moved.agree]
      exact hrec rnd (.loop b) fr1 h1 e fr' h' hok hf ρ1 _ w1 a1 nn Q p1.moved.hr p1.tmps p1.marks (fun l hl => .inl (hs l hl)) fun ρ2 w2 a2 p2 => k _ _ _ (Post.trans (fr1 := fr1) (a1 := a1) p1.moved p2)
    · rename_i hne
      refine (hrec rnd b fr h e fr' h' hok hf ρ S w a nn _ hr ht hm hs fun ρ1 w1 a1 p1 => ?_).wpIn
      have hq := k _ _ _ p1
      cases e with
      | normal => exact (hne _ _ hf).elim
      | exit id => exact hq
      | ret => exact hq
  | region id ops draw =>
    cases draw with
    | false =>
      simp only [fsStep] at hf
      split at hf
      · rename_i t h1 hrun
        simp only [Option.some.injEq, Prod.mk.injEq] at hf
        obtain ⟨rfl, rfl, rfl⟩ := hf
        refine wpIn_region ?_
        exact ops_wp (step := fsOp P (callOf P orc rec) (fsYield rec)) rfl hcs hys _ _ ρ S w a fr.t h range_map hr ht hrun fun ρ1 w1 a1 m1 ht1 hd1 => k _ _ _ ⟨m1, ht1, by rw [hd1]; exact hm.mono fun b hb => ⟨.inl hb, m1.agree b hb⟩⟩
      · cases hf
    | true =>
      simp only [fsStep] at hf
      split at hf
      · rename_i s hrun
        simp only [Option.some.injEq, Prod.mk.injEq] at hf
        obtain ⟨rfl, rfl, rfl⟩ := hf
        refine wpIn_region_draw fun t => ?_
        rw [hP.mixed]
        exact drawn_wp (call := callOf P orc rec) (yield := fsYield rec) hcs hys hok hrun (hr.drew _) ht (fun ρ1 w1 a1 m1 ht1 hd1 => k _ _ _ ⟨Moved.ofDrew m1, ht1, by rw [hd1]; exact hm.mono fun b hb => ⟨.inl hb, m1.agree b hb⟩⟩) t
      · cases hf
  | rangeFunc g ps assign body =>
    simp only [fsStep] at hf
    obtain ⟨ok1, ok2⟩ := band (show (codeOk assign && codeOk body) = true from hok)
    exact rangeFunc_sound hP hrec ok1 ok2 hf hr ht hm hs k

theorem code_sound (hP : ProgOk P) {orc : FuncId → List Value → Heap → Option (Value × Heap)} (horc : CallSound P B w0 orc) : ∀ m, SoundR P B w0 m (fsCode P orc m)
  | 0 => fun rnd c fr h e fr' h' _ hf => by cases hf
  | m + 1 => step_sound hP horc (code_sound hP horc m)

/-- **A call, evaluated.** -/
theorem fs_calls (hP : ProgOk P) {orc : FuncId → List Value → Heap → Option (Value × Heap)} (horc : CallSound P B w0 orc) (m : Nat) : CallSound P B w0 (fsEnter P (fsCode P orc m)) := enter_sound hP (code_sound hP horc m)

/-- **A closed call whose value bears no address: in every world, the world but for new blocks as it was.** -/
theorem fs_closed (hP : ProgOk P) {w : World} {orc : FuncId → List Value → Heap → Option (Value × Heap)} (horc : CallSound P w.heap.size w orc) {m : Nat} {f : FuncId} {args : List Value} {v : Value} (ha : args.all af = true)
    (hf : (fsEnter P (fsCode P orc m) f args ⟨1, 1, []⟩).map (·.1) = some v) (hv : af v = true) :
    Calls P f args.toArray w fun | .returned v', w' => v' = v ∧ Below w.heap.size w w' | _, _ => False := by
  obtain ⟨⟨v0, h0⟩, h1, h2⟩ := Option.map_eq_some_iff.1 hf
  simp only at h2
  subst h2
  have hr : HR P (fun _ => ⟨0, 0, 0, 0⟩) (fun _ => False) w.heap.size w ⟨1, 1, []⟩ w :=
    { objs := fun i o hi => (by cases hi), inj := fun i j oi oj hi => (by cases hi), base := fun i o hi => (by cases hi), ro := fun i o hi => (by cases hi), ids := fun b hb => hb.elim, pos := by decide,
      below := Below.refl _ _, size := Nat.le_refl _ }
  have hc := ((fs_calls hP horc m) f args _ _ _ h1).2 _ _ w args hr ⟨rfl, fun i hi => .of_af (List.all_eq_true.1 ha _ (mem_getD hi))⟩ 0
  refine Calls.mono (callsIn_wide.1 hc) fun e w' he => ?_
  cases e with
  | returned v' =>
    obtain ⟨ρ', m1, hv1⟩ := he
    exact ⟨hv1.eq_of_af hv, m1.hr.below⟩
  | panicked c => exact he.elim
  | outgrown => exact he.elim

end Go.Fs
namespace Go.Fs
open Go.RowKit (Below)
variable {P : Program}

/-- **A call whose value is known, evaluated from a heap that is related to the world.** -/
theorem fs_open (hP : ProgOk P) {B : Nat} {w0 w : World} {orc : FuncId → List Value → Heap → Option (Value × Heap)} (horc : CallSound P B w0 orc) {ρ : Ren} {S : Nat → Prop} {h : Heap} {f : FuncId} {args args' : List Value} {v : Value}
    (hr : HR P ρ S B w0 h w) (ha : LR ρ S args args') (he : EvF P orc f args h fun u _ => u = v) (hv : af v = true) : Calls P f args'.toArray w fun | .returned v', w' => v' = v ∧ Below B w0 w' | _, _ => False := by
  obtain ⟨m, u, h', h1, rfl⟩ := he
  have hc := (call_sound hP horc (code_sound hP horc m) f args h u h' h1).2 ρ S w args' hr ha 0
  refine Calls.mono (callsIn_wide.1 hc) fun e w' he => ?_
  cases e with
  | returned v' =>
    obtain ⟨ρ', m1, hv1⟩ := he
    exact ⟨hv1.eq_of_af hv, m1.hr.below⟩
  | panicked c => exact he.elim
  | outgrown => exact he.elim

/-- The kernel's run, as a run. -/
theorem EvF.ofRun {orc : FuncId → List Value → Heap → Option (Value × Heap)} {m : Nat} {f : FuncId} {args : List Value} {h : Heap} {v : Value} (ho : orc f args h = none) (hr : fsEnter P (fsCode P orc m) f args h = some (v, h)) : EvF P orc f args h fun u h' => u = v ∧ h' = h :=
  ⟨m, v, h, by unfold callOf; rw [ho]; exact hr, rfl, rfl⟩
end Go.Fs
namespace Go.Fs
open Go.RowKit (Below)
variable {P : Program}

def digs : Nat → Nat → List UInt8
  | 0, _ => []
  | f + 1, n => bif Nat.blt n 10 then [UInt8.ofNat (48 + n)] else digs f (n / 10) ++ [UInt8.ofNat (48 + n % 10)]
def itoaF (n : Int) : List UInt8 := match n with
  | .ofNat k => digs 20 k
  | .negSucc k => 45 :: digs 20 (k + 1)
def joinF (sep : List UInt8) : List (List UInt8) → List UInt8
  | [] => []
  | [w] => w
  | w :: r => w ++ sep ++ joinF sep r
def strs : List Value → Option (List ByteArray)
  | [] => some []
  | .string s :: r => (strs r).map (s :: ·)
  | _ => none

theorem digs_eq : ∀ (f n : Nat), n < 10 ^ (f + 1) → digs (f + 1) n = Lib.decDigits n
  | f, n, h => by
    unfold digs Lib.decDigits
    cases hb : Nat.blt n 10 with
    | true => rw [dif_pos (nblt hb)]; rfl
    | false =>
      have h1 : ¬ n < 10 := by have := nble_no hb; omega
      rw [dif_neg h1]
      simp only [cond_false]
      cases f with
      | zero => simp at h; omega
      | succ f => rw [digs_eq f (n / 10) (by rw [Nat.pow_succ] at h; omega)]
theorem itoaF_eq {n : Int} (h0 : -1000000000000000000 < n) (h1 : n < 1000000000000000000) : itoaF n = Lib.itoa n := by
  unfold Lib.itoa
  cases n with
  | ofNat k =>
    rw [if_neg (by simp)]
    show digs 20 k = _
    rw [digs_eq 19 k (by have : (k : Int) < 1000000000000000000 := h1; have : (10 : Nat) ^ (19 + 1) = 100000000000000000000 := by decide
                         omega)]
    rfl
  | negSucc k =>
    rw [if_pos (by omega)]
    show 45 :: digs 20 (k + 1) = _
    rw [digs_eq 19 (k + 1) (by have h2 : -1000000000000000000 < Int.negSucc k := h0; have : (10 : Nat) ^ (19 + 1) = 100000000000000000000 := by decide
                               omega)]
    rfl
theorem joinF_eq (sep : List UInt8) : ∀ xs : List (List UInt8), joinF sep xs = Lib.join xs sep
  | [] => rfl
  | [w] => by rw [Lib.join_one]; rfl
  | w :: v :: r => by
    rw [Lib.join_cons]
    simp only [joinF]
    rw [joinF_eq sep (v :: r), Lib.join_cons]
    simp [Lib.joinTail]

/-- strconv.Itoa is number fi, strings.Join number fj. -/
def orcS (fi fj : FuncId) : FuncId → List Value → Heap → Option (Value × Heap) := fun f xs h =>
  bif Nat.beq f fi then
    match xs with
    | [.int .i64 n] => bif decide (-1000000000000000000 < n) && decide (n < 1000000000000000000) then some (.string ⟨(itoaF n).toArray⟩, h) else none
    | _ => none
  else bif Nat.beq f fj then
    match xs with
    | [.slice (some ⟨b, o, none⟩) n _, .string sep] =>
      match h.get b with
      | some (.row _ cs _ _) =>
        bif Nat.ble (o + n) cs.length && Nat.ble n 1000000 then
          match strs ((cs.drop o).take n) with
          | some ss => let r := joinF sep.data.toList (ss.map (·.data.toList))
            bif Nat.ble r.length 1000000000 then some (.string ⟨r.toArray⟩, h) else none
          | none => none
        else none
      | _ => none
    | _ => none
  else none
variable {B : Nat} {w0 w w' : World} {ρ : Ren} {S : Nat → Prop} {h : Heap}
theorem strs_ok : ∀ (cs cs' : List Value) (ss : List ByteArray), LR ρ S cs cs' → strs cs = some ss → cs' = ss.map .string
  | [], cs', ss, hl, hs => by
    simp only [strs, Option.some.injEq] at hs
    subst hs
    exact List.eq_nil_of_length_eq_zero hl.1.symm
  | v :: r, [], ss, hl, _ => by have := hl.1; simp at this
  | v :: r, v' :: r', ss, hl, hs => by
    unfold strs at hs
    split at hs
    · rename_i he; cases he
    · rename_i s r0 he
      simp only [List.cons.injEq] at he
      obtain ⟨rfl, rfl⟩ := he
      obtain ⟨ss0, h1, rfl⟩ := Option.map_eq_some_iff.1 hs
      have hv : VR ρ S (.string s) v' := hl.2 0 (by simp)
      have hr : LR ρ S r r' := ⟨by have := hl.1; simpa using this, fun i hi => by have := hl.2 (i + 1) (by simp; omega); simpa using this⟩
      rw [hv.string_inv, strs_ok r r' ss0 hr h1]
      rfl
    · cases hs

/-- The two contracts make the oracle sound. -/
theorem orcS_sound {fi fj : FuncId} (hi : Enters P fi) (hj : Enters P fj)
    (hI : ∀ (n : Int) (w : World), Below B w0 w → -9223372036854775808 ≤ n → n ≤ 9223372036854775807 → Calls P fi #[.int .i64 n] w fun e w' => e = .returned (.string ⟨(Lib.itoa n).toArray⟩) ∧ Below w.heap.size w w')
    (hJ : ∀ (bk o c : Nat) (xs : List ByteArray) (sep : ByteArray) (w : World), (∀ (j : Nat) x, xs[j]? = some x → w.cell? ⟨bk, o + j, none⟩ = some (.string x)) → bk < w.heap.size → xs.length ≤ 140737488355328 → xs.length ≤ c →
      (Lib.join (xs.map (·.data.toList)) sep.data.toList).length ≤ 140737488355328 →
      Calls P fj #[.slice (some ⟨bk, o, none⟩) xs.length c, .string sep] w fun e w' => e = .returned (.string ⟨(Lib.join (xs.map (·.data.toList)) sep.data.toList).toArray⟩) ∧ Below w.heap.size w w') :
    CallSound P B w0 (orcS fi fj) := by
  intro f xs h v h' hf
  unfold orcS at hf
  cases hfi : Nat.beq f fi with
  | true =>
    have := nbeq hfi
    subst this
    rw [hfi] at hf
    simp only [cond_true] at hf
    split at hf
    · rename_i n
      obtain ⟨hc, hf2⟩ := bif_some hf
      obtain ⟨h0, h1⟩ := band hc
      have h0 := of_decide_eq_true h0
      have h1 := of_decide_eq_true h1
      simp only [Option.some.injEq, Prod.mk.injEq] at hf2
      obtain ⟨rfl, rfl⟩ := hf2
      refine ⟨hi, fun ρ S w args' hr ha nn => ?_⟩
      have he : args' = [.int .i64 n] := ha.eq_of_af (by rfl)
      subst he
      have hC : CallsIn Fence.wide nn P f #[.int .i64 n] w _ := callsIn_wide.2 (hI n w hr.below (by omega) (by omega))
      refine hC.mono fun e w' hret => ?_
      obtain ⟨rfl, hb⟩ := hret
      exact ⟨ρ, Moved.grewWorld hr hb, by rw [itoaF_eq h0 h1]; exact .lit rfl⟩
    · cases hf
  | false =>
    rw [hfi] at hf
    simp only [cond_false] at hf
    obtain ⟨hfj, hf2⟩ := bif_some hf
    have := nbeq hfj
    subst this
    clear hf
    split at hf2
    · rename_i b o n mk sep
      split at hf2
      · rename_i e cs own more hg
        obtain ⟨hc, hf3⟩ := bif_some hf2
        obtain ⟨hle, hn⟩ := band hc
        have hle := nble hle
        have hn := nble hn
        split at hf3
        · rename_i ss hss
          obtain ⟨hlen, hf4⟩ := bif_some hf3
          have hlen := nble hlen
          simp only [Option.some.injEq, Prod.mk.injEq] at hf4
          obtain ⟨rfl, rfl⟩ := hf4
          refine ⟨hj, fun ρ S w args' hr ha nn => ?_⟩
          match args', ha with
          | [x', s'], ha =>
            have hx : VR ρ S (.slice (some ⟨b, o, none⟩) n mk) x' := ha.2 0 (by simp)
            have hs : VR ρ S (.string sep) s' := ha.2 1 (by simp)
            obtain ⟨A, c, rfl, hnc, _, _, hb⟩ := hx.slice_inv
            obtain rfl := hs.string_inv
            have hb0 : b ≠ 0 := (hr.ids b (hr.objs b _ hg).1).2
            obtain ⟨_, rfl, _⟩ := hb hb0
            have hobj := (hr.objs b _ hg).2
            have hlt : (ρ b).block < w.heap.size := by
              by_cases hown : ownO (.row e cs own more) = true
              · exact hobj.lt hown
              · have := hr.ro b _ hg (by simpa using hown)
                have := hr.size
                omega
            have hlr : LR ρ S ((cs.drop o).take n) ((List.range n).map fun j => (w.cell? ((ρ b).at (o + j))).getD undef) := by
              refine LR.of_get? (by simp; omega) fun i v v' hv hv' => ?_
              rw [List.getElem?_take] at hv
              split at hv
              · rename_i hin
                rw [List.getElem?_drop] at hv
                obtain ⟨u, h1, h2⟩ := hobj.cell (i := o + i) (by omega)
                simp [hin, h1] at hv'
                subst hv'
                have : cs.getD (o + i) undef = v := by simp [List.getD, hv]
                rwa [this] at h2
              · cases hv
            have heq := strs_ok _ _ ss hlr hss
            have hsl : ss.length = n := by
              have := congrArg List.length heq
              simp at this
              omega
            have hcells : ∀ (j : Nat) x, ss[j]? = some x → w.cell? ⟨(ρ b).block, (ρ b).off + o + j, none⟩ = some (.string x) := fun j x hjx => by
              have hjn : j < n := by have := (List.getElem?_eq_some_iff.1 hjx).1; omega
              obtain ⟨u, h1, h2⟩ := hobj.cell (i := o + j) (by omega)
              have h3 := congrArg (·[j]?) heq
              simp [hjn, hjx, h1] at h3
              subst h3
              simpa [Loc.at, Nat.add_assoc] using h1
            rw [joinF_eq] at hlen
            have hC : CallsIn Fence.wide nn P f #[.slice (some ⟨(ρ b).block, (ρ b).off + o, none⟩) ss.length c, .string sep] w _ := callsIn_wide.2 (hJ (ρ b).block ((ρ b).off + o) c ss sep w hcells hlt (by omega) (by omega) (by omega))
            rw [hsl] at hC
            refine hC.mono fun e w' hret => ?_
            obtain ⟨rfl, hb⟩ := hret
            exact ⟨ρ, Moved.grewWorld hr hb, by rw [joinF_eq]; exact .lit rfl⟩
        · cases hf3
      · cases hf2
    · cases hf2

end Go.Fs
namespace Go.Fs
open Go.RowKit (Below)
variable {P : Program}

/-- As orcS; function fa answers true. -/
def orcA (fi fj fa : FuncId) : FuncId → List Value → Heap → Option (Value × Heap) := fun f xs h =>
  bif Nat.beq f fa then
    match xs with
    | [] => some (.bool true, h)
    | _ => none
  else orcS fi fj f xs h

theorem orcA_sound {B : Nat} {w0 : World} {fi fj fa : FuncId} (hS : CallSound P B w0 (orcS fi fj)) (ha : Enters P fa)
    (hA : ∀ w, Below B w0 w → Calls P fa #[] w fun | .returned v', w' => v' = .bool true ∧ Below w.heap.size w w' | _, _ => False) : CallSound P B w0 (orcA fi fj fa) := by
  intro f xs h v h' hf
  unfold orcA at hf
  cases hb : Nat.beq f fa with
  | true =>
    have := nbeq hb
    subst this
    rw [hb] at hf
    simp only [cond_true] at hf
    split at hf
    · simp only [Option.some.injEq, Prod.mk.injEq] at hf
      obtain ⟨rfl, rfl⟩ := hf
      refine ⟨ha, fun ρ S w args' hr har nn => ?_⟩
      have he : args' = [] := List.eq_nil_of_length_eq_zero har.1.symm
      subst he
      have hC : CallsIn Fence.wide nn P f #[] w _ := callsIn_wide.2 (hA w hr.below)
      refine hC.mono fun e w' hret => ?_
      cases e with
      | returned v' =>
        obtain ⟨rfl, hb⟩ := hret
        exact ⟨ρ, Moved.grewWorld hr hb, .lit rfl⟩
      | panicked c => exact hret.elim
      | outgrown => exact hret.elim
    · cases hf
  | false =>
    rw [hb] at hf
    exact hS f xs h v h' hf

/-- The closed call's soundness, at every world behind w0. -/
theorem awake_calls (hP : ProgOk P) {B : Nat} {w0 : World} {fi fj fa : FuncId} (hS : ∀ w, Below B w0 w → CallSound P w.heap.size w (orcS fi fj)) {m : Nat}
    (hrun : (fsEnter P (fsCode P (orcS fi fj) m) fa [] ⟨1, 1, []⟩).map (·.1) = some (.bool true)) (w : World) (hw : Below B w0 w) :
    Calls P fa #[] w fun | .returned v', w' => v' = .bool true ∧ Below w.heap.size w w' | _, _ => False :=
  fs_closed hP (hS w hw) (args := []) rfl hrun rfl
end Go.Fs
namespace Go.Proofs
open Go.Fs
set_option linter.unusedVariables false
def OA := orcA 211 154 16
def loops : Code → List Code
  | .seq a b => loops a ++ loops b
  | .cond _ a b => loops a ++ loops b
  | .block _ b | .scope b => loops b
  | .loop b => b :: loops b
  | .rangeFunc _ _ a b => loops a ++ loops b
  | _ => []
theorem vt3 : ValT Tryz.prog 3 (.int .i64) := valT_of (by kernel_rfl)
theorem vt26 : ValT Tryz.prog 26 (.int .i64) := valT_of (by kernel_rfl)
theorem el22 : ElT Tryz.prog 22 3 (.int .i64) := elT_of (by kernel_rfl)
theorem el179 : ElT Tryz.prog 179 26 (.int .i64) := elT_of (by kernel_rfl)
def whenE (c : Bool) (e : Int) : Int := bif c then e else 0
theorem sWhen_ok {h : Heap} {S : List Nat} {c : Bool} {e : Int} (hok : HOk h) (hS : ∀ b ∈ S, b < h.next) : EvF Tryz.prog OA 93 [.bool c, .int .i64 e] h fun r h' => r = .int .i64 (whenE c e) ∧ h' = h := by
  refine XF.enter Tryz.func93 rfl rfl rfl ?_
  have hok : HOk (entry h) := hok
  have hA := After.refl (entry h)
  show XC Tryz.prog OA none _ _ [] [(0, .bool c), (1, .int .i64 e)] (entry h) _
  refine XC.seq ?_
  refine XC.text ?_
  refine XO.c (.assign rfl) rfl rfl ?_
  refine XO.nil (thenC.go ?_)
  refine XC.seq ?_
  refine XC.seq ?_
  refine XC.text ?_
  refine XO.c (.move rfl) rfl rfl ?_
  refine XO.nil (thenC.go ?_)
  refine XC.condB rfl (fun c1 => ?_) (fun c1 => ?_)
  · subst c1
    refine XC.seq ?_
    refine XC.text ?_
    refine XO.c (.move rfl) rfl rfl ?_
    refine XO.c (.assign rfl) rfl rfl ?_
    refine XO.nil (thenC.go ?_)
    refine XC.ret fun tf htf => ?_
    refine thenC_ret ?_
    refine endF.one rfl rfl (htf 4 _ rfl) ?_
    exact ⟨congrArg (Value.int .i64) (by rfl), hA.leftAf rfl⟩
  · subst c1
    refine XC.skip (thenC.go ?_)
    refine XC.seq ?_
    refine XC.text ?_
    refine XO.c (.assign rfl) rfl rfl ?_
    refine XO.nil (thenC.go ?_)
    refine XC.ret fun tf htf => ?_
    refine endF.one rfl rfl (htf 4 _ rfl) ?_
    exact ⟨congrArg (Value.int .i64) (by rfl), hA.leftAf rfl⟩
def rangeE (n lo hi : Int) : Int := if n < lo ∨ hi < n then 3 else 0
theorem rCheckRange_ok {h : Heap} {S : List Nat} {n : Int} {lo : Int} {hi : Int} (hok : HOk h) (hS : ∀ b ∈ S, b < h.next) : EvF Tryz.prog OA 40 [.int .i64 n, .int .i64 lo, .int .i64 hi] h fun r h' => r = .int .i64 (rangeE n lo hi) ∧ h' = h := by
  refine XF.enter Tryz.func40 rfl rfl rfl ?_
  have hok : HOk (entry h) := hok
  have hA := After.refl (entry h)
  show XC Tryz.prog OA none _ _ [] [(0, .int .i64 n), (1, .int .i64 lo), (2, .int .i64 hi)] (entry h) _
  refine XC.seq ?_
  refine XC.text ?_
  refine XO.c (.assign rfl) rfl rfl ?_
  refine XO.nil (thenC.go ?_)
  refine XC.seq ?_
  refine XC.seq ?_
  refine XC.text ?_
  refine XO.c (.move rfl) rfl rfl ?_
  refine XO.c (.move rfl) rfl rfl ?_
  refine XO.c (.lss rfl rfl) rfl rfl ?_
  refine XO.c (.move rfl) rfl rfl ?_
  refine XO.splitD (x := 10) rfl (fun g1_3 => ?_) (fun g1_3 => ?_)
  · refine XO.skip rfl rfl rfl rfl rfl ?_
    refine XO.skip rfl rfl rfl rfl rfl ?_
    refine XO.skip rfl rfl rfl rfl rfl ?_
    refine XO.c (.pickT rfl rfl) rfl rfl ?_
    refine XO.nil (thenC.go ?_)
    refine XC.condT rfl ?_
    refine XC.seq ?_
    refine XC.text ?_
    refine XO.c (.assign rfl) rfl rfl ?_
    refine XO.nil (thenC.go ?_)
    refine XC.ret fun tf htf => ?_
    refine thenC_ret ?_
    refine endF.one rfl rfl (htf 6 _ rfl) ?_
    exact ⟨congrArg (Value.int .i64) (by simp [rangeE, *]), hA.leftAf rfl⟩
  · refine XO.gc rfl rfl rfl (.move rfl) rfl rfl ?_
    refine XO.gc rfl rfl rfl (.move rfl) rfl rfl ?_
    refine XO.gc rfl rfl rfl (.gtr rfl rfl) rfl rfl ?_
    refine XO.c (.pickF rfl rfl) rfl rfl ?_
    refine XO.nil (thenC.go ?_)
    refine XC.condD rfl (fun c1 => ?_) (fun c1 => ?_)
    · refine XC.seq ?_
      refine XC.text ?_
      refine XO.c (.assign rfl) rfl rfl ?_
      refine XO.nil (thenC.go ?_)
      refine XC.ret fun tf htf => ?_
      refine thenC_ret ?_
      refine endF.one rfl rfl (htf 6 _ rfl) ?_
      exact ⟨congrArg (Value.int .i64) (by simp [rangeE, *]), hA.leftAf rfl⟩
    · refine XC.skip (thenC.go ?_)
      refine XC.seq ?_
      refine XC.text ?_
      refine XO.c (.assign rfl) rfl rfl ?_
      refine XO.nil (thenC.go ?_)
      refine XC.ret fun tf htf => ?_
      refine endF.one rfl rfl (htf 6 _ rfl) ?_
      exact ⟨congrArg (Value.int .i64) (by simp [rangeE, *]), hA.leftAf rfl⟩
theorem sWithin_ok {h : Heap} {S : List Nat} {n : Int} {lo : Int} {hi : Int} (hok : HOk h) (hS : ∀ b ∈ S, b < h.next) : EvF Tryz.prog OA 101 [.int .i64 n, .int .i64 lo, .int .i64 hi] h fun r h' => r = .int .i64 (rangeE n lo hi) ∧ h' = h := by
  refine XF.enter Tryz.func101 rfl rfl rfl ?_
  have hok : HOk (entry h) := hok
  have hA := After.refl (entry h)
  show XC Tryz.prog OA none _ _ [] [(0, .int .i64 n), (1, .int .i64 lo), (2, .int .i64 hi)] (entry h) _
  refine XC.seq ?_
  refine XC.text ?_
  refine XO.c (.assign rfl) rfl rfl ?_
  refine XO.nil (thenC.go ?_)
  refine XC.seq ?_
  refine XC.text ?_
  refine XO.c (.move rfl) rfl rfl ?_
  refine XO.c (.move rfl) rfl rfl ?_
  refine XO.c (.lss rfl rfl) rfl rfl ?_
  refine XO.c (.move rfl) rfl rfl ?_
  refine XO.splitD (x := 10) rfl (fun g1_3 => ?_) (fun g1_3 => ?_)
  · refine XO.skip rfl rfl rfl rfl rfl ?_
    refine XO.skip rfl rfl rfl rfl rfl ?_
    refine XO.skip rfl rfl rfl rfl rfl ?_
    refine XO.c (.pickT rfl rfl) rfl rfl ?_
    refine XO.call rfl rfl rfl rfl ?_
    refine EvF.mono (sWhen_ok (hA.ok hok) (hA.inS hS)  ) ?_
    rintro _ _ ⟨rfl, hh⟩
    obtain rfl := hh.symm
    clear hh
    refine XO.c (.assign rfl) rfl rfl ?_
    refine XO.nil (thenC.go ?_)
    refine XC.ret fun tf htf => ?_
    refine endF.one rfl rfl (htf 6 _ rfl) ?_
    exact ⟨congrArg (Value.int .i64) (by simp [rangeE, whenE, *]), hA.leftAf rfl⟩
  · refine XO.gc rfl rfl rfl (.move rfl) rfl rfl ?_
    refine XO.gc rfl rfl rfl (.move rfl) rfl rfl ?_
    refine XO.gc rfl rfl rfl (.gtr rfl rfl) rfl rfl ?_
    refine XO.c (.pickF rfl rfl) rfl rfl ?_
    refine XO.call rfl rfl rfl rfl ?_
    refine EvF.mono (sWhen_ok (hA.ok hok) (hA.inS hS)  ) ?_
    rintro _ _ ⟨rfl, hh⟩
    obtain rfl := hh.symm
    clear hh
    refine XO.c (.assign rfl) rfl rfl ?_
    refine XO.nil (thenC.go ?_)
    refine XC.ret fun tf htf => ?_
    refine endF.one rfl rfl (htf 6 _ rfl) ?_
    exact ⟨congrArg (Value.int .i64) (by simp [rangeE, whenE, *]), hA.leftAf rfl⟩
def firstE : List Int → Int
  | [] => 0
  | x :: r => if x = 0 then firstE r else x
theorem firstE_drop {xs : List Int} {j : Nat} (hj : j < xs.length) : firstE (xs.drop j) = if xs[j] = 0 then firstE (xs.drop (j + 1)) else xs[j] := by
  rw [List.drop_eq_getElem_cons hj]; rfl
theorem firstE_end {xs : List Int} {j : Nat} (hj : xs.length ≤ j) : firstE (xs.drop j) = 0 := by rw [List.drop_eq_nil_of_le hj]; rfl
theorem sFirst_ok {h : Heap} {S : List Nat} {v0 : Value} {l : List Int} (hok : HOk h) (hS : ∀ b ∈ S, b < h.next) (ha0 : SlV h S (.int .i64) v0 l) (hl : l.length < 1000000) : EvF Tryz.prog OA 92 [v0] h fun r h' => r = .int .i64 (firstE l) ∧ h' = h := by
  refine XF.enter Tryz.func92 rfl rfl rfl ?_
  have hok : HOk (entry h) := hok
  have hA := After.refl (entry h)
  replace ha0 := ha0.entry
  show XC Tryz.prog OA none _ _ [] [(0, v0)] (entry h) _
  refine XC.seq ?_
  refine XC.text ?_
  refine XO.c (.assign rfl) rfl rfl ?_
  refine XO.nil (thenC.go ?_)
  refine XC.seq ?_
  refine XC.seq ?_
  refine XC.text ?_
  refine XO.c (.move rfl) rfl rfl ?_
  refine XO.a (.len rfl (ha0.len el179)) rfl rfl ?_
  refine XO.c (.move rfl) rfl rfl ?_
  refine XO.nil (thenC.go ?_)
  refine XC.block ?_
  have hAL103 := hA
  have hkL103 := hA.ok hok
  have hSL103 := (hA.inS hS)
  refine XC.keep [(5, v0), (6, .int .i64 ((l.length : Nat) : Int)), (7, .int .i64 ((0 : Nat) : Int))] ⟨rfl, rfl, rfl, trivial⟩ ?_
  refine XC.loopI (I := fun (kk : Nat) (ff : FL) (hh : Heap) => ∃ (j : Nat), kk = l.length - j ∧ ff = [(5, v0), (6, .int .i64 ((l.length : Nat) : Int)), (7, .int .i64 ((j : Nat) : Int))] ∧ After (entry h) hh ∧ After (entry h) hh ∧ Goes (entry h) S hh S ∧ (j ≤ l.length) ∧ (firstE l = firstE (l.drop j))) ?_ _ _ _ ⟨0, rfl, rfl, hA, After.refl _, Goes.refl, (by omega), (by rfl)⟩
  clear hA
  rintro kk ff hh103 ⟨j, hk103, rfl, hA, aL103, nL103, hj, hf⟩
  replace ha0 := ha0.nx nL103
  refine XC.seq ?_
  refine XC.text ?_
  refine XO.c (.lss rfl rfl) rfl rfl ?_
  refine XO.nil (thenC.go ?_)
  refine XC.seq ?_
  refine XC.condD rfl (fun c2 => ?_) (fun c2 => ?_)
  · refine XC.skip (thenC.go ?_)
    refine XC.seq ?_
    refine XC.block ?_
    refine XC.seq ?_
    refine XC.text ?_
    refine XO.c (.indexAddr rfl rfl rfl (ha0.ix (j := j) el179 (by omega))) rfl rfl ?_
    refine XO.r (.load rfl (((ha0.at (j := j) (by omega))).ldInt vt26)) rfl rfl ?_
    refine XO.c (.assign rfl) rfl rfl ?_
    refine XO.nil (thenC.go ?_)
    refine XC.seq ?_
    refine XC.text ?_
    refine XO.c (.move rfl) rfl rfl ?_
    refine XO.c (.neq rfl rfl) rfl rfl ?_
    refine XO.nil (thenC.go ?_)
    refine XC.condD rfl (fun c4 => ?_) (fun c4 => ?_)
    · refine XC.seq ?_
      refine XC.text ?_
      refine XO.c (.move rfl) rfl rfl ?_
      refine XO.c (.assign rfl) rfl rfl ?_
      refine XO.nil (thenC.go ?_)
      refine XC.ret fun tf htf => ?_
      refine inBlock_ret ?_
      refine thenC_ret ?_
      refine loopQ_ret ?_
      refine inBlock_ret ?_
      refine thenC_ret ?_
      refine endF.one rfl rfl (htf 2 _ rfl) ?_
      exact ⟨congrArg (Value.int .i64) (by rw [hf, firstE_drop (by omega), if_neg c4]), hA.leftAf rfl⟩
    · refine XC.skip ?_
      intro tf htf
      refine inBlock_nrm ?_
      refine thenC.go ?_ tf htf
      refine XC.text ?_
      refine XO.c (.add rfl rfl (by omega)) rfl rfl ?_
      refine XO.c (.move rfl) rfl rfl ?_
      refine XO.nil ?_
      intro tf htf
      refine ⟨rfl, rfl, _, [(5, v0), (6, .int .i64 ((l.length : Nat) : Int)), (7, .int .i64 (((j + 1) : Nat) : Int))], ?_, htf.keep _ ⟨rfl, rfl, rfl, trivial⟩, (j + 1), rfl, rfl, hA, aL103, nL103, (by omega), (by rw [hf, firstE_drop (by omega), if_pos (by simpa using c4)])⟩
      omega
  · refine XC.exit ?_
    intro tf htf
    refine thenC_exit ?_
    refine loopQ_exit ?_
    refine inBlock_eq ?_
    refine thenC.go ?_ tf htf
    refine XC.seq ?_
    refine XC.text ?_
    refine XO.c (.assign rfl) rfl rfl ?_
    refine XO.nil (thenC.go ?_)
    refine XC.ret fun tf htf => ?_
    refine endF.one rfl rfl (htf 2 _ rfl) ?_
    exact ⟨congrArg (Value.int .i64) (by rw [hf, firstE_end (by omega)]), hA.leftAf rfl⟩
theorem rFirst_ok {h : Heap} {S : List Nat} {v0 : Value} {l : List Int} (hok : HOk h) (hS : ∀ b ∈ S, b < h.next) (ha0 : SlV h S (.int .i64) v0 l) (hl : l.length < 1000000) : EvF Tryz.prog OA 96 [v0] h fun r h' => r = .int .i64 (firstE l) ∧ h' = h := by
  refine XF.enter Tryz.func96 rfl rfl rfl ?_
  have hok : HOk (entry h) := hok
  have hA := After.refl (entry h)
  replace ha0 := ha0.entry
  show XC Tryz.prog OA none _ _ [] [(0, v0)] (entry h) _
  refine XC.seq ?_
  refine XC.text ?_
  refine XO.c (.assign rfl) rfl rfl ?_
  refine XO.nil (thenC.go ?_)
  refine XC.seq ?_
  refine XC.seq ?_
  refine XC.text ?_
  refine XO.c (.assign rfl) rfl rfl ?_
  refine XO.nil (thenC.go ?_)
  refine XC.block ?_
  have hAL104 := hA
  have hkL104 := hA.ok hok
  have hSL104 := (hA.inS hS)
  refine XC.keep [(0, v0), (3, .int .i64 ((0 : Nat) : Int))] ⟨rfl, rfl, trivial⟩ ?_
  refine XC.loopI (I := fun (kk : Nat) (ff : FL) (hh : Heap) => ∃ (j : Nat), kk = l.length - j ∧ ff = [(0, v0), (3, .int .i64 ((j : Nat) : Int))] ∧ After (entry h) hh ∧ After (entry h) hh ∧ Goes (entry h) S hh S ∧ (j ≤ l.length) ∧ (firstE l = firstE (l.drop j))) ?_ _ _ _ ⟨0, rfl, rfl, hA, After.refl _, Goes.refl, (by omega), (by rfl)⟩
  clear hA
  rintro kk ff hh104 ⟨j, hk104, rfl, hA, aL104, nL104, hj, hf⟩
  replace ha0 := ha0.nx nL104
  refine XC.seq ?_
  refine XC.seq ?_
  refine XC.text ?_
  refine XO.c (.move rfl) rfl rfl ?_
  refine XO.c (.move rfl) rfl rfl ?_
  refine XO.a (.len rfl (ha0.len el22)) rfl rfl ?_
  refine XO.c (.lss rfl rfl) rfl rfl ?_
  refine XO.nil (thenC.go ?_)
  refine XC.condD rfl (fun c2 => ?_) (fun c2 => ?_)
  · refine XC.skip (thenC.go ?_)
    refine XC.seq ?_
    refine XC.block ?_
    refine XC.seq ?_
    refine XC.text ?_
    refine XO.c (.move rfl) rfl rfl ?_
    refine XO.c (.move rfl) rfl rfl ?_
    refine XO.c (.indexAddr rfl rfl rfl (ha0.ix (j := j) el22 (by omega))) rfl rfl ?_
    refine XO.r (.load rfl (((ha0.at (j := j) (by omega))).ldInt vt3)) rfl rfl ?_
    refine XO.c (.neq rfl rfl) rfl rfl ?_
    refine XO.nil (thenC.go ?_)
    refine XC.condD rfl (fun c4 => ?_) (fun c4 => ?_)
    · refine XC.seq ?_
      refine XC.text ?_
      refine XO.c (.move rfl) rfl rfl ?_
      refine XO.c (.move rfl) rfl rfl ?_
      refine XO.c (.indexAddr rfl rfl rfl (ha0.ix (j := j) el22 (by omega))) rfl rfl ?_
      refine XO.r (.load rfl (((ha0.at (j := j) (by omega))).ldInt vt3)) rfl rfl ?_
      refine XO.c (.assign rfl) rfl rfl ?_
      refine XO.nil (thenC.go ?_)
      refine XC.ret fun tf htf => ?_
      refine inBlock_ret ?_
      refine thenC_ret ?_
      refine loopQ_ret ?_
      refine inBlock_ret ?_
      refine thenC_ret ?_
      refine endF.one rfl rfl (htf 2 _ rfl) ?_
      exact ⟨congrArg (Value.int .i64) (by rw [hf, firstE_drop (by omega), if_neg c4]), hA.leftAf rfl⟩
    · refine XC.skip ?_
      intro tf htf
      refine inBlock_nrm ?_
      refine thenC.go ?_ tf htf
      refine XC.text ?_
      refine XO.c (.move rfl) rfl rfl ?_
      refine XO.c (.add rfl rfl (by omega)) rfl rfl ?_
      refine XO.c (.assign rfl) rfl rfl ?_
      refine XO.nil ?_
      intro tf htf
      refine ⟨rfl, rfl, _, [(0, v0), (3, .int .i64 (((j + 1) : Nat) : Int))], ?_, htf.keep _ ⟨rfl, rfl, trivial⟩, (j + 1), rfl, rfl, hA, aL104, nL104, (by omega), (by rw [hf, firstE_drop (by omega), if_pos (by simpa using c4)])⟩
      omega
  · refine XC.exit ?_
    intro tf htf
    refine thenC_exit ?_
    refine loopQ_exit ?_
    refine inBlock_eq ?_
    refine thenC.go ?_ tf htf
    refine XC.seq ?_
    refine XC.text ?_
    refine XO.c (.assign rfl) rfl rfl ?_
    refine XO.nil (thenC.go ?_)
    refine XC.ret fun tf htf => ?_
    refine endF.one rfl rfl (htf 2 _ rfl) ?_
    exact ⟨congrArg (Value.int .i64) (by rw [hf, firstE_end (by omega)]), hA.leftAf rfl⟩
theorem lFirst_ok {h : Heap} {S : List Nat} {v0 : Value} {l : List Int} (hok : HOk h) (hS : ∀ b ∈ S, b < h.next) (ha0 : SlV h S (.int .i64) v0 l) (hl : l.length < 1000000) : EvF Tryz.prog OA 21 [v0] h fun r h' => r = .int .i64 (firstE l) ∧ h' = h := by
  refine XF.enter Tryz.func21 rfl rfl rfl ?_
  have hok : HOk (entry h) := hok
  have hA := After.refl (entry h)
  replace ha0 := ha0.entry
  show XC Tryz.prog OA none _ _ [] [(0, v0)] (entry h) _
  refine XC.seq ?_
  refine XC.text ?_
  refine XO.c (.assign rfl) rfl rfl ?_
  refine XO.nil (thenC.go ?_)
  refine XC.seq ?_
  refine XC.text ?_
  refine XO.c (.move rfl) rfl rfl ?_
  refine XO.call rfl rfl rfl rfl ?_
  refine EvF.mono (rFirst_ok (hA.ok hok) (hA.inS hS) ha0 (by first | assumption | omega)) ?_
  rintro _ _ ⟨rfl, hh⟩
  obtain rfl := hh.symm
  clear hh
  refine XO.c (.assign rfl) rfl rfl ?_
  refine XO.nil (thenC.go ?_)
  refine XC.ret fun tf htf => ?_
  refine endF.one rfl rfl (htf 2 _ rfl) ?_
  exact ⟨congrArg (Value.int .i64) (by first | rfl | simp), hA.leftAf rfl⟩
theorem lInts_ok {h : Heap} {S : List Nat} {v0 : Value} {l : List Int} (hok : HOk h) (hS : ∀ b ∈ S, b < h.next) (ha0 : SlV h S (.int .i64) v0 l) (hl : l.length < 1000000) : EvF Tryz.prog OA 19 [v0] h fun r h' => After h h' ∧ SlV h' S (.int .i64) r l := by
  refine XF.enter Tryz.func19 rfl rfl rfl ?_
  have hok : HOk (entry h) := hok
  have hA := After.refl (entry h)
  replace ha0 := ha0.entry
  show XC Tryz.prog OA none _ _ [] [(0, v0)] (entry h) _
  refine XC.seq ?_
  refine XC.text ?_
  refine XO.c (.assign rfl) rfl rfl ?_
  refine XO.nil (thenC.go ?_)
  refine XC.seq ?_
  refine XC.text ?_
  obtain ⟨e106, g106, a106, n106⟩ := build0 (P := Tryz.prog) (h := (entry h)) (h0 := entry h) (S0 := S) el22 hA hok
  refine XO.mk (.buildSlice rfl e106) rfl rfl ?_
  generalize hw106 : Value.slice (some ⟨(entry h).next, 0, none⟩) 0 0 = w106 at g106 n106 ⊢
  generalize hp106 : ((entry h).push (.row 3 [] true false)) = h106 at g106 a106 n106 ⊢
  have ok107 := hA.ok hok
  have gg107 : Goes (entry h) S h106 (ownB w106 ++ S) := n106
  replace hA := hA.trans a106
  replace ha0 := ha0.nx gg107
  refine XO.c (.move rfl) rfl rfl ?_
  obtain ⟨m108, out108, h108, e108, g108, a108, n108, l108⟩ := GrowR.allE (S0 := S) (h0 := (entry h)) el22 el22 g106 ha0 hA hok (hA.inS hS) (by simp; omega)
  refine XO.mk (.append rfl rfl e108) rfl rfl ?_
  have ok109 := hA.ok hok
  have gg109 : Goes h106 (ownB w106 ++ S) h108 (ownB out108 ++ S) := n108
  replace hA := a108
  replace ha0 := ha0.nx gg109
  refine XO.c (.assign rfl) rfl rfl ?_
  refine XO.nil (thenC.go ?_)
  refine XC.ret fun tf htf => ?_
  have s110 := g108.shut hS
  have gg110 : Goes h108 (ownB out108 ++ S) h108 S := nx_own
  replace ha0 := ha0.nx gg110
  refine endF.one rfl rfl (htf 2 _ rfl) ?_
  refine ⟨hA.left _, ?_⟩
  have hw := (s110).ret hA
  exact hw
end Go.Proofs
namespace Go.Proofs
open Go.Fs
set_option linter.unusedVariables false
theorem vt22 : ValT Tryz.prog 22 (.sl (.int .i64)) := valT_of (by kernel_rfl)
theorem sMapIE_ok {h : Heap} {S : List Nat} {v0 : Value} {l : List Int} {f_f : FuncId} {f_a f_b : Array Value} {F : Int → Int} (hok : HOk h) (hS : ∀ b ∈ S, b < h.next) (ha0 : SlV h S (.int .i64) v0 l) (hl : l.length < 100000) (hf : ∀ {h2 : Heap} {S2 : List Nat} {x : Int}, HOk h2 → (∀ b ∈ S2, b < h2.next) → After h h2 → x ∈ l → EvF Tryz.prog OA f_f (f_a.toList ++ [.int .i64 x] ++ f_b.toList) h2 fun r h' => r = .int .i64 (F x) ∧ h' = h2) : EvF Tryz.prog OA 99 [v0, .func (.func f_f) f_a f_b] h fun r h' => After h h' ∧ SlV h' S (.int .i64) r (l.map F) := by
  refine XF.enter Tryz.func99 rfl rfl rfl ?_
  have hok : HOk (entry h) := hok
  have hA := After.refl (entry h)
  replace ha0 := ha0.entry
  show XC Tryz.prog OA none _ _ [] [(0, v0), (1, .func (.func f_f) f_a f_b)] (entry h) _
  refine XC.seq ?_
  refine XC.text ?_
  refine XO.c (.assign rfl) rfl rfl ?_
  refine XO.nil (thenC.go ?_)
  refine XC.seq ?_
  refine XC.text ?_
  refine XO.c (.assign rfl) rfl rfl ?_
  refine XO.nil (thenC.go ?_)
  refine XC.seq ?_
  refine XC.seq ?_
  refine XC.text ?_
  refine XO.c (.move rfl) rfl rfl ?_
  refine XO.a (.len rfl (ha0.len el22)) rfl rfl ?_
  refine XO.c (.move rfl) rfl rfl ?_
  refine XO.nil (thenC.go ?_)
  refine XC.block ?_
  have hAL101 := hA
  have hkL101 := hA.ok hok
  have hSL101 := (hA.inS hS)
  refine XC.keep [(1, .func (.func f_f) f_a f_b), (5, .slice none 0 0), (8, v0), (9, .int .i64 ((l.length : Nat) : Int)), (10, .int .i64 ((0 : Nat) : Int))] ⟨rfl, rfl, rfl, rfl, rfl, trivial⟩ ?_
  refine XC.loopI (I := fun (kk : Nat) (ff : FL) (hh : Heap) => ∃ (j : Nat) (out : Value), kk = l.length - j ∧ ff = [(1, .func (.func f_f) f_a f_b), (5, out), (8, v0), (9, .int .i64 ((l.length : Nat) : Int)), (10, .int .i64 ((j : Nat) : Int))] ∧ After (entry h) hh ∧ After (entry h) hh ∧ Goes (entry h) S hh (ownB out ++ S) ∧ GrowR hh (ownB out ++ S) (entry h).next 26 true (.int .i64) out ((l.take j).map F) ∧ (j ≤ l.length)) ?_ _ _ _ ⟨0, .slice none 0 0, rfl, rfl, hA, After.refl _, Goes.refl, (GrowR.nil), (by omega)⟩
  clear hA
  rintro kk ff hh101 ⟨j, out, hk101, rfl, hA, aL101, nL101, g_out101, hj⟩
  replace ha0 := ha0.nx nL101
  refine XC.seq ?_
  refine XC.text ?_
  refine XO.c (.lss rfl rfl) rfl rfl ?_
  refine XO.nil (thenC.go ?_)
  refine XC.seq ?_
  refine XC.condD rfl (fun c3 => ?_) (fun c3 => ?_)
  · refine XC.skip (thenC.go ?_)
    refine XC.seq ?_
    refine XC.block ?_
    refine XC.seq ?_
    refine XC.text ?_
    refine XO.c (.indexAddr rfl rfl rfl (ha0.ix (j := j) el22 (by omega))) rfl rfl ?_
    refine XO.r (.load rfl (((ha0.at (j := j) (by omega))).ldInt vt3)) rfl rfl ?_
    refine XO.c (.assign rfl) rfl rfl ?_
    refine XO.nil (thenC.go ?_)
    refine XC.text ?_
    refine XO.c (.move rfl) rfl rfl ?_
    refine XO.c (.move rfl) rfl rfl ?_
    refine XO.c (.move rfl) rfl rfl ?_
    refine XO.call rfl rfl rfl rfl ?_
    refine EvF.mono (hf (hA.ok hok) (g_out101.inS (hA.ok hok) (hA.inS hS))  hA.ofEntry (List.getElem_mem _)) ?_
    rintro _ _ ⟨rfl, hh⟩
    obtain rfl := hh.symm
    clear hh
    refine XO.pushR (S0 := S) (h0 := (entry h)) el179 el179 rfl rfl g_out101 (RepV.ofInt .i64 _) aL101 hkL101 (hA.inS hS) (by simp; omega) (by decide) rfl rfl rfl ?_
    intro out103 h103 g103 a103 n103 l103
    have ok104 := hA.ok hok
    have gg104 : Goes hh101 (ownB out ++ S) h103 (ownB out103 ++ S) := n103
    replace hA := hAL101.trans a103
    replace aL101 := a103
    replace nL101 := nL101.trans gg104
    replace ha0 := ha0.nx gg104
    refine XO.c (.assign rfl) rfl rfl ?_
    refine XO.nil ?_
    intro tf htf
    refine inBlock_nrm ?_
    refine thenC.go ?_ tf htf
    refine XC.text ?_
    refine XO.c (.add rfl rfl (by omega)) rfl rfl ?_
    refine XO.c (.move rfl) rfl rfl ?_
    refine XO.nil ?_
    intro tf htf
    refine ⟨rfl, rfl, _, [(1, .func (.func f_f) f_a f_b), (5, out103), (8, v0), (9, .int .i64 ((l.length : Nat) : Int)), (10, .int .i64 (((j + 1) : Nat) : Int))], ?_, htf.keep _ ⟨rfl, rfl, rfl, rfl, rfl, trivial⟩, (j + 1), out103, rfl, rfl, hA, aL101, nL101, (by rw [List.take_succ_eq_append_getElem (by omega), List.map_append]; exact g103), (by omega)⟩
    omega
  · refine XC.exit ?_
    intro tf htf
    refine thenC_exit ?_
    refine loopQ_exit ?_
    refine inBlock_eq ?_
    refine thenC.go ?_ tf htf
    refine XC.seq ?_
    refine XC.text ?_
    refine XO.c (.move rfl) rfl rfl ?_
    refine XO.c (.assign rfl) rfl rfl ?_
    refine XO.nil (thenC.go ?_)
    refine XC.ret fun tf htf => ?_
    have s105 := g_out101.shut hSL101
    have gg105 : Goes hh101 (ownB out ++ S) hh101 S := nx_own
    replace ha0 := ha0.nx gg105
    refine endF.one rfl rfl (htf 4 _ rfl) ?_
    refine ⟨hA.left _, ?_⟩
    have hw := (s105).ret hA
    rw [List.take_of_length_le (by omega)] at hw; exact hw
theorem sHeight_ok {h : Heap} {S : List Nat} {n : Int} (hok : HOk h) (hS : ∀ b ∈ S, b < h.next) : EvF Tryz.prog OA 109 [.int .i64 n] h fun r h' => r = .int .i64 (rangeE n (-1048576) 1048576) ∧ h' = h := by
  refine XF.enter Tryz.func109 rfl rfl rfl ?_
  have hok : HOk (entry h) := hok
  have hA := After.refl (entry h)
  show XC Tryz.prog OA none _ _ [] [(0, .int .i64 n)] (entry h) _
  refine XC.seq ?_
  refine XC.text ?_
  refine XO.c (.assign rfl) rfl rfl ?_
  refine XO.nil (thenC.go ?_)
  refine XC.seq ?_
  refine XC.text ?_
  refine XO.c (.move rfl) rfl rfl ?_
  refine XO.call rfl rfl rfl rfl ?_
  refine EvF.mono (sWithin_ok (hA.ok hok) (hA.inS hS)  ) ?_
  rintro _ _ ⟨rfl, hh⟩
  obtain rfl := hh.symm
  clear hh
  refine XO.c (.assign rfl) rfl rfl ?_
  refine XO.nil (thenC.go ?_)
  refine XC.ret fun tf htf => ?_
  refine endF.one rfl rfl (htf 2 _ rfl) ?_
  exact ⟨congrArg (Value.int .i64) (by first | rfl | simp), hA.leftAf rfl⟩
def heightsE (l : List Int) : Int := firstE (l.map fun x => rangeE x (-1048576) 1048576)
theorem sHeights_ok {h : Heap} {S : List Nat} {v0 : Value} {l : List Int} (hok : HOk h) (hS : ∀ b ∈ S, b < h.next) (ha0 : SlV h S (.int .i64) v0 l) (hl : l.length < 100000) : EvF Tryz.prog OA 94 [v0] h fun r h' => r = .int .i64 (heightsE l) ∧ h' = h := by
  refine XF.enter Tryz.func94 rfl rfl rfl ?_
  have hok : HOk (entry h) := hok
  have hA := After.refl (entry h)
  replace ha0 := ha0.entry
  show XC Tryz.prog OA none _ _ [] [(0, v0)] (entry h) _
  refine XC.seq ?_
  refine XC.text ?_
  refine XO.c (.assign rfl) rfl rfl ?_
  refine XO.nil (thenC.go ?_)
  refine XC.seq ?_
  refine XC.text ?_
  refine XO.c (.move rfl) rfl rfl ?_
  refine XO.call rfl rfl rfl rfl ?_
  refine EvF.mono (sMapIE_ok (hA.ok hok) (hA.inS hS) ha0 (F := fun x => rangeE x (-1048576) 1048576) hl (fun a b _ _ => sHeight_ok a b)) ?_
  rintro u108 h108 ⟨a108, s108⟩
  have ok109 := hA.ok hok
  have gg109 : Goes (entry h) S h108 S := a108.nx ok109
  replace hA := hA.trans a108
  replace ha0 := ha0.nx gg109
  refine XO.call rfl rfl rfl rfl ?_
  refine EvF.mono (sFirst_ok (hA.ok hok) (hA.inS hS) s108 (by simpa using (by omega : l.length < 1000000))) ?_
  rintro _ _ ⟨rfl, hh⟩
  obtain rfl := hh.symm
  clear hh
  refine XO.c (.assign rfl) rfl rfl ?_
  refine XO.nil (thenC.go ?_)
  refine XC.ret fun tf htf => ?_
  refine endF.one rfl rfl (htf 2 _ rfl) ?_
  exact ⟨congrArg (Value.int .i64) (by first | rfl | simp), hA.leftAf rfl⟩
theorem heightsE_drop {l : List Int} {j : Nat} (hj : j < l.length) : heightsE (l.drop j) = if rangeE l[j] (-1048576) 1048576 = 0 then heightsE (l.drop (j + 1)) else rangeE l[j] (-1048576) 1048576 := by
  rw [heightsE, List.drop_eq_getElem_cons hj]; rfl
theorem heightsE_end {l : List Int} {j : Nat} (hj : l.length ≤ j) : heightsE (l.drop j) = 0 := by rw [List.drop_eq_nil_of_le hj]; rfl
theorem rHeights_ok {h : Heap} {S : List Nat} {v0 : Value} {l : List Int} (hok : HOk h) (hS : ∀ b ∈ S, b < h.next) (ha0 : SlV h S (.int .i64) v0 l) (hl : l.length < 1000000) : EvF Tryz.prog OA 97 [v0] h fun r h' => r = .int .i64 (heightsE l) ∧ h' = h := by
  refine XF.enter Tryz.func97 rfl rfl rfl ?_
  have hok : HOk (entry h) := hok
  have hA := After.refl (entry h)
  replace ha0 := ha0.entry
  show XC Tryz.prog OA none _ _ [] [(0, v0)] (entry h) _
  refine XC.seq ?_
  refine XC.text ?_
  refine XO.c (.assign rfl) rfl rfl ?_
  refine XO.nil (thenC.go ?_)
  refine XC.seq ?_
  refine XC.seq ?_
  refine XC.text ?_
  refine XO.c (.assign rfl) rfl rfl ?_
  refine XO.nil (thenC.go ?_)
  refine XC.block ?_
  have hAL111 := hA
  have hkL111 := hA.ok hok
  have hSL111 := (hA.inS hS)
  refine XC.keep [(0, v0), (3, .int .i64 ((0 : Nat) : Int))] ⟨rfl, rfl, trivial⟩ ?_
  refine XC.loopI (I := fun (kk : Nat) (ff : FL) (hh : Heap) => ∃ (j : Nat), kk = l.length - j ∧ ff = [(0, v0), (3, .int .i64 ((j : Nat) : Int))] ∧ After (entry h) hh ∧ After (entry h) hh ∧ Goes (entry h) S hh S ∧ (j ≤ l.length) ∧ (heightsE l = heightsE (l.drop j))) ?_ _ _ _ ⟨0, rfl, rfl, hA, After.refl _, Goes.refl, (by omega), (by rfl)⟩
  clear hA
  rintro kk ff hh111 ⟨j, hk111, rfl, hA, aL111, nL111, hj, hf⟩
  replace ha0 := ha0.nx nL111
  refine XC.seq ?_
  refine XC.seq ?_
  refine XC.text ?_
  refine XO.c (.move rfl) rfl rfl ?_
  refine XO.c (.move rfl) rfl rfl ?_
  refine XO.a (.len rfl (ha0.len el22)) rfl rfl ?_
  refine XO.c (.lss rfl rfl) rfl rfl ?_
  refine XO.nil (thenC.go ?_)
  refine XC.condD rfl (fun c2 => ?_) (fun c2 => ?_)
  · refine XC.skip (thenC.go ?_)
    refine XC.seq ?_
    refine XC.block ?_
    refine XC.seq ?_
    refine XC.text ?_
    refine XO.c (.move rfl) rfl rfl ?_
    refine XO.c (.move rfl) rfl rfl ?_
    refine XO.c (.indexAddr rfl rfl rfl (ha0.ix (j := j) el22 (by omega))) rfl rfl ?_
    refine XO.r (.load rfl (((ha0.at (j := j) (by omega))).ldInt vt3)) rfl rfl ?_
    refine XO.call rfl rfl rfl rfl ?_
    refine EvF.mono (rCheckRange_ok (hA.ok hok) (hA.inS hS)  ) ?_
    rintro _ _ ⟨rfl, hh⟩
    obtain rfl := hh.symm
    clear hh
    refine XO.c (.assign rfl) rfl rfl ?_
    refine XO.nil (thenC.go ?_)
    refine XC.seq ?_
    refine XC.text ?_
    refine XO.c (.move rfl) rfl rfl ?_
    refine XO.c (.neq rfl rfl) rfl rfl ?_
    refine XO.nil (thenC.go ?_)
    refine XC.condD rfl (fun c5 => ?_) (fun c5 => ?_)
    · refine XC.seq ?_
      refine XC.text ?_
      refine XO.c (.move rfl) rfl rfl ?_
      refine XO.c (.assign rfl) rfl rfl ?_
      refine XO.nil (thenC.go ?_)
      refine XC.ret fun tf htf => ?_
      refine inBlock_ret ?_
      refine thenC_ret ?_
      refine loopQ_ret ?_
      refine inBlock_ret ?_
      refine thenC_ret ?_
      refine endF.one rfl rfl (htf 2 _ rfl) ?_
      exact ⟨congrArg (Value.int .i64) (by rw [hf, heightsE_drop (by omega), if_neg c5]), hA.leftAf rfl⟩
    · refine XC.skip ?_
      intro tf htf
      refine inBlock_nrm ?_
      refine thenC.go ?_ tf htf
      refine XC.text ?_
      refine XO.c (.move rfl) rfl rfl ?_
      refine XO.c (.add rfl rfl (by omega)) rfl rfl ?_
      refine XO.c (.assign rfl) rfl rfl ?_
      refine XO.nil ?_
      intro tf htf
      refine ⟨rfl, rfl, _, [(0, v0), (3, .int .i64 (((j + 1) : Nat) : Int))], ?_, htf.keep _ ⟨rfl, rfl, trivial⟩, (j + 1), rfl, rfl, hA, aL111, nL111, (by omega), (by rw [hf, heightsE_drop (by omega), if_pos (by simpa using c5)])⟩
      omega
  · refine XC.exit ?_
    intro tf htf
    refine thenC_exit ?_
    refine loopQ_exit ?_
    refine inBlock_eq ?_
    refine thenC.go ?_ tf htf
    refine XC.seq ?_
    refine XC.text ?_
    refine XO.c (.assign rfl) rfl rfl ?_
    refine XO.nil (thenC.go ?_)
    refine XC.ret fun tf htf => ?_
    refine endF.one rfl rfl (htf 2 _ rfl) ?_
    exact ⟨congrArg (Value.int .i64) (by rw [hf, heightsE_end (by omega)]), hA.leftAf rfl⟩
def numbersE (l : List Int) : Int := if (96 : Int) < l.length then 5 else heightsE l
theorem whenE_t {p : Prop} {inst : Decidable p} {e : Int} (h : p) : whenE (@decide p inst) e = e := by rw [decide_eq_true h]; rfl
theorem whenE_f {p : Prop} {inst : Decidable p} {e : Int} (h : ¬ p) : whenE (@decide p inst) e = 0 := by rw [decide_eq_false h]; rfl
def tapsE (l : List Int) : Int := firstE (l.map fun x => rangeE x (-64) 64)
def transferE (t : List Int × Int × Int) : Int := firstE [whenE (decide ((t.1.length : Int) = 0)) 12, whenE (decide ((8 : Int) < t.1.length)) 5, tapsE t.1, rangeE t.2.1 0 8, rangeE t.2.2 (-1024) 1024]
/-! ## Transfers, applied -/
def tapSum (a l : List Int) (i : Nat) : Nat → Int
  | 0 => 0
  | k + 1 => tapSum a l i k + a.getD k 0 * l.getD (max 0 ((i : Int) - k)).toNat 0
def applyE (t : List Int × Int × Int) (l : List Int) : List Int := (List.range l.length).map fun i => (tapSum t.1 l i t.1.length).fdiv (2 ^ t.2.1.toNat) + t.2.2
structure OkT (t : List Int × Int × Int) : Prop where
  taps : ∀ x ∈ t.1, -64 ≤ x ∧ x ≤ 64
  len : t.1.length ≤ 8
  shift : 0 ≤ t.2.1 ∧ t.2.1 ≤ 8
  off : -1024 ≤ t.2.2 ∧ t.2.2 ≤ 1024
structure OkL (l : List Int) : Prop where
  all : ∀ x ∈ l, -1048576 ≤ x ∧ x ≤ 1048576
  len : l.length ≤ 96
theorem getD_eq {l : List Int} {i : Nat} (h : i < l.length) : l[i] = l.getD i 0 := by simp [List.getD, h]
end Go.Proofs
namespace Go.Proofs
open Go.Fs
set_option linter.unusedVariables false
theorem firstE_zero {l : List Int} : firstE l = 0 ↔ ∀ x ∈ l, x = 0 := by
  induction l with
  | nil => simp [firstE]
  | cons x l ih => by_cases h : x = 0 <;> simp [firstE, h, ih]
theorem rangeE_zero {n lo hi : Int} : rangeE n lo hi = 0 ↔ lo ≤ n ∧ n ≤ hi := by
  unfold rangeE; split <;> simp <;> omega
theorem heightsE_ok {l : List Int} (h : heightsE l = 0) : ∀ x ∈ l, -1048576 ≤ x ∧ x ≤ 1048576 := fun x hx => by
  rw [heightsE, firstE_zero] at h
  exact rangeE_zero.1 (h _ (List.mem_map_of_mem hx))
def applyB (t : List Int × Int × Int) (l : List Int) : Int := firstE [transferE t, numbersE l]
theorem firstE_app (a b : List Int) : firstE (a ++ b) = if firstE a = 0 then firstE b else firstE a := by
  induction a with
  | nil => simp [firstE]
  | cons x a ih => by_cases h : x = 0 <;> simp [firstE, h, ih]
def listE (have_ : List Int) (e bad : Int) (want : List Int) : Bool := decide (e = bad ∧ have_ = if bad = 0 then want else [])
theorem awake_ok {h : Heap} : EvF Tryz.prog OA 16 [] h fun r h' => r = .bool true ∧ h' = h := EvF.oracle rfl ⟨rfl, rfl⟩
end Go.Proofs
namespace Go.Proofs
open Go.Fs
set_option linter.unusedVariables false
theorem vt89 : ValT Tryz.prog 89 (.pair (.int .i64) (.sl (.int .i64))) := valT_of (by kernel_rfl)
theorem el54 : ElT Tryz.prog 54 72 (.pair (.int .i64) (.sl (.int .i64))) := elT_of (by kernel_rfl)
theorem el64 : ElT Tryz.prog 64 89 (.pair (.int .i64) (.sl (.int .i64))) := elT_of (by kernel_rfl)
theorem firstE_map_drop {α : Type} {f : α → Int} {l : List α} {j : Nat} (hj : j < l.length) : firstE ((l.drop j).map f) = if f l[j] = 0 then firstE ((l.drop (j + 1)).map f) else f l[j] := by
  rw [List.drop_eq_getElem_cons hj]; rfl
theorem firstE_map_end {α : Type} {f : α → Int} {l : List α} {j : Nat} (hj : l.length ≤ j) : firstE ((l.drop j).map f) = 0 := by rw [List.drop_eq_nil_of_le hj]; rfl
theorem all_take {α : Type} {p : α → Prop} {l : List α} {j : Nat} (hj : j < l.length) (h : ∀ x ∈ l.take j, p x) (hx : p l[j]) : ∀ x ∈ l.take (j + 1), p x := by
  intro x hm
  rw [List.take_succ_eq_append_getElem hj] at hm
  rcases List.mem_append.1 hm with hm | hm
  · exact h x hm
  · rw [List.mem_singleton.1 hm]; exact hx
/-! ## Least and greatest numbers -/
def minE (l : List Int) : Int := l.foldl min (l.headD 0)
def maxE (l : List Int) : Int := l.foldl max (l.headD 0)
def hullE (l : List Int) : Int × Int := (minE l, maxE l)
/-! ## Intervals, ensembles -/
def boundsE (b : Int × Int) : Int := firstE [rangeE b.1 (-1048576) 1048576, rangeE b.2 (-1048576) 1048576, whenE (decide (b.2 < b.1)) 11]
def len0 (l : List (Int × List Int)) : Nat := (l.map fun c => c.2.length).headD 0
theorem len0_eq {l : List (Int × List Int)} (h : 0 < l.length) : l[0].2.length = len0 l := by
  cases l with
  | nil => simp at h
  | cons x l => rfl
def courseE (n : Nat) (c : Int × List Int) : Int := firstE [rangeE c.1 1 1000, whenE (decide ((c.2.length : Int) = 0)) 12, whenE (decide ((96 : Int) < c.2.length)) 5, whenE (decide ((c.2.length : Int) ≠ n)) 2, heightsE c.2]
def ensembleE (l : List (Int × List Int)) : Int := if (l.length : Int) = 0 then 12 else if (16 : Int) < l.length then 5 else firstE (l.map (courseE (len0 l)))
theorem ens_pre {n : Int} : firstE [whenE (decide (n = 0)) 12, whenE (decide ((16 : Int) < n)) 5] = if n = 0 then 12 else if 16 < n then 5 else 0 := by
  by_cases h1 : n = 0
  · rw [whenE_t h1, if_pos h1]; simp [firstE]
  · rw [whenE_f h1, if_neg h1]
    by_cases h2 : 16 < n
    · rw [whenE_t h2, if_pos h2]; simp [firstE]
    · rw [whenE_f h2, if_neg h2]; simp [firstE]
theorem sEnsemble_ok {h : Heap} {S : List Nat} {v0 : Value} {l : List (Int × (List Int))} (hok : HOk h) (hS : ∀ b ∈ S, b < h.next) (ha0 : SlV h S (.pair (.int .i64) (.sl (.int .i64))) v0 l) (hl : ∀ c ∈ l, c.2.length < 100000) : EvF Tryz.prog OA 46 [v0] h fun r h' => r = .int .i64 (ensembleE l) ∧ h' = h := by
  refine XF.enter Tryz.func46 rfl rfl rfl ?_
  have hok : HOk (entry h) := hok
  have hA := After.refl (entry h)
  replace ha0 := ha0.entry
  show XC Tryz.prog OA none _ _ [] [(0, v0)] (entry h) _
  refine XC.seq ?_
  refine XC.text ?_
  refine XO.c (.assign rfl) rfl rfl ?_
  refine XO.nil (thenC.go ?_)
  refine XC.seq ?_
  refine XC.seq ?_
  refine XC.text ?_
  refine XO.c (.move rfl) rfl rfl ?_
  refine XO.a (.len rfl (ha0.len el64)) rfl rfl ?_
  refine XO.c (.eql rfl rfl) rfl rfl ?_
  refine XO.call rfl rfl rfl rfl ?_
  refine EvF.mono (sWhen_ok (hA.ok hok) (hA.inS hS)  ) ?_
  rintro _ _ ⟨rfl, hh⟩
  obtain rfl := hh.symm
  clear hh
  refine XO.c (.move rfl) rfl rfl ?_
  refine XO.a (.len rfl (ha0.len el64)) rfl rfl ?_
  refine XO.c (.gtr rfl rfl) rfl rfl ?_
  refine XO.call rfl rfl rfl rfl ?_
  refine EvF.mono (sWhen_ok (hA.ok hok) (hA.inS hS)  ) ?_
  rintro _ _ ⟨rfl, hh⟩
  obtain rfl := hh.symm
  clear hh
  refine XO.lit (h := (entry h)) (S := S) (τ := (.int .i64)) (vsC (RepV.ofInt .i64 _) (vs1 (RepV.ofInt .i64 _))) el179 rfl rfl rfl (by simp) (by simp) (by decide) (hA.ok hok) (hA.inS hS) rfl rfl ?_
  intro w128 h128 s128 a128
  have ok129 := hA.ok hok
  have gg129 : Goes (entry h) S h128 S := a128.nx ok129
  replace hA := hA.trans a128
  replace ha0 := ha0.nx gg129
  refine XO.call rfl rfl rfl rfl ?_
  refine EvF.mono (sFirst_ok (hA.ok hok) (hA.inS hS) s128 (by simp)) ?_
  rintro _ _ ⟨rfl, hh⟩
  obtain rfl := hh.symm
  clear hh
  refine XO.c (.assign rfl) rfl rfl ?_
  refine XO.nil (thenC.go ?_)
  refine XC.seq ?_
  refine XC.text ?_
  refine XO.c (.move rfl) rfl rfl ?_
  refine XO.c (.neq rfl rfl) rfl rfl ?_
  refine XO.nil (thenC.go ?_)
  refine XC.condD rfl (fun c2 => ?_) (fun c2 => ?_)
  · refine XC.seq ?_
    refine XC.text ?_
    refine XO.c (.move rfl) rfl rfl ?_
    refine XO.c (.assign rfl) rfl rfl ?_
    refine XO.nil (thenC.go ?_)
    refine XC.ret fun tf htf => ?_
    refine thenC_ret ?_
    refine endF.one rfl rfl (htf 2 _ rfl) ?_
    exact ⟨congrArg (Value.int .i64) (by rw [ens_pre] at c2 ⊢; rw [ensembleE]; split <;> simp_all), hA.leftAf rfl⟩
  · rw [ens_pre] at c2
    have d1 : ¬ (l.length : Int) = 0 := fun h => by simp [h] at c2
    have d2 : ¬ (16 : Int) < l.length := fun h => by simp [h] at c2; omega
    have e0 := len0_eq (l := l) (by omega)
    refine XC.skip (thenC.go ?_)
    refine XC.seq ?_
    refine XC.seq ?_
    refine XC.text ?_
    refine XO.c (.move rfl) rfl rfl ?_
    refine XO.a (.len rfl (ha0.len el64)) rfl rfl ?_
    refine XO.c (.move rfl) rfl rfl ?_
    refine XO.nil (thenC.go ?_)
    refine XC.block ?_
    have hAL131 := hA
    have hkL131 := hA.ok hok
    have hSL131 := (hA.inS hS)
    refine XC.keep [(0, v0), (20, v0), (21, .int .i64 ((l.length : Nat) : Int)), (22, .int .i64 ((0 : Nat) : Int))] ⟨rfl, rfl, rfl, rfl, trivial⟩ ?_
    refine XC.loopI (I := fun (kk : Nat) (ff : FL) (hh : Heap) => ∃ (j : Nat), kk = l.length - j ∧ ff = [(0, v0), (20, v0), (21, .int .i64 ((l.length : Nat) : Int)), (22, .int .i64 ((j : Nat) : Int))] ∧ After (entry h) hh ∧ After h128 hh ∧ Goes h128 S hh S ∧ (j ≤ l.length) ∧ (firstE (l.map (courseE (len0 l))) = firstE ((l.drop j).map (courseE (len0 l))))) ?_ _ _ _ ⟨0, rfl, rfl, hA, After.refl _, Goes.refl, (by omega), (by rfl)⟩
    clear hA
    rintro kk ff hh131 ⟨j, hk131, rfl, hA, aL131, nL131, hj, hf⟩
    replace ha0 := ha0.nx nL131
    replace s128 := s128.nx nL131
    refine XC.seq ?_
    refine XC.text ?_
    refine XO.c (.lss rfl rfl) rfl rfl ?_
    refine XO.nil (thenC.go ?_)
    refine XC.seq ?_
    refine XC.condD rfl (fun c5 => ?_) (fun c5 => ?_)
    · refine XC.skip (thenC.go ?_)
      refine XC.seq ?_
      refine XC.block ?_
      refine XC.seq ?_
      refine XC.text ?_
      refine XO.c (.indexAddr rfl rfl rfl (ha0.ix (j := j) el64 (by omega))) rfl rfl ?_
      obtain ⟨u132, e132, r132⟩ := ((ha0.at (j := j) (by omega))).ldV vt89
      obtain ⟨c133_0, c133_1, rfl, r133_0, r133_1⟩ := r132.st2 rfl rfl
      obtain rfl := r133_0.int
      replace r133_1 := r133_1.sl
      refine XO.r (.load rfl (e132)) rfl rfl ?_
      refine XO.allocP (S := S) (z := .agg #[.int .i64 0, .slice none 0 0]) (by kernel_rfl) rfl rfl aL131 hkL131 (hA.inS hS) rfl rfl ?_
      intro p134 h134 b134 a134 gs134
      have ok135 := hA.ok hok
      have gg135 : Goes hh131 S h134 (ownP p134 ++ S) := gs134
      replace hA := hA.trans a134
      replace aL131 := aL131.trans a134
      replace nL131 := nL131.trans gg135
      replace ha0 := ha0.nx gg135
      replace s128 := s128.nx gg135
      replace r133_1 := r133_1.nx gg135
      refine XO.stP (S := S) (h0 := h128) (τ := (.pair (.int .i64) (.sl (.int .i64)))) rfl rfl b134 (RepV.mk2 (a := (.int .i64)) (b := (.sl (.int .i64))) (x := l[j]) (RepV.ofInt .i64 _) (r133_1).rep rfl rfl) vt89 aL131 ?_
      intro h136 b136 a136 gs136 nx136 fr136
      have ok137 := hA.ok hok
      have gg137 : Goes h134 (ownP p134 ++ S) h136 S := gs136
      replace hA := hAL131.trans a136
      replace aL131 := a136
      replace nL131 := nL131.trans gg137
      replace ha0 := ha0.nx gg137
      replace s128 := s128.nx gg137
      replace r133_1 := r133_1.nx gg137
      refine XO.nil (thenC.go ?_)
      refine XC.seq ?_
      refine XC.drawn ?_
      have hkr138 := hA.ok hok
      have hSr138 := (hA.inS hS)
      have hlj := hl _ (List.getElem_mem (show j < l.length by omega))
      refine XD.c (b := 0) (.fieldAddr rfl ((b136).fa (f := 0) (k := 0) (by kernel_rfl))) rfl rfl rfl ?_
      refine XD.ld (b := 1) (After.refl _) SegsOk.nil hkr138 rfl (((b136).base.fst').ldInt vt3) rfl rfl rfl rfl ?_
      refine XD.callV (bb := 3) (After.refl _) (SegsOk.cons ((After.refl _)).next SegsOk.nil) rfl rfl rfl rfl rfl rfl ?_
      intro M139 aM139 oM139
      refine EvF.mono (sWithin_ok (aM139.ok hkr138) (aM139.inS hSr138)  ) ?_
      rintro _ _ ⟨rfl, hh⟩
      refine ⟨hh, ?_⟩
      clear hh
      refine XD.c (b := 0) (.fieldAddr rfl ((b136).fa (f := 1) (k := 1) (by kernel_rfl))) rfl rfl rfl ?_
      obtain ⟨u140, e140, s140⟩ := (((b136).base.snd' (m := 1) rfl (b136).isP)).ldSl vt22
      refine XD.ld (b := 8) (After.refl _) (SegsOk.cons ((After.refl _)).next (SegsOk.cons ((After.refl _)).next SegsOk.nil)) hkr138 rfl (e140) rfl rfl rfl rfl ?_
      refine XD.a (b := 24) rfl (.len rfl (s140.len el22)) rfl rfl rfl rfl ?_
      refine XD.c (b := 56) (.eql rfl rfl) rfl rfl rfl ?_
      refine XD.callV (bb := 127) (After.refl _) (SegsOk.cons ((After.refl _)).next (SegsOk.cons ((After.refl _)).next (SegsOk.cons ((After.refl _)).next (SegsOk.cons ((After.refl _)).next SegsOk.nil)))) rfl rfl rfl rfl rfl rfl ?_
      intro M141 aM141 oM141
      refine EvF.mono (sWhen_ok (aM141.ok hkr138) (aM141.inS hSr138)  ) ?_
      rintro _ _ ⟨rfl, hh⟩
      refine ⟨hh, ?_⟩
      clear hh
      refine XD.c (b := 0) (.fieldAddr rfl ((b136).fa (f := 1) (k := 1) (by kernel_rfl))) rfl rfl rfl ?_
      obtain ⟨u142, e142, s142⟩ := (((b136).base.snd' (m := 1) rfl (b136).isP)).ldSl vt22
      refine XD.ld (b := 256) (After.refl _) (SegsOk.cons ((After.refl _)).next (SegsOk.cons ((After.refl _)).next (SegsOk.cons ((After.refl _)).next (SegsOk.cons ((After.refl _)).next (SegsOk.cons ((After.refl _)).next SegsOk.nil))))) hkr138 rfl (e142) rfl rfl rfl rfl ?_
      refine XD.a (b := 768) rfl (.len rfl (s142.len el22)) rfl rfl rfl rfl ?_
      refine XD.c (b := 1792) (.gtr rfl rfl) rfl rfl rfl ?_
      refine XD.callV (bb := 4095) (After.refl _) (SegsOk.cons ((After.refl _)).next (SegsOk.cons ((After.refl _)).next (SegsOk.cons ((After.refl _)).next (SegsOk.cons ((After.refl _)).next (SegsOk.cons ((After.refl _)).next (SegsOk.cons ((After.refl _)).next (SegsOk.cons ((After.refl _)).next SegsOk.nil))))))) rfl rfl rfl rfl rfl rfl ?_
      intro M143 aM143 oM143
      refine EvF.mono (sWhen_ok (aM143.ok hkr138) (aM143.inS hSr138)  ) ?_
      rintro _ _ ⟨rfl, hh⟩
      refine ⟨hh, ?_⟩
      clear hh
      refine XD.c (b := 0) (.fieldAddr rfl ((b136).fa (f := 1) (k := 1) (by kernel_rfl))) rfl rfl rfl ?_
      obtain ⟨u144, e144, s144⟩ := (((b136).base.snd' (m := 1) rfl (b136).isP)).ldSl vt22
      refine XD.ld (b := 8192) (After.refl _) (SegsOk.cons ((After.refl _)).next (SegsOk.cons ((After.refl _)).next (SegsOk.cons ((After.refl _)).next (SegsOk.cons ((After.refl _)).next (SegsOk.cons ((After.refl _)).next (SegsOk.cons ((After.refl _)).next (SegsOk.cons ((After.refl _)).next (SegsOk.cons ((After.refl _)).next SegsOk.nil)))))))) hkr138 rfl (e144) rfl rfl rfl rfl ?_
      refine XD.a (b := 24576) rfl (.len rfl (s144.len el22)) rfl rfl rfl rfl ?_
      refine XD.c (b := 0) (.move rfl) rfl rfl rfl ?_
      refine XD.c (b := 65536) (.indexAddr rfl rfl rfl (ha0.ix (j := 0) el64 (by omega))) rfl rfl rfl ?_
      refine XD.c (b := 196608) (.fieldAddr rfl (((ha0.at (j := 0) (by omega))).fa (f := 1) (k := 1) (by kernel_rfl))) rfl rfl rfl ?_
      obtain ⟨u145, e145, s145⟩ := ((((ha0.at (j := 0) (by omega))).base.snd' (m := 1) rfl ((ha0.at (j := 0) (by omega))).isP)).ldSl vt22
      refine XD.ld (b := 458752) (After.refl _) (SegsOk.cons ((After.refl _)).next (SegsOk.cons ((After.refl _)).next (SegsOk.cons ((After.refl _)).next (SegsOk.cons ((After.refl _)).next (SegsOk.cons ((After.refl _)).next (SegsOk.cons ((After.refl _)).next (SegsOk.cons ((After.refl _)).next (SegsOk.cons ((After.refl _)).next (SegsOk.cons ((After.refl _)).next (SegsOk.cons ((After.refl _)).next SegsOk.nil)))))))))) hkr138 rfl (e145) rfl rfl rfl rfl ?_
      refine XD.a (b := 983040) rfl (.len rfl (s145.len el22)) rfl rfl rfl rfl ?_
      refine XD.c (b := 2088960) (.neq rfl rfl) rfl rfl rfl ?_
      refine XD.callV (bb := 4194303) (After.refl _) (SegsOk.cons ((After.refl _)).next (SegsOk.cons ((After.refl _)).next (SegsOk.cons ((After.refl _)).next (SegsOk.cons ((After.refl _)).next (SegsOk.cons ((After.refl _)).next (SegsOk.cons ((After.refl _)).next (SegsOk.cons ((After.refl _)).next (SegsOk.cons ((After.refl _)).next (SegsOk.cons ((After.refl _)).next (SegsOk.cons ((After.refl _)).next (SegsOk.cons ((After.refl _)).next (SegsOk.cons ((After.refl _)).next SegsOk.nil)))))))))))) rfl rfl rfl rfl rfl rfl ?_
      intro M146 aM146 oM146
      refine EvF.mono (sWhen_ok (aM146.ok hkr138) (aM146.inS hSr138)  ) ?_
      rintro _ _ ⟨rfl, hh⟩
      refine ⟨hh, ?_⟩
      clear hh
      refine XD.c (b := 0) (.fieldAddr rfl ((b136).fa (f := 1) (k := 1) (by kernel_rfl))) rfl rfl rfl ?_
      obtain ⟨u147, e147, s147⟩ := (((b136).base.snd' (m := 1) rfl (b136).isP)).ldSl vt22
      refine XD.ld (b := 8388608) (After.refl _) (SegsOk.cons ((After.refl _)).next (SegsOk.cons ((After.refl _)).next (SegsOk.cons ((After.refl _)).next (SegsOk.cons ((After.refl _)).next (SegsOk.cons ((After.refl _)).next (SegsOk.cons ((After.refl _)).next (SegsOk.cons ((After.refl _)).next (SegsOk.cons ((After.refl _)).next (SegsOk.cons ((After.refl _)).next (SegsOk.cons ((After.refl _)).next (SegsOk.cons ((After.refl _)).next (SegsOk.cons ((After.refl _)).next (SegsOk.cons ((After.refl _)).next SegsOk.nil))))))))))))) hkr138 rfl (e147) rfl rfl rfl rfl ?_
      refine XD.callV (bb := 33554431) (After.refl _) (SegsOk.cons ((After.refl _)).next (SegsOk.cons ((After.refl _)).next (SegsOk.cons ((After.refl _)).next (SegsOk.cons ((After.refl _)).next (SegsOk.cons ((After.refl _)).next (SegsOk.cons ((After.refl _)).next (SegsOk.cons ((After.refl _)).next (SegsOk.cons ((After.refl _)).next (SegsOk.cons ((After.refl _)).next (SegsOk.cons ((After.refl _)).next (SegsOk.cons ((After.refl _)).next (SegsOk.cons ((After.refl _)).next (SegsOk.cons ((After.refl _)).next (SegsOk.cons ((After.refl _)).next SegsOk.nil)))))))))))))) rfl rfl rfl rfl rfl rfl ?_
      intro M148 aM148 oM148
      refine EvF.mono (sHeights_ok (aM148.ok hkr138) (aM148.inS hSr138) (s147.nx (aM148.nx hkr138)) (by first | assumption | omega)) ?_
      rintro _ _ ⟨rfl, hh⟩
      refine ⟨hh, ?_⟩
      clear hh
      refine XD.lit (b := 67108863) (h := h136) (S := S) (τ := (.int .i64)) (vsC (RepV.ofInt .i64 _) (vsC (RepV.ofInt .i64 _) (vsC (RepV.ofInt .i64 _) (vsC (RepV.ofInt .i64 _) (vs1 (RepV.ofInt .i64 _)))))) el179 rfl rfl rfl (by simp) (by simp) (by decide) (hA.ok hok) (hA.inS hS) rfl rfl rfl rfl ?_
      intro w149 h149 s149 a149
      have ha0o := ha0
      have s128o := s128
      have r133_1o := r133_1
      have b136o := b136
      have s140o := s140
      have s142o := s142
      have s144o := s144
      have s145o := s145
      have s147o := s147
      have rg138 : Goes h136 S h136 S := Goes.refl
      have ra138 := After.refl h136
      have ok150 := hA.ok hok
      have gg150 : Goes h136 S h149 S := a149.nx ok150
      replace hA := hA.trans a149
      replace aL131 := aL131.trans a149
      replace nL131 := nL131.trans gg150
      replace ha0 := ha0.nx gg150
      replace s128 := s128.nx gg150
      replace r133_1 := r133_1.nx gg150
      replace b136 := b136.nx gg150
      replace s140 := s140.nx gg150
      replace s142 := s142.nx gg150
      replace s144 := s144.nx gg150
      replace s145 := s145.nx gg150
      replace s147 := s147.nx gg150
      replace rg138 := rg138.trans gg150
      have ra138_149 := ra138.trans a149
      refine XD.callV (bb := 134217727) ra138_149 (SegsOk.cons (ra138).next (SegsOk.cons ((After.refl _)).next (SegsOk.cons ((After.refl _)).next (SegsOk.cons ((After.refl _)).next (SegsOk.cons ((After.refl _)).next (SegsOk.cons ((After.refl _)).next (SegsOk.cons ((After.refl _)).next (SegsOk.cons ((After.refl _)).next (SegsOk.cons ((After.refl _)).next (SegsOk.cons ((After.refl _)).next (SegsOk.cons ((After.refl _)).next (SegsOk.cons ((After.refl _)).next (SegsOk.cons ((After.refl _)).next (SegsOk.cons ((After.refl _)).next (SegsOk.cons ((After.refl _)).next (SegsOk.cons ((After.refl _)).next SegsOk.nil)))))))))))))))) rfl rfl rfl rfl rfl rfl ?_
      intro M151 aM151 oM151
      obtain rfl := oM151 rfl
      refine EvF.mono (sFirst_ok (hA.ok hok) (hA.inS hS) (s149).entry (by simp)) ?_
      rintro _ _ ⟨rfl, hh⟩
      refine ⟨hh, ?_⟩
      clear hh
      refine XD.c (b := 268435455) (.assign rfl) rfl rfl rfl ?_
      refine XD.nil (thenC.go ?_)
      refine XC.seq ?_
      refine XC.text ?_
      refine XO.c (.move rfl) rfl rfl ?_
      refine XO.c (.neq rfl rfl) rfl rfl ?_
      refine XO.nil (thenC.go ?_)
      refine XC.condD rfl (fun c8 => ?_) (fun c8 => ?_)
      · refine XC.seq ?_
        refine XC.text ?_
        refine XO.c (.move rfl) rfl rfl ?_
        refine XO.c (.assign rfl) rfl rfl ?_
        refine XO.nil (thenC.go ?_)
        refine XC.ret fun tf htf => ?_
        refine inBlock_ret ?_
        refine thenC_ret ?_
        refine loopQ_ret ?_
        refine inBlock_ret ?_
        refine thenC_ret ?_
        refine endF.one rfl rfl (htf 2 _ rfl) ?_
        exact ⟨congrArg (Value.int .i64) (by rw [ensembleE, if_neg d1, if_neg d2, hf, firstE_map_drop (by omega), if_neg (by rw [courseE, ← e0]; exact c8), courseE, ← e0]), hA.leftAf rfl⟩
      · refine XC.skip ?_
        intro tf htf
        refine inBlock_nrm ?_
        refine thenC.go ?_ tf htf
        refine XC.text ?_
        refine XO.c (.add rfl rfl (by omega)) rfl rfl ?_
        refine XO.c (.move rfl) rfl rfl ?_
        refine XO.nil ?_
        intro tf htf
        refine ⟨rfl, rfl, _, [(0, v0), (20, v0), (21, .int .i64 ((l.length : Nat) : Int)), (22, .int .i64 (((j + 1) : Nat) : Int))], ?_, htf.keep _ ⟨rfl, rfl, rfl, rfl, trivial⟩, (j + 1), rfl, rfl, hA, aL131, nL131, (by omega), (by rw [hf, firstE_map_drop (by omega), if_pos (by rw [courseE, ← e0]; simpa using c8)])⟩
        omega
    · refine XC.exit ?_
      intro tf htf
      refine thenC_exit ?_
      refine loopQ_exit ?_
      refine inBlock_eq ?_
      refine thenC.go ?_ tf htf
      refine XC.seq ?_
      refine XC.text ?_
      refine XO.c (.assign rfl) rfl rfl ?_
      refine XO.nil (thenC.go ?_)
      refine XC.ret fun tf htf => ?_
      refine endF.one rfl rfl (htf 2 _ rfl) ?_
      exact ⟨congrArg (Value.int .i64) (by rw [ensembleE, if_neg d1, if_neg d2, hf, firstE_map_end (by omega)]), hA.leftAf rfl⟩
theorem rEnsemble_ok {h : Heap} {S : List Nat} {v0 : Value} {l : List (Int × (List Int))} (hok : HOk h) (hS : ∀ b ∈ S, b < h.next) (ha0 : SlV h S (.pair (.int .i64) (.sl (.int .i64))) v0 l) (hl : ∀ c ∈ l, c.2.length < 100000) : EvF Tryz.prog OA 39 [v0] h fun r h' => r = .int .i64 (ensembleE l) ∧ h' = h := by
  refine XF.enter Tryz.func39 rfl rfl rfl ?_
  have hok : HOk (entry h) := hok
  have hA := After.refl (entry h)
  replace ha0 := ha0.entry
  show XC Tryz.prog OA none _ _ [] [(0, v0)] (entry h) _
  refine XC.seq ?_
  refine XC.text ?_
  refine XO.c (.assign rfl) rfl rfl ?_
  refine XO.nil (thenC.go ?_)
  refine XC.seq ?_
  refine XC.seq ?_
  refine XC.text ?_
  refine XO.c (.move rfl) rfl rfl ?_
  refine XO.a (.len rfl (ha0.len el54)) rfl rfl ?_
  refine XO.c (.eql rfl rfl) rfl rfl ?_
  refine XO.nil (thenC.go ?_)
  refine XC.condD rfl (fun c1 => ?_) (fun c1 => ?_)
  · refine XC.seq ?_
    refine XC.text ?_
    refine XO.c (.assign rfl) rfl rfl ?_
    refine XO.nil (thenC.go ?_)
    refine XC.ret fun tf htf => ?_
    refine thenC_ret ?_
    refine endF.one rfl rfl (htf 2 _ rfl) ?_
    exact ⟨congrArg (Value.int .i64) (by rw [ensembleE, if_pos c1]), hA.leftAf rfl⟩
  · refine XC.skip (thenC.go ?_)
    refine XC.seq ?_
    refine XC.seq ?_
    refine XC.text ?_
    refine XO.c (.move rfl) rfl rfl ?_
    refine XO.a (.len rfl (ha0.len el54)) rfl rfl ?_
    refine XO.c (.gtr rfl rfl) rfl rfl ?_
    refine XO.nil (thenC.go ?_)
    refine XC.condD rfl (fun c3 => ?_) (fun c3 => ?_)
    · refine XC.seq ?_
      refine XC.text ?_
      refine XO.c (.assign rfl) rfl rfl ?_
      refine XO.nil (thenC.go ?_)
      refine XC.ret fun tf htf => ?_
      refine thenC_ret ?_
      refine endF.one rfl rfl (htf 2 _ rfl) ?_
      exact ⟨congrArg (Value.int .i64) (by rw [ensembleE, if_neg c1, if_pos c3]), hA.leftAf rfl⟩
    · refine XC.skip (thenC.go ?_)
      refine XC.seq ?_
      refine XC.seq ?_
      refine XC.text ?_
      refine XO.c (.assign rfl) rfl rfl ?_
      refine XO.nil (thenC.go ?_)
      refine XC.block ?_
      have hAL152 := hA
      have hkL152 := hA.ok hok
      have hSL152 := (hA.inS hS)
      refine XC.keep [(0, v0), (3, .int .i64 ((0 : Nat) : Int))] ⟨rfl, rfl, trivial⟩ ?_
      refine XC.loopI (I := fun (kk : Nat) (ff : FL) (hh : Heap) => ∃ (j : Nat), kk = l.length - j ∧ ff = [(0, v0), (3, .int .i64 ((j : Nat) : Int))] ∧ After (entry h) hh ∧ After (entry h) hh ∧ Goes (entry h) S hh S ∧ (j ≤ l.length) ∧ (firstE (l.map (courseE (len0 l))) = firstE ((l.drop j).map (courseE (len0 l))))) ?_ _ _ _ ⟨0, rfl, rfl, hA, After.refl _, Goes.refl, (by omega), (by rfl)⟩
      clear hA
      rintro kk ff hh152 ⟨j, hk152, rfl, hA, aL152, nL152, hj, hf⟩
      replace ha0 := ha0.nx nL152
      refine XC.seq ?_
      refine XC.seq ?_
      refine XC.text ?_
      refine XO.c (.move rfl) rfl rfl ?_
      refine XO.c (.move rfl) rfl rfl ?_
      refine XO.a (.len rfl (ha0.len el54)) rfl rfl ?_
      refine XO.c (.lss rfl rfl) rfl rfl ?_
      refine XO.nil (thenC.go ?_)
      refine XC.condD rfl (fun c6 => ?_) (fun c6 => ?_)
      · refine XC.skip (thenC.go ?_)
        refine XC.seq ?_
        refine XC.block ?_
        refine XC.seq ?_
        refine XC.seq ?_
        refine XC.text ?_
        have e0 := len0_eq (l := l) (by omega)
        have hlj := hl _ (List.getElem_mem (show j < l.length by omega))
        refine XO.c (.move rfl) rfl rfl ?_
        refine XO.c (.move rfl) rfl rfl ?_
        refine XO.c (.indexAddr rfl rfl rfl (ha0.ix (j := j) el54 (by omega))) rfl rfl ?_
        refine XO.c (.fieldAddr rfl (((ha0.at (j := j) (by omega))).fa (f := 0) (k := 0) (by kernel_rfl))) rfl rfl ?_
        refine XO.r (.load rfl ((((ha0.at (j := j) (by omega))).base.fst').ldInt vt3)) rfl rfl ?_
        refine XO.call rfl rfl rfl rfl ?_
        refine EvF.mono (rCheckRange_ok (hA.ok hok) (hA.inS hS)  ) ?_
        rintro _ _ ⟨rfl, hh⟩
        obtain rfl := hh.symm
        clear hh
        refine XO.c (.assign rfl) rfl rfl ?_
        refine XO.nil (thenC.go ?_)
        refine XC.seq ?_
        refine XC.text ?_
        refine XO.c (.move rfl) rfl rfl ?_
        refine XO.c (.neq rfl rfl) rfl rfl ?_
        refine XO.nil (thenC.go ?_)
        refine XC.condD rfl (fun c9 => ?_) (fun c9 => ?_)
        · refine XC.seq ?_
          refine XC.text ?_
          refine XO.c (.move rfl) rfl rfl ?_
          refine XO.c (.assign rfl) rfl rfl ?_
          refine XO.nil (thenC.go ?_)
          refine XC.ret fun tf htf => ?_
          refine thenC_ret ?_
          refine inBlock_ret ?_
          refine thenC_ret ?_
          refine loopQ_ret ?_
          refine inBlock_ret ?_
          refine thenC_ret ?_
          refine endF.one rfl rfl (htf 2 _ rfl) ?_
          exact ⟨congrArg (Value.int .i64) (by rw [ensembleE, if_neg c1, if_neg c3, hf, firstE_map_drop (by omega)]; simp [courseE, firstE, c9]), hA.leftAf rfl⟩
        · refine XC.skip (thenC.go ?_)
          refine XC.seq ?_
          refine XC.seq ?_
          refine XC.text ?_
          refine XO.c (.move rfl) rfl rfl ?_
          refine XO.c (.move rfl) rfl rfl ?_
          refine XO.c (.indexAddr rfl rfl rfl (ha0.ix (j := j) el54 (by omega))) rfl rfl ?_
          refine XO.c (.fieldAddr rfl (((ha0.at (j := j) (by omega))).fa (f := 1) (k := 1) (by kernel_rfl))) rfl rfl ?_
          obtain ⟨u154, e154, s154⟩ := ((((ha0.at (j := j) (by omega))).base.snd' (m := 1) rfl ((ha0.at (j := j) (by omega))).isP)).ldSl vt22
          refine XO.r (.load rfl (e154)) rfl rfl ?_
          refine XO.a (.len rfl (s154.len el22)) rfl rfl ?_
          refine XO.c (.eql rfl rfl) rfl rfl ?_
          refine XO.nil (thenC.go ?_)
          refine XC.condD rfl (fun c11 => ?_) (fun c11 => ?_)
          · refine XC.seq ?_
            refine XC.text ?_
            refine XO.c (.assign rfl) rfl rfl ?_
            refine XO.nil (thenC.go ?_)
            refine XC.ret fun tf htf => ?_
            refine thenC_ret ?_
            refine inBlock_ret ?_
            refine thenC_ret ?_
            refine loopQ_ret ?_
            refine inBlock_ret ?_
            refine thenC_ret ?_
            refine endF.one rfl rfl (htf 2 _ rfl) ?_
            exact ⟨congrArg (Value.int .i64) (by rw [ensembleE, if_neg c1, if_neg c3, hf, firstE_map_drop (by omega)]; simp only [courseE, firstE, Decidable.not_not.1 c9, whenE_t c11, if_true]; rfl), hA.leftAf rfl⟩
          · refine XC.skip (thenC.go ?_)
            refine XC.seq ?_
            refine XC.seq ?_
            refine XC.text ?_
            refine XO.c (.move rfl) rfl rfl ?_
            refine XO.c (.move rfl) rfl rfl ?_
            refine XO.c (.indexAddr rfl rfl rfl (ha0.ix (j := j) el54 (by omega))) rfl rfl ?_
            refine XO.c (.fieldAddr rfl (((ha0.at (j := j) (by omega))).fa (f := 1) (k := 1) (by kernel_rfl))) rfl rfl ?_
            obtain ⟨u155, e155, s155⟩ := ((((ha0.at (j := j) (by omega))).base.snd' (m := 1) rfl ((ha0.at (j := j) (by omega))).isP)).ldSl vt22
            refine XO.r (.load rfl (e155)) rfl rfl ?_
            refine XO.a (.len rfl (s155.len el22)) rfl rfl ?_
            refine XO.c (.gtr rfl rfl) rfl rfl ?_
            refine XO.nil (thenC.go ?_)
            refine XC.condD rfl (fun c13 => ?_) (fun c13 => ?_)
            · refine XC.seq ?_
              refine XC.text ?_
              refine XO.c (.assign rfl) rfl rfl ?_
              refine XO.nil (thenC.go ?_)
              refine XC.ret fun tf htf => ?_
              refine thenC_ret ?_
              refine inBlock_ret ?_
              refine thenC_ret ?_
              refine loopQ_ret ?_
              refine inBlock_ret ?_
              refine thenC_ret ?_
              refine endF.one rfl rfl (htf 2 _ rfl) ?_
              exact ⟨congrArg (Value.int .i64) (by rw [ensembleE, if_neg c1, if_neg c3, hf, firstE_map_drop (by omega)]; simp only [courseE, firstE, Decidable.not_not.1 c9, whenE_f c11, whenE_t c13, if_true]; rfl), hA.leftAf rfl⟩
            · refine XC.skip (thenC.go ?_)
              refine XC.seq ?_
              refine XC.seq ?_
              refine XC.drawn ?_
              have hkr156 := hA.ok hok
              have hSr156 := (hA.inS hS)
              refine XD.c (b := 0) (.move rfl) rfl rfl rfl ?_
              refine XD.c (b := 0) (.move rfl) rfl rfl rfl ?_
              refine XD.c (b := 3) (.indexAddr rfl rfl rfl (ha0.ix (j := j) el54 (by omega))) rfl rfl rfl ?_
              refine XD.c (b := 7) (.fieldAddr rfl (((ha0.at (j := j) (by omega))).fa (f := 1) (k := 1) (by kernel_rfl))) rfl rfl rfl ?_
              obtain ⟨u157, e157, s157⟩ := ((((ha0.at (j := j) (by omega))).base.snd' (m := 1) rfl ((ha0.at (j := j) (by omega))).isP)).ldSl vt22
              refine XD.ld (b := 15) (After.refl _) SegsOk.nil hkr156 rfl (e157) rfl rfl rfl rfl ?_
              refine XD.a (b := 31) rfl (.len rfl (s157.len el22)) rfl rfl rfl rfl ?_
              refine XD.c (b := 0) (.move rfl) rfl rfl rfl ?_
              refine XD.c (b := 64) (.indexAddr rfl rfl rfl (ha0.ix (j := 0) el54 (by omega))) rfl rfl rfl ?_
              refine XD.c (b := 192) (.fieldAddr rfl (((ha0.at (j := 0) (by omega))).fa (f := 1) (k := 1) (by kernel_rfl))) rfl rfl rfl ?_
              obtain ⟨u158, e158, s158⟩ := ((((ha0.at (j := 0) (by omega))).base.snd' (m := 1) rfl ((ha0.at (j := 0) (by omega))).isP)).ldSl vt22
              refine XD.ld (b := 448) (After.refl _) (SegsOk.cons ((After.refl _)).next (SegsOk.cons ((After.refl _)).next SegsOk.nil)) hkr156 rfl (e158) rfl rfl rfl rfl ?_
              refine XD.a (b := 960) rfl (.len rfl (s158.len el22)) rfl rfl rfl rfl ?_
              refine XD.c (b := 2047) (.neq rfl rfl) rfl rfl rfl ?_
              refine XD.nil (thenC.go ?_)
              refine XC.condD rfl (fun c15 => ?_) (fun c15 => ?_)
              · refine XC.seq ?_
                refine XC.text ?_
                refine XO.c (.assign rfl) rfl rfl ?_
                refine XO.nil (thenC.go ?_)
                refine XC.ret fun tf htf => ?_
                refine thenC_ret ?_
                refine inBlock_ret ?_
                refine thenC_ret ?_
                refine loopQ_ret ?_
                refine inBlock_ret ?_
                refine thenC_ret ?_
                refine endF.one rfl rfl (htf 2 _ rfl) ?_
                exact ⟨congrArg (Value.int .i64) (by rw [ensembleE, if_neg c1, if_neg c3, hf, firstE_map_drop (by omega)]; simp only [courseE, ← e0, firstE, Decidable.not_not.1 c9, whenE_f c11, whenE_f c13, whenE_t c15, if_true]; rfl), hA.leftAf rfl⟩
              · refine XC.skip (thenC.go ?_)
                refine XC.seq ?_
                refine XC.text ?_
                refine XO.c (.move rfl) rfl rfl ?_
                refine XO.c (.move rfl) rfl rfl ?_
                refine XO.c (.indexAddr rfl rfl rfl (ha0.ix (j := j) el54 (by omega))) rfl rfl ?_
                refine XO.c (.fieldAddr rfl (((ha0.at (j := j) (by omega))).fa (f := 1) (k := 1) (by kernel_rfl))) rfl rfl ?_
                obtain ⟨u159, e159, s159⟩ := ((((ha0.at (j := j) (by omega))).base.snd' (m := 1) rfl ((ha0.at (j := j) (by omega))).isP)).ldSl vt22
                refine XO.r (.load rfl (e159)) rfl rfl ?_
                refine XO.call rfl rfl rfl rfl ?_
                refine EvF.mono (rHeights_ok (hA.ok hok) (hA.inS hS) s159 (by first | assumption | omega)) ?_
                rintro _ _ ⟨rfl, hh⟩
                obtain rfl := hh.symm
                clear hh
                refine XO.c (.assign rfl) rfl rfl ?_
                refine XO.nil (thenC.go ?_)
                refine XC.seq ?_
                refine XC.text ?_
                refine XO.c (.move rfl) rfl rfl ?_
                refine XO.c (.neq rfl rfl) rfl rfl ?_
                refine XO.nil (thenC.go ?_)
                refine XC.condD rfl (fun c18 => ?_) (fun c18 => ?_)
                · refine XC.seq ?_
                  refine XC.text ?_
                  refine XO.c (.move rfl) rfl rfl ?_
                  refine XO.c (.assign rfl) rfl rfl ?_
                  refine XO.nil (thenC.go ?_)
                  refine XC.ret fun tf htf => ?_
                  refine inBlock_ret ?_
                  refine thenC_ret ?_
                  refine loopQ_ret ?_
                  refine inBlock_ret ?_
                  refine thenC_ret ?_
                  refine endF.one rfl rfl (htf 2 _ rfl) ?_
                  exact ⟨congrArg (Value.int .i64) (by rw [ensembleE, if_neg c1, if_neg c3, hf, firstE_map_drop (by omega)]; simp only [courseE, ← e0, firstE, Decidable.not_not.1 c9, whenE_f c11, whenE_f c13, whenE_f c15, if_true, if_neg c18]), hA.leftAf rfl⟩
                · refine XC.skip ?_
                  intro tf htf
                  refine inBlock_nrm ?_
                  refine thenC.go ?_ tf htf
                  refine XC.text ?_
                  refine XO.c (.move rfl) rfl rfl ?_
                  refine XO.c (.add rfl rfl (by omega)) rfl rfl ?_
                  refine XO.c (.assign rfl) rfl rfl ?_
                  refine XO.nil ?_
                  intro tf htf
                  refine ⟨rfl, rfl, _, [(0, v0), (3, .int .i64 (((j + 1) : Nat) : Int))], ?_, htf.keep _ ⟨rfl, rfl, trivial⟩, (j + 1), rfl, rfl, hA, aL152, nL152, (by omega), (by rw [hf, firstE_map_drop (by omega), if_pos (by simp only [courseE, ← e0, firstE, Decidable.not_not.1 c9, whenE_f c11, whenE_f c13, whenE_f c15, Decidable.not_not.1 c18, if_true])])⟩
                  omega
      · refine XC.exit ?_
        intro tf htf
        refine thenC_exit ?_
        refine loopQ_exit ?_
        refine inBlock_eq ?_
        refine thenC.go ?_ tf htf
        refine XC.seq ?_
        refine XC.text ?_
        refine XO.c (.assign rfl) rfl rfl ?_
        refine XO.nil (thenC.go ?_)
        refine XC.ret fun tf htf => ?_
        refine endF.one rfl rfl (htf 2 _ rfl) ?_
        exact ⟨congrArg (Value.int .i64) (by rw [ensembleE, if_neg c1, if_neg c3, hf, firstE_map_end (by omega)]), hA.leftAf rfl⟩
end Go.Proofs
namespace Go.Proofs
open Go.Fs
set_option linter.unusedVariables false
structure OkC (n : Nat) (c : Int × List Int) : Prop where
  w : 1 ≤ c.1 ∧ c.1 ≤ 1000
  len : c.2.length = n
  pos : 0 < n
  top : n ≤ 96
  all : ∀ x ∈ c.2, -1048576 ≤ x ∧ x ≤ 1048576
structure OkE (l : List (Int × List Int)) : Prop where
  pos : 0 < l.length
  top : l.length ≤ 16
  all : ∀ c ∈ l, OkC (len0 l) c
structure OkB (b : Int × Int) : Prop where
  lo : -1048576 ≤ b.1 ∧ b.1 ≤ 1048576
  hi : -1048576 ≤ b.2 ∧ b.2 ≤ 1048576
  le : b.1 ≤ b.2
theorem whenE_zero {p : Prop} {inst : Decidable p} {e : Int} (he : e ≠ 0) (h : whenE (@decide p inst) e = 0) : ¬ p := fun hp => he (by rw [whenE_t hp] at h; exact h)
theorem courseE_ok {n : Nat} {c : Int × List Int} (h : courseE n c = 0) : OkC n c := by
  rw [courseE, firstE_zero] at h
  have h1 := rangeE_zero.1 (h _ (by simp : rangeE c.1 1 1000 ∈ _))
  have h2 := whenE_zero (by decide) (h _ (by simp : whenE (decide ((c.2.length : Int) = 0)) 12 ∈ _))
  have h3 := whenE_zero (by decide) (h _ (by simp : whenE (decide ((96 : Int) < c.2.length)) 5 ∈ _))
  have h4 := whenE_zero (by decide) (h _ (by simp : whenE (decide ((c.2.length : Int) ≠ n)) 2 ∈ _))
  have h5 := h _ (by simp : heightsE c.2 ∈ _)
  exact ⟨h1, by omega, by omega, by omega, heightsE_ok h5⟩
theorem ensembleE_ok {l : List (Int × List Int)} (h : ensembleE l = 0) : OkE l := by
  unfold ensembleE at h
  by_cases h1 : (l.length : Int) = 0
  · rw [if_pos h1] at h; simp at h
  · rw [if_neg h1] at h
    by_cases h2 : (16 : Int) < l.length
    · rw [if_pos h2] at h; simp at h
    · rw [if_neg h2, firstE_zero] at h
      exact ⟨by omega, by omega, fun c hc => courseE_ok (h _ (List.mem_map_of_mem hc))⟩
def colE (l : List (Int × List Int)) (t : Nat) : List Int := l.map fun c => c.2.getD t 0
def encloseE (l : List (Int × List Int)) (b : Int × Int) : List (Int × Int) := (List.range (len0 l)).map fun t => (minE (colE l t) + b.1, maxE (colE l t) + b.2)
def enclB (l : List (Int × List Int)) (b : Int × Int) : Int := firstE [ensembleE l, boundsE b]
end Go.Proofs
namespace Go.Proofs
open Go.Fs
set_option linter.unusedVariables false
theorem vt72 : ValT Tryz.prog 72 (.pair (.int .i64) (.sl (.int .i64))) := valT_of (by kernel_rfl)
theorem colE_len {l : List (Int × List Int)} {j : Nat} : (colE l j).length = l.length := by simp [colE]
def shortCE (l : List (Int × List Int)) : Bool := decide ((l.length ≤ 6 ∨ l.length = 17) ∧ ∀ c ∈ l, c.2.length ≤ 12 ∨ c.2.length = 97)
theorem rShortC_ok {h : Heap} {S : List Nat} {v0 : Value} {l : List (Int × (List Int))} (hok : HOk h) (hS : ∀ b ∈ S, b < h.next) (ha0 : SlV h S (.pair (.int .i64) (.sl (.int .i64))) v0 l) : EvF Tryz.prog OA 35 [v0] h fun r h' => r = .bool (shortCE l) ∧ h' = h := by
  refine XF.enter Tryz.func35 rfl rfl rfl ?_
  have hok : HOk (entry h) := hok
  have hA := After.refl (entry h)
  replace ha0 := ha0.entry
  show XC Tryz.prog OA none _ _ [] [(0, v0)] (entry h) _
  refine XC.seq ?_
  refine XC.text ?_
  refine XO.c (.assign rfl) rfl rfl ?_
  refine XO.nil (thenC.go ?_)
  refine XC.seq ?_
  refine XC.seq ?_
  refine XC.text ?_
  refine XO.c (.move rfl) rfl rfl ?_
  refine XO.a (.len rfl (ha0.len el54)) rfl rfl ?_
  refine XO.c (.gtr rfl rfl) rfl rfl ?_
  refine XO.c (.move rfl) rfl rfl ?_
  refine XO.splitD (x := 7) rfl (fun g1_3 => ?_) (fun g1_3 => ?_)
  · refine XO.gc rfl rfl rfl (.move rfl) rfl rfl ?_
    refine XO.ga rfl rfl rfl (.len rfl (ha0.len el54)) rfl rfl ?_
    refine XO.gc rfl rfl rfl (.neq rfl rfl) rfl rfl ?_
    refine XO.c (.pickT rfl rfl) rfl rfl ?_
    refine XO.nil (thenC.go ?_)
    refine XC.condD rfl (fun c1 => ?_) (fun c1 => ?_)
    · refine XC.seq ?_
      refine XC.text ?_
      refine XO.c (.assign rfl) rfl rfl ?_
      refine XO.nil (thenC.go ?_)
      refine XC.ret fun tf htf => ?_
      refine thenC_ret ?_
      refine endF.one rfl rfl (htf 2 _ rfl) ?_
      exact ⟨congrArg Value.bool (by first | (refine (decide_eq_false fun h => ?_).symm; have h1 := h.1; omega) | (refine (decide_eq_false fun h => ?_).symm; have h1 := h.2 _ (List.getElem_mem (show j < l.length by omega)); omega) | (refine (decide_eq_true ⟨hl0, ?_⟩).symm; rw [List.take_of_length_le (by omega)] at hf; exact hf)), hA.leftAf rfl⟩
    · refine XC.skip (thenC.go ?_)
      refine XC.seq ?_
      refine XC.seq ?_
      refine XC.text ?_
      refine XO.c (.assign rfl) rfl rfl ?_
      refine XO.nil (thenC.go ?_)
      refine XC.block ?_
      have hAL121 := hA
      have hkL121 := hA.ok hok
      have hSL121 := (hA.inS hS)
      refine XC.keep [(0, v0), (3, .int .i64 ((0 : Nat) : Int))] ⟨rfl, rfl, trivial⟩ ?_
      refine XC.loopI (I := fun (kk : Nat) (ff : FL) (hh : Heap) => ∃ (j : Nat), kk = l.length - j ∧ ff = [(0, v0), (3, .int .i64 ((j : Nat) : Int))] ∧ After (entry h) hh ∧ After (entry h) hh ∧ Goes (entry h) S hh S ∧ (j ≤ l.length) ∧ (l.length ≤ 6 ∨ l.length = 17) ∧ (∀ c ∈ l.take j, c.2.length ≤ 12 ∨ c.2.length = 97)) ?_ _ _ _ ⟨0, rfl, rfl, hA, After.refl _, Goes.refl, (by omega), (by omega), (by simp)⟩
      clear hA
      rintro kk ff hh121 ⟨j, hk121, rfl, hA, aL121, nL121, hj, hl0, hf⟩
      replace ha0 := ha0.nx nL121
      refine XC.seq ?_
      refine XC.seq ?_
      refine XC.text ?_
      refine XO.c (.move rfl) rfl rfl ?_
      refine XO.c (.move rfl) rfl rfl ?_
      refine XO.a (.len rfl (ha0.len el54)) rfl rfl ?_
      refine XO.c (.lss rfl rfl) rfl rfl ?_
      refine XO.nil (thenC.go ?_)
      refine XC.condD rfl (fun c4 => ?_) (fun c4 => ?_)
      · refine XC.skip (thenC.go ?_)
        refine XC.seq ?_
        refine XC.block ?_
        refine XC.seq ?_
        refine XC.text ?_
        refine XO.c (.move rfl) rfl rfl ?_
        refine XO.c (.move rfl) rfl rfl ?_
        refine XO.c (.indexAddr rfl rfl rfl (ha0.ix (j := j) el54 (by omega))) rfl rfl ?_
        refine XO.c (.fieldAddr rfl (((ha0.at (j := j) (by omega))).fa (f := 1) (k := 1) (by kernel_rfl))) rfl rfl ?_
        obtain ⟨u122, e122, s122⟩ := ((((ha0.at (j := j) (by omega))).base.snd' (m := 1) rfl ((ha0.at (j := j) (by omega))).isP)).ldSl vt22
        refine XO.r (.load rfl (e122)) rfl rfl ?_
        refine XO.a (.len rfl (s122.len el22)) rfl rfl ?_
        refine XO.c (.gtr rfl rfl) rfl rfl ?_
        refine XO.c (.move rfl) rfl rfl ?_
        refine XO.splitD (x := 25) rfl (fun g6_7 => ?_) (fun g6_7 => ?_)
        · refine XO.gc rfl rfl rfl (.move rfl) rfl rfl ?_
          refine XO.gc rfl rfl rfl (.move rfl) rfl rfl ?_
          refine XO.gc rfl rfl rfl (.indexAddr rfl rfl rfl (ha0.ix (j := j) el54 (by omega))) rfl rfl ?_
          refine XO.gc rfl rfl rfl (.fieldAddr rfl (((ha0.at (j := j) (by omega))).fa (f := 1) (k := 1) (by kernel_rfl))) rfl rfl ?_
          obtain ⟨u123, e123, s123⟩ := ((((ha0.at (j := j) (by omega))).base.snd' (m := 1) rfl ((ha0.at (j := j) (by omega))).isP)).ldSl vt22
          refine XO.gr rfl rfl rfl (.load rfl (e123)) rfl rfl ?_
          refine XO.ga rfl rfl rfl (.len rfl (s123.len el22)) rfl rfl ?_
          refine XO.gc rfl rfl rfl (.neq rfl rfl) rfl rfl ?_
          refine XO.c (.pickT rfl rfl) rfl rfl ?_
          refine XO.nil (thenC.go ?_)
          refine XC.condD rfl (fun c6 => ?_) (fun c6 => ?_)
          · refine XC.seq ?_
            refine XC.text ?_
            refine XO.c (.assign rfl) rfl rfl ?_
            refine XO.nil (thenC.go ?_)
            refine XC.ret fun tf htf => ?_
            refine inBlock_ret ?_
            refine thenC_ret ?_
            refine loopQ_ret ?_
            refine inBlock_ret ?_
            refine thenC_ret ?_
            refine endF.one rfl rfl (htf 2 _ rfl) ?_
            exact ⟨congrArg Value.bool (by first | (refine (decide_eq_false fun h => ?_).symm; have h1 := h.1; omega) | (refine (decide_eq_false fun h => ?_).symm; have h1 := h.2 _ (List.getElem_mem (show j < l.length by omega)); omega) | (refine (decide_eq_true ⟨hl0, ?_⟩).symm; rw [List.take_of_length_le (by omega)] at hf; exact hf)), hA.leftAf rfl⟩
          · refine XC.skip ?_
            intro tf htf
            refine inBlock_nrm ?_
            refine thenC.go ?_ tf htf
            refine XC.text ?_
            refine XO.c (.move rfl) rfl rfl ?_
            refine XO.c (.add rfl rfl (by omega)) rfl rfl ?_
            refine XO.c (.assign rfl) rfl rfl ?_
            refine XO.nil ?_
            intro tf htf
            refine ⟨rfl, rfl, _, [(0, v0), (3, .int .i64 (((j + 1) : Nat) : Int))], ?_, htf.keep _ ⟨rfl, rfl, trivial⟩, (j + 1), rfl, rfl, hA, aL121, nL121, (by omega), (by exact hl0), (by exact all_take (by omega) hf (by omega))⟩
            omega
        · refine XO.skip rfl rfl rfl rfl rfl ?_
          refine XO.skip rfl rfl rfl rfl rfl ?_
          refine XO.skip rfl rfl rfl rfl rfl ?_
          refine XO.skip rfl rfl rfl rfl rfl ?_
          refine XO.skip rfl rfl rfl rfl rfl ?_
          refine XO.skip rfl rfl rfl rfl rfl ?_
          refine XO.skip rfl rfl rfl rfl rfl ?_
          refine XO.c (.pickF rfl rfl) rfl rfl ?_
          refine XO.nil (thenC.go ?_)
          refine XC.condF rfl ?_
          refine XC.skip ?_
          intro tf htf
          refine inBlock_nrm ?_
          refine thenC.go ?_ tf htf
          refine XC.text ?_
          refine XO.c (.move rfl) rfl rfl ?_
          refine XO.c (.add rfl rfl (by omega)) rfl rfl ?_
          refine XO.c (.assign rfl) rfl rfl ?_
          refine XO.nil ?_
          intro tf htf
          refine ⟨rfl, rfl, _, [(0, v0), (3, .int .i64 (((j + 1) : Nat) : Int))], ?_, htf.keep _ ⟨rfl, rfl, trivial⟩, (j + 1), rfl, rfl, hA, aL121, nL121, (by omega), (by exact hl0), (by exact all_take (by omega) hf (by omega))⟩
          omega
      · refine XC.exit ?_
        intro tf htf
        refine thenC_exit ?_
        refine loopQ_exit ?_
        refine inBlock_eq ?_
        refine thenC.go ?_ tf htf
        refine XC.seq ?_
        refine XC.text ?_
        refine XO.c (.assign rfl) rfl rfl ?_
        refine XO.nil (thenC.go ?_)
        refine XC.ret fun tf htf => ?_
        refine endF.one rfl rfl (htf 2 _ rfl) ?_
        exact ⟨congrArg Value.bool (by first | (refine (decide_eq_false fun h => ?_).symm; have h1 := h.1; omega) | (refine (decide_eq_false fun h => ?_).symm; have h1 := h.2 _ (List.getElem_mem (show j < l.length by omega)); omega) | (refine (decide_eq_true ⟨hl0, ?_⟩).symm; rw [List.take_of_length_le (by omega)] at hf; exact hf)), hA.leftAf rfl⟩
  · refine XO.skip rfl rfl rfl rfl rfl ?_
    refine XO.skip rfl rfl rfl rfl rfl ?_
    refine XO.skip rfl rfl rfl rfl rfl ?_
    refine XO.c (.pickF rfl rfl) rfl rfl ?_
    refine XO.nil (thenC.go ?_)
    refine XC.condF rfl ?_
    refine XC.skip (thenC.go ?_)
    refine XC.seq ?_
    refine XC.seq ?_
    refine XC.text ?_
    refine XO.c (.assign rfl) rfl rfl ?_
    refine XO.nil (thenC.go ?_)
    refine XC.block ?_
    have hAL124 := hA
    have hkL124 := hA.ok hok
    have hSL124 := (hA.inS hS)
    refine XC.keep [(0, v0), (3, .int .i64 ((0 : Nat) : Int))] ⟨rfl, rfl, trivial⟩ ?_
    refine XC.loopI (I := fun (kk : Nat) (ff : FL) (hh : Heap) => ∃ (j : Nat), kk = l.length - j ∧ ff = [(0, v0), (3, .int .i64 ((j : Nat) : Int))] ∧ After (entry h) hh ∧ After (entry h) hh ∧ Goes (entry h) S hh S ∧ (j ≤ l.length) ∧ (l.length ≤ 6 ∨ l.length = 17) ∧ (∀ c ∈ l.take j, c.2.length ≤ 12 ∨ c.2.length = 97)) ?_ _ _ _ ⟨0, rfl, rfl, hA, After.refl _, Goes.refl, (by omega), (by omega), (by simp)⟩
    clear hA
    rintro kk ff hh124 ⟨j, hk124, rfl, hA, aL124, nL124, hj, hl0, hf⟩
    replace ha0 := ha0.nx nL124
    refine XC.seq ?_
    refine XC.seq ?_
    refine XC.text ?_
    refine XO.c (.move rfl) rfl rfl ?_
    refine XO.c (.move rfl) rfl rfl ?_
    refine XO.a (.len rfl (ha0.len el54)) rfl rfl ?_
    refine XO.c (.lss rfl rfl) rfl rfl ?_
    refine XO.nil (thenC.go ?_)
    refine XC.condD rfl (fun c4 => ?_) (fun c4 => ?_)
    · refine XC.skip (thenC.go ?_)
      refine XC.seq ?_
      refine XC.block ?_
      refine XC.seq ?_
      refine XC.text ?_
      refine XO.c (.move rfl) rfl rfl ?_
      refine XO.c (.move rfl) rfl rfl ?_
      refine XO.c (.indexAddr rfl rfl rfl (ha0.ix (j := j) el54 (by omega))) rfl rfl ?_
      refine XO.c (.fieldAddr rfl (((ha0.at (j := j) (by omega))).fa (f := 1) (k := 1) (by kernel_rfl))) rfl rfl ?_
      obtain ⟨u125, e125, s125⟩ := ((((ha0.at (j := j) (by omega))).base.snd' (m := 1) rfl ((ha0.at (j := j) (by omega))).isP)).ldSl vt22
      refine XO.r (.load rfl (e125)) rfl rfl ?_
      refine XO.a (.len rfl (s125.len el22)) rfl rfl ?_
      refine XO.c (.gtr rfl rfl) rfl rfl ?_
      refine XO.c (.move rfl) rfl rfl ?_
      refine XO.splitD (x := 25) rfl (fun g6_7 => ?_) (fun g6_7 => ?_)
      · refine XO.gc rfl rfl rfl (.move rfl) rfl rfl ?_
        refine XO.gc rfl rfl rfl (.move rfl) rfl rfl ?_
        refine XO.gc rfl rfl rfl (.indexAddr rfl rfl rfl (ha0.ix (j := j) el54 (by omega))) rfl rfl ?_
        refine XO.gc rfl rfl rfl (.fieldAddr rfl (((ha0.at (j := j) (by omega))).fa (f := 1) (k := 1) (by kernel_rfl))) rfl rfl ?_
        obtain ⟨u126, e126, s126⟩ := ((((ha0.at (j := j) (by omega))).base.snd' (m := 1) rfl ((ha0.at (j := j) (by omega))).isP)).ldSl vt22
        refine XO.gr rfl rfl rfl (.load rfl (e126)) rfl rfl ?_
        refine XO.ga rfl rfl rfl (.len rfl (s126.len el22)) rfl rfl ?_
        refine XO.gc rfl rfl rfl (.neq rfl rfl) rfl rfl ?_
        refine XO.c (.pickT rfl rfl) rfl rfl ?_
        refine XO.nil (thenC.go ?_)
        refine XC.condD rfl (fun c6 => ?_) (fun c6 => ?_)
        · refine XC.seq ?_
          refine XC.text ?_
          refine XO.c (.assign rfl) rfl rfl ?_
          refine XO.nil (thenC.go ?_)
          refine XC.ret fun tf htf => ?_
          refine inBlock_ret ?_
          refine thenC_ret ?_
          refine loopQ_ret ?_
          refine inBlock_ret ?_
          refine thenC_ret ?_
          refine endF.one rfl rfl (htf 2 _ rfl) ?_
          exact ⟨congrArg Value.bool (by first | (refine (decide_eq_false fun h => ?_).symm; have h1 := h.1; omega) | (refine (decide_eq_false fun h => ?_).symm; have h1 := h.2 _ (List.getElem_mem (show j < l.length by omega)); omega) | (refine (decide_eq_true ⟨hl0, ?_⟩).symm; rw [List.take_of_length_le (by omega)] at hf; exact hf)), hA.leftAf rfl⟩
        · refine XC.skip ?_
          intro tf htf
          refine inBlock_nrm ?_
          refine thenC.go ?_ tf htf
          refine XC.text ?_
          refine XO.c (.move rfl) rfl rfl ?_
          refine XO.c (.add rfl rfl (by omega)) rfl rfl ?_
          refine XO.c (.assign rfl) rfl rfl ?_
          refine XO.nil ?_
          intro tf htf
          refine ⟨rfl, rfl, _, [(0, v0), (3, .int .i64 (((j + 1) : Nat) : Int))], ?_, htf.keep _ ⟨rfl, rfl, trivial⟩, (j + 1), rfl, rfl, hA, aL124, nL124, (by omega), (by exact hl0), (by exact all_take (by omega) hf (by omega))⟩
          omega
      · refine XO.skip rfl rfl rfl rfl rfl ?_
        refine XO.skip rfl rfl rfl rfl rfl ?_
        refine XO.skip rfl rfl rfl rfl rfl ?_
        refine XO.skip rfl rfl rfl rfl rfl ?_
        refine XO.skip rfl rfl rfl rfl rfl ?_
        refine XO.skip rfl rfl rfl rfl rfl ?_
        refine XO.skip rfl rfl rfl rfl rfl ?_
        refine XO.c (.pickF rfl rfl) rfl rfl ?_
        refine XO.nil (thenC.go ?_)
        refine XC.condF rfl ?_
        refine XC.skip ?_
        intro tf htf
        refine inBlock_nrm ?_
        refine thenC.go ?_ tf htf
        refine XC.text ?_
        refine XO.c (.move rfl) rfl rfl ?_
        refine XO.c (.add rfl rfl (by omega)) rfl rfl ?_
        refine XO.c (.assign rfl) rfl rfl ?_
        refine XO.nil ?_
        intro tf htf
        refine ⟨rfl, rfl, _, [(0, v0), (3, .int .i64 (((j + 1) : Nat) : Int))], ?_, htf.keep _ ⟨rfl, rfl, trivial⟩, (j + 1), rfl, rfl, hA, aL124, nL124, (by omega), (by exact hl0), (by exact all_take (by omega) hf (by omega))⟩
        omega
    · refine XC.exit ?_
      intro tf htf
      refine thenC_exit ?_
      refine loopQ_exit ?_
      refine inBlock_eq ?_
      refine thenC.go ?_ tf htf
      refine XC.seq ?_
      refine XC.text ?_
      refine XO.c (.assign rfl) rfl rfl ?_
      refine XO.nil (thenC.go ?_)
      refine XC.ret fun tf htf => ?_
      refine endF.one rfl rfl (htf 2 _ rfl) ?_
      exact ⟨congrArg Value.bool (by first | (refine (decide_eq_false fun h => ?_).symm; have h1 := h.1; omega) | (refine (decide_eq_false fun h => ?_).symm; have h1 := h.2 _ (List.getElem_mem (show j < l.length by omega)); omega) | (refine (decide_eq_true ⟨hl0, ?_⟩).symm; rw [List.take_of_length_le (by omega)] at hf; exact hf)), hA.leftAf rfl⟩
theorem lCourses_ok {h : Heap} {S : List Nat} {v0 : Value} {l : List (Int × (List Int))} (hok : HOk h) (hS : ∀ b ∈ S, b < h.next) (ha0 : SlV h S (.pair (.int .i64) (.sl (.int .i64))) v0 l) (hl : l.length < 100000) (hc : ∀ c ∈ l, c.2.length < 100000) : EvF Tryz.prog OA 37 [v0] h fun r h' => After h h' ∧ SlV h' S (.pair (.int .i64) (.sl (.int .i64))) r l := by
  refine XF.enter Tryz.func37 rfl rfl rfl ?_
  have hok : HOk (entry h) := hok
  have hA := After.refl (entry h)
  replace ha0 := ha0.entry
  show XC Tryz.prog OA none _ _ [] [(0, v0)] (entry h) _
  refine XC.seq ?_
  refine XC.text ?_
  refine XO.c (.assign rfl) rfl rfl ?_
  refine XO.nil (thenC.go ?_)
  refine XC.seq ?_
  refine XC.text ?_
  refine XO.c (.assign rfl) rfl rfl ?_
  refine XO.nil (thenC.go ?_)
  refine XC.seq ?_
  refine XC.seq ?_
  refine XC.text ?_
  refine XO.c (.move rfl) rfl rfl ?_
  refine XO.a (.len rfl (ha0.len el54)) rfl rfl ?_
  refine XO.c (.move rfl) rfl rfl ?_
  refine XO.nil (thenC.go ?_)
  refine XC.block ?_
  have hAL127 := hA
  have hkL127 := hA.ok hok
  have hSL127 := (hA.inS hS)
  refine XC.keep [(3, .slice none 0 0), (6, v0), (7, .int .i64 ((l.length : Nat) : Int)), (8, .int .i64 ((0 : Nat) : Int))] ⟨rfl, rfl, rfl, rfl, trivial⟩ ?_
  refine XC.loopI (I := fun (kk : Nat) (ff : FL) (hh : Heap) => ∃ (j : Nat) (out : Value), kk = l.length - j ∧ ff = [(3, out), (6, v0), (7, .int .i64 ((l.length : Nat) : Int)), (8, .int .i64 ((j : Nat) : Int))] ∧ After (entry h) hh ∧ After (entry h) hh ∧ Goes (entry h) S hh (ownB out ++ S) ∧ GrowR hh (ownB out ++ S) (entry h).next 89 true (.pair (.int .i64) (.sl (.int .i64))) out (l.take j) ∧ (j ≤ l.length)) ?_ _ _ _ ⟨0, .slice none 0 0, rfl, rfl, hA, After.refl _, Goes.refl, (GrowR.nil), (by omega)⟩
  clear hA
  rintro kk ff hh127 ⟨j, out, hk127, rfl, hA, aL127, nL127, g_out127, hj⟩
  replace ha0 := ha0.nx nL127
  refine XC.seq ?_
  refine XC.text ?_
  refine XO.c (.lss rfl rfl) rfl rfl ?_
  refine XO.nil (thenC.go ?_)
  refine XC.seq ?_
  refine XC.condD rfl (fun c3 => ?_) (fun c3 => ?_)
  · refine XC.skip (thenC.go ?_)
    refine XC.seq ?_
    refine XC.block ?_
    refine XC.seq ?_
    refine XC.text ?_
    refine XO.c (.indexAddr rfl rfl rfl (ha0.ix (j := j) el54 (by omega))) rfl rfl ?_
    obtain ⟨u128, e128, r128⟩ := ((ha0.at (j := j) (by omega))).ldV vt72
    obtain ⟨c129_0, c129_1, rfl, r129_0, r129_1⟩ := r128.st2 rfl rfl
    obtain rfl := r129_0.int
    replace r129_1 := r129_1.sl
    refine XO.r (.load rfl (e128)) rfl rfl ?_
    refine XO.allocP (S := (ownB out ++ S)) (z := .agg #[.int .i64 0, .slice none 0 0]) (by kernel_rfl) rfl rfl aL127 hkL127 (g_out127.inS (hA.ok hok) (hA.inS hS)) rfl rfl ?_
    intro p130 h130 b130 a130 gs130
    have ok131 := hA.ok hok
    have gg131 : Goes hh127 (ownB out ++ S) h130 (ownP p130 ++ (ownB out ++ S)) := gs130
    replace hA := hA.trans a130
    replace aL127 := aL127.trans a130
    replace nL127 := nL127.trans gg131
    replace ha0 := ha0.nx gg131
    replace r129_1 := r129_1.nx gg131
    replace g_out127 := g_out127.up a130 ok131 gg131 (fun b hb => by simp [hb])
    refine XO.stP (S := (ownB out ++ S)) (h0 := (entry h)) (τ := (.pair (.int .i64) (.sl (.int .i64)))) rfl rfl b130 (RepV.mk2 (a := (.int .i64)) (b := (.sl (.int .i64))) (x := l[j]) (RepV.ofInt .i64 _) (r129_1).rep rfl rfl) vt72 aL127 ?_
    intro h132 b132 a132 gs132 nx132 fr132
    have ok133 := hA.ok hok
    have gg133 : Goes h130 (ownP p130 ++ (ownB out ++ S)) h132 (ownB out ++ S) := gs132
    replace hA := hAL127.trans a132
    replace aL127 := a132
    replace nL127 := nL127.trans gg133
    replace ha0 := ha0.nx gg133
    replace r129_1 := r129_1.nx gg133
    replace g_out127 := g_out127.chg (fun b hb => fr132 b (by simp [hb])) gg133 (fun b hb => by simp [hb])
    refine XO.nil (thenC.go ?_)
    refine XC.drawn ?_
    have hkr134 := hA.ok hok
    have hSr134 := (g_out127.inS (hA.ok hok) (hA.inS hS))
    refine XD.c (b := 0) (.move rfl) rfl rfl rfl ?_
    refine XD.c (b := 0) (.fieldAddr rfl ((b132).fa (f := 0) (k := 0) (by kernel_rfl))) rfl rfl rfl ?_
    refine XD.ld (b := 2) (After.refl _) SegsOk.nil hkr134 rfl (((b132).base.fst').ldInt vt3) rfl rfl rfl rfl ?_
    refine XD.c (b := 0) (.fieldAddr rfl ((b132).fa (f := 1) (k := 1) (by kernel_rfl))) rfl rfl rfl ?_
    obtain ⟨u135, e135, s135⟩ := (((b132).base.snd' (m := 1) rfl (b132).isP)).ldSl vt22
    refine XD.ld (b := 8) (After.refl _) (SegsOk.cons ((After.refl _)).next SegsOk.nil) hkr134 rfl (e135) rfl rfl rfl rfl ?_
    have hlj := hc _ (List.getElem_mem (show j < l.length by omega))
    refine XD.callU (bb := 24) (After.refl _) (SegsOk.cons ((After.refl _)).next (SegsOk.cons ((After.refl _)).next SegsOk.nil)) hkr134 rfl rfl rfl rfl rfl rfl ?_
    intro M136 aM136 kM136 nM136 sM136 oM136
    refine EvF.mono (lInts_ok kM136 (by first | exact aM136.inS hSr134 | exact (g_out127.inS (hA.ok hok) (hA.inS hS))) (s135.nx (aM136.nx hkr134)) (by first | assumption | omega)) ?_
    rintro u136 hM136 ⟨a136, s136⟩
    refine ⟨a136, ?_⟩
    clear a136
    intro h136 a136 gM136
    replace s136 := s136.nx (gM136 _)
    have ha0o := ha0
    have r129_1o := r129_1
    have b132o := b132
    have s135o := s135
    have rg134 : Goes h132 (ownB out ++ S) h132 (ownB out ++ S) := Goes.refl
    have ra134 := After.refl h132
    have ok137 := hA.ok hok
    have gg137 : Goes h132 (ownB out ++ S) h136 (ownB out ++ S) := a136.nx ok137
    replace hA := hA.trans a136
    replace aL127 := aL127.trans a136
    replace nL127 := nL127.trans gg137
    replace ha0 := ha0.nx gg137
    replace r129_1 := r129_1.nx gg137
    replace b132 := b132.nx gg137
    replace s135 := s135.nx gg137
    replace g_out127 := g_out127.up a136 ok137 gg137 (fun b hb => by simp [hb])
    replace rg134 := rg134.trans gg137
    have ra134_136 := ra134.trans a136
    refine XD.c (b := 62) (.buildS (vs := [.int .i64 ((l[j]).1), u136]) ⟨⟨rfl, rfl⟩, ⟨(s136).one, trivial⟩⟩ (by kernel_rfl) rfl) rfl rfl rfl ?_
    refine XD.pushR (b := 126) (b2 := 255) (S0 := S) (h0 := (entry h)) el64 el64 rfl (fun _ => rfl) g_out127 (RepV.mk2 (a := (.int .i64)) (b := (.sl (.int .i64))) (x := ((l[j]).1, ((l[j]).2))) (RepV.ofInt .i64 _) (s136).rep rfl rfl) aL127 hkL127 (hA.inS hS) (by simp; omega) (by decide) rfl rfl rfl rfl rfl rfl rfl ?_
    intro out138 h138 t138 g138 a138 n138 l138 w138 k138
    have ok139 := hA.ok hok
    have gg139 : Goes h136 (ownB out ++ S) h138 (ownB out138 ++ S) := n138
    replace hA := hAL127.trans a138
    replace aL127 := a138
    replace nL127 := nL127.trans gg139
    replace ha0 := ha0.nx gg139
    replace r129_1 := r129_1.nx gg139
    replace b132 := b132.nx gg139
    replace s135 := s135.nx gg139
    replace s136 := s136.nx gg139
    refine XD.c (b := 511) (.assign rfl) rfl rfl rfl ?_
    refine XD.nil ?_
    intro tf htf
    refine inBlock_nrm ?_
    refine thenC.go ?_ tf htf
    refine XC.text ?_
    refine XO.c (.add rfl rfl (by omega)) rfl rfl ?_
    refine XO.c (.move rfl) rfl rfl ?_
    refine XO.nil ?_
    intro tf htf
    refine ⟨rfl, rfl, _, [(3, out138), (6, v0), (7, .int .i64 ((l.length : Nat) : Int)), (8, .int .i64 (((j + 1) : Nat) : Int))], ?_, htf.keep _ ⟨rfl, rfl, rfl, rfl, trivial⟩, (j + 1), out138, rfl, rfl, hA, aL127, nL127, (by rw [List.take_succ_eq_append_getElem (by omega)]; exact g138), (by omega)⟩
    omega
  · refine XC.exit ?_
    intro tf htf
    refine thenC_exit ?_
    refine loopQ_exit ?_
    refine inBlock_eq ?_
    refine thenC.go ?_ tf htf
    refine XC.seq ?_
    refine XC.text ?_
    refine XO.c (.move rfl) rfl rfl ?_
    refine XO.c (.assign rfl) rfl rfl ?_
    refine XO.nil (thenC.go ?_)
    refine XC.ret fun tf htf => ?_
    have s140 := g_out127.shut hSL127
    have gg140 : Goes hh127 (ownB out ++ S) hh127 S := nx_own
    replace ha0 := ha0.nx gg140
    refine endF.one rfl rfl (htf 2 _ rfl) ?_
    refine ⟨hA.left _, ?_⟩
    have hw := (s140).ret hA
    rw [List.take_of_length_le (by omega)] at hw; exact hw
end Go.Proofs
namespace Go.Fs
variable {P : Program} {orc : FuncId → List Value → Heap → Option (Value × Heap)} {h h' h0 : Heap} {fl : FL} {op : Op} {v : Value} {S S' S0 : List Nat} {ops : Array Oper} {n : Nat} {K : FL → Heap → Prop} {l : List Oper} {d : Tmp} {ty : TypeId} {pos : String} {after : Array Edge}

/-- A row of the function's own with room for 'cap' elements, of which the slice takes the first ones. -/
def CapR (h : Heap) (S : List Nat) (lo : Nat) (e : TypeId) (cap : Nat) (τ : Ty) (v : Value) (xs : List τ.den) : Prop :=
  ∃ b rs, b ∈ S ∧ lo ≤ b ∧ v = .slice (some ⟨b, 0, none⟩) xs.length 0 ∧ h.get b = some (.row e rs true true) ∧ rs.length = cap * τ.size ∧ xs.length ≤ cap ∧ Elems h S τ (rs.take (xs.length * τ.size)) xs
theorem CapR.up {lo : Nat} {e : TypeId} {cap : Nat} {τ : Ty} {v : Value} {xs : List τ.den} (hg : CapR h S lo e cap τ v xs) (ha : After h h') (hok : HOk h) (hN : Goes h S h' S') (hs : ∀ b ∈ ownB v, b ∈ S') : CapR h' S' lo e cap τ v xs := by
  obtain ⟨b, rs, h1, h2, rfl, h4, h5, h6, h7⟩ := hg
  exact ⟨b, rs, hs b (by simp [ownB]), h2, rfl, by rw [ha.get b (hok b _ h4)]; exact h4, h5, h6, h7.nx hN⟩
theorem CapR.inS {lo : Nat} {e : TypeId} {cap : Nat} {τ : Ty} {v : Value} {xs : List τ.den} (hg : CapR h S lo e cap τ v xs) (hok : HOk h) (hS : ∀ b ∈ S0, b < h.next) : ∀ b ∈ ownB v ++ S0, b < h.next := by
  obtain ⟨b, rs, h1, h2, rfl, h4, _⟩ := hg
  intro i hi
  rcases List.mem_append.1 hi with hi | hi
  · simp only [ownB, List.mem_singleton] at hi; subst hi; exact hok _ _ h4
  · exact hS i hi
theorem CapR.shut {lo : Nat} {e : TypeId} {cap : Nat} {τ : Ty} {v : Value} {xs : List τ.den} (hg : CapR h (ownB v ++ S0) lo e cap τ v xs) (hS : ∀ b ∈ S0, b < lo) : SlV h S0 τ v xs := by
  obtain ⟨b, rs, h1, h2, rfl, h4, h5, h6, h7⟩ := hg
  have hb : b ∉ S0 := fun hm => by have := hS b hm; omega
  have hle : xs.length * τ.size ≤ cap * τ.size := Nat.mul_le_mul_right _ h6
  refine .inr ⟨b, 0, 0, rfl, .inr ⟨hb, e, rs, true, true, h4, by omega, fun i hi => ?_⟩⟩
  have h8 := (h7.nx (Goes.less (S' := S0) fun c hc => List.mem_append_right _ hc)).2 i hi
  have h9 : (i + 1) * τ.size ≤ xs.length * τ.size := Nat.mul_le_mul_right _ hi
  rw [Nat.add_mul, Nat.one_mul] at h9
  rw [List.drop_take, List.take_take, Nat.min_eq_left (by omega)] at h8
  rw [Nat.zero_add]
  exact h8
/-- 'append(s, l...)' into the room. -/
theorem CapR.all {T T' e : TypeId} {τ : Ty} (hT : ElT P T e τ) (hT' : ElT P T' e τ) {cap : Nat} {v w : Value} {xs ys : List τ.den} (hg : CapR h (ownB v ++ S0) h0.next e cap τ v xs) (hw : SlV h (ownB v ++ S0) τ w ys) (hA : After h0 h) (hc : xs.length + ys.length ≤ cap) (hsz : cap ≤ 1000000) :
    ∃ v' h', fsAppend P #[T, T'] v w h = some (v', h') ∧ CapR h' (ownB v' ++ S0) h0.next e cap τ v' (xs ++ ys) ∧ After h0 h' ∧ Goes h (ownB v ++ S0) h' (ownB v' ++ S0) := by
  obtain ⟨b, rs, h1, h2, rfl, h4, h5, h6, h7⟩ := hg
  obtain ⟨i, z, hi1, hi2, hi3, hi3', hi4, hi5, hi6⟩ := hT.sl.info
  have hpos := hT.sl.pos
  have hbytes : (xs.length + ys.length) * i.bytes ≤ 274877906944 := by
    have := Nat.mul_le_mul (show xs.length + ys.length ≤ 1000000 by omega) hi3'
    omega
  have hadd : (xs.length + ys.length) * τ.size = xs.length * τ.size + ys.length * τ.size := Nat.add_mul _ _ _
  have hle : (xs.length + ys.length) * τ.size ≤ cap * τ.size := Nat.mul_le_mul_right _ hc
  have e2 : Nat.beq e e = true := Nat.beq_refl _
  have e3 : Nat.ble ((xs.length + ys.length) * i.bytes) 274877906944 = true := by rw [Nat.ble_eq]; exact hbytes
  have e4 : Nat.ble (0 + xs.length * i.size) rs.length = true := by rw [Nat.ble_eq, hi2]; omega
  have e5 : Nat.ble (0 + (xs.length + ys.length) * i.size) rs.length = true := by rw [Nat.ble_eq, hi2]; omega
  have e7 : Nat.beq 0 1 = false := rfl
  have e8 : Nat.beq 0 0 = true := rfl
  have f1 : Nat.blt 0 τ.size = true := by show Nat.ble 1 τ.size = true; rw [Nat.ble_eq]; exact hpos
  have f2 : Nat.blt 0 i.bytes = true := by show Nat.ble 1 i.bytes = true; rw [Nat.ble_eq]; exact hi3
  by_cases hy : 0 < ys.length
  · obtain ⟨b2, o, mk, e', rs2, own, more, rfl, hb, hr, hl, hel⟩ := hw.row hy
    have hks : 0 < ys.length * τ.size := Nat.mul_pos hy hpos
    have hne : b2 ≠ b := fun hbb => hb (by rw [hbb]; simp [ownB])
    let news := (rs2.drop o).take (ys.length * τ.size)
    have hnl : news.length = ys.length * τ.size := by show ((rs2.drop o).take (ys.length * τ.size)).length = _; rw [List.length_take, List.length_drop]; omega
    have hE : Elems h (ownB (.slice (some ⟨b, 0, none⟩) xs.length 0) ++ S0) τ news ys := by
      refine ⟨hnl, fun j hj => ?_⟩
      have h9 : (j + 1) * τ.size ≤ ys.length * τ.size := Nat.mul_le_mul_right _ hj
      rw [Nat.add_mul] at h9
      have := hel j hj
      show RepC h _ τ ((((rs2.drop o).take (ys.length * τ.size)).drop (j * τ.size)).take τ.size) ys[j]
      rw [List.drop_take, List.take_take, List.drop_drop, Nat.min_eq_left (by omega)]
      exact this
    have hone : news.all oneCell = true := hE.allOne
    have hap : appended i z (isInt (.slice e)) (.slice (some ⟨b2, o, none⟩) ys.length mk) h = some (ys.length, news) := appended_row (e := e') hi2 (by omega) hr (Nat.le_refl _) hl rfl rfl
    have hG : Goes h (ownB (.slice (some ⟨b, 0, none⟩) xs.length 0) ++ S0) (h.set b (.row e (splice rs (0 + xs.length * i.size) news) true true)) (ownB (.slice (some ⟨b, 0, none⟩) (xs.length + ys.length) 0) ++ S0) := by
      intro c o hgc hcS
      simp only [ownB, List.cons_append, List.nil_append, List.mem_cons, not_or] at hcS
      refine ⟨by rw [Heap.get_set h4, if_neg hcS.1]; exact hgc, ?_⟩
      simp only [ownB, List.cons_append, List.nil_append, List.mem_cons, not_or]
      exact hcS
    refine ⟨.slice (some ⟨b, 0, none⟩) (xs.length + ys.length) 0, h.set b (.row e (splice rs (0 + xs.length * i.size) news) true true), ?_, ⟨b, splice rs (0 + xs.length * i.size) news, mem_own, h2, by simp, by rw [Heap.get_set h4, if_pos rfl], ?_, by rw [List.length_append]; exact hc, ?_⟩, hA.set h4 h2, hG⟩
    · unfold fsAppend
      simp only [List.getElem?_toArray, List.getElem?_cons_zero, List.getElem?_cons_succ, hT.sl.sl, hT'.sl.sl, hi1, hi4, hap, hi2]
      have hcc : (Nat.blt 0 τ.size && Nat.blt 0 i.bytes && Nat.beq news.length (ys.length * τ.size) && news.all oneCell && Nat.beq z.cells.size τ.size) = true := by
        rw [f1, f2, hnl, Nat.beq_refl, hone, hi5, Nat.beq_refl]; rfl
      have e0 : Nat.beq ys.length 0 = false := beq_no (by omega)
      rw [hcc]
      simp only [cond_true]
      unfold fsGrow
      rw [hi2] at e4 e5
      simp only [h4, e0, Bool.false_and, cond_false, hi2, e2, e3, e4, Bool.and_self, cond_true, e7, e8, e5]
    · unfold splice
      rw [List.length_append, List.length_append, List.length_take, List.length_drop, hnl, hi2]
      omega
    · have hz : (splice rs (0 + xs.length * i.size) news).take ((xs ++ ys).length * τ.size) = rs.take (xs.length * τ.size) ++ news := by
        unfold splice
        rw [List.length_append, hadd, hi2, Nat.zero_add, List.take_append_of_le_length (by rw [List.length_append, List.length_take, hnl]; omega), List.take_of_length_le (by rw [List.length_append, List.length_take, hnl]; omega)]
      rw [hz]
      exact (h7.append hE).nx hG
  · have hy0 : ys = [] := List.eq_nil_of_length_eq_zero (by omega)
    subst hy0
    have hap : appended i z (isInt (.slice e)) w h = some (0, []) := by
      rcases hw with ⟨rfl, _⟩ | ⟨b, o, mk, rfl, _⟩
      · simp [appended, isInt, lenV, cellsOf]
      · simp only [appended, isInt, cond_false, lenV, cellsOf, List.length_nil]
        have e1 : Nat.ble 0 0 = true := rfl
        simp [e1, cond_true, Nat.zero_mul]
    refine ⟨.slice (some ⟨b, 0, none⟩) (xs.length + 0) 0, h, ?_, by rw [List.append_nil]; exact ⟨b, rs, h1, h2, rfl, h4, h5, h6, h7⟩, hA, Goes.refl⟩
    unfold fsAppend
    simp only [List.getElem?_toArray, List.getElem?_cons_zero, List.getElem?_cons_succ, hT.sl.sl, hT'.sl.sl, hi1, hi4, hap, hi2]
    have hcc : (Nat.blt 0 τ.size && Nat.blt 0 i.bytes && Nat.beq ([] : List Value).length (0 * τ.size) && ([] : List Value).all oneCell && Nat.beq z.cells.size τ.size) = true := by
      rw [f1, f2, hi5, Nat.beq_refl, Nat.zero_mul]; rfl
    rw [hcc]
    simp only [cond_true]
    unfold fsGrow
    simp only [List.length_nil] at e3 e5
    simp only [h4, e2, e3, e4, Bool.and_self, cond_true, e7, e8, e5, Bool.and_false, cond_false]

theorem CapR.keep {lo : Nat} {e : TypeId} {cap : Nat} {τ : Ty} {v : Value} {xs : List τ.den} (hg : CapR h S lo e cap τ v xs) (ha : After h h') (hok : HOk h) : CapR h' S lo e cap τ v xs := by
  obtain ⟨b, rs, h1, h2, rfl, h4, h5, h6, h7⟩ := hg
  exact ⟨b, rs, h1, h2, rfl, by rw [ha.get b (hok b _ h4)]; exact h4, h5, h6, h7.nx (ha.nx hok)⟩
theorem CapR.chg {lo : Nat} {e : TypeId} {cap : Nat} {τ : Ty} {v : Value} {xs : List τ.den} (hg : CapR h S lo e cap τ v xs) (hget : ∀ b ∈ ownB v, h'.get b = h.get b) (hN : Goes h S h' S') (hs : ∀ b ∈ ownB v, b ∈ S') : CapR h' S' lo e cap τ v xs := by
  obtain ⟨b, rs, h1, h2, rfl, h4, h5, h6, h7⟩ := hg
  exact ⟨b, rs, hs b (by simp [ownB]), h2, rfl, by rw [hget b (by simp [ownB])]; exact h4, h5, h6, h7.nx hN⟩
theorem CapR.weak {lo lo' : Nat} {e : TypeId} {cap : Nat} {τ : Ty} {v : Value} {xs : List τ.den} (hg : CapR h S lo e cap τ v xs) (hl : lo' ≤ lo) : CapR h S lo' e cap τ v xs := by
  obtain ⟨b, rs, h1, h2, h3⟩ := hg
  exact ⟨b, rs, h1, Nat.le_trans hl h2, h3⟩
theorem CapR.goes {e : TypeId} {cap : Nat} {τ : Ty} {v : Value} {xs : List τ.den} (hg : CapR h' S' h.next e cap τ v xs) (ha : After h h') (hok : HOk h) : Goes h S h' (ownB v ++ S) := by
  obtain ⟨b, rs, h1, h2, rfl, _⟩ := hg
  intro c o hc hcS
  have := hok c o hc
  refine ⟨by rw [ha.get c this]; exact hc, ?_⟩
  simp only [ownB, List.cons_append, List.nil_append, List.mem_cons, not_or]
  exact ⟨by omega, hcS⟩
theorem CapR.ret {h1 : Heap} {lo : Nat} {e : TypeId} {cap : Nat} {τ : Ty} {w : Value} {xs : List τ.den} (hg : CapR h1 S lo e cap τ w xs) (a : After (entry h) h1) : CapR (leftOf h h1 w) S lo e cap τ w xs := by
  obtain ⟨b, rs, m1, m2, rfl, m4, m5, m6, m7⟩ := hg
  exact ⟨b, rs, m1, m2, rfl, by rw [leftOf_get a rfl]; exact m4, m5, m6, m7.nx (leftOf_nx a rfl)⟩
theorem endF.cellTwo {fn : Func} {h1 : Heap} {QF : Value → Heap → Prop} {e : Ex} {t : Tr} {n i j : Nat} {T : TypeId} {p v w : Value} (he : e.goes = true) (hr : fn.results = #[.cell i T, .tmp j]) (hp : t.get i = p) (hv : fsLoad P T p h1 = some v) (hw : t.get j = w) (hq : QF (.tuple #[v, w]) (leftOf h h1 (.tuple #[v, w]))) : endF P fn h QF e ⟨t, n, []⟩ h1 :=
  ⟨he, h1, [v, w], rfl, by rw [hr]; show fsResults P t h1 [ResultVar.cell i T, ResultVar.tmp j] = _; simp [fsResults, fsResult, hp, hv, hw], hq⟩

theorem Goes.frame {p : Value} (hf : ∀ b, b ∉ ownP p → h'.get b = h.get b) (hs : ∀ b ∈ ownP p, b ∈ S) : Goes h S h' S := fun c o hc hcS => ⟨by rw [hf c (fun hm => hcS (hs c hm))]; exact hc, hcS⟩

theorem fresh_own {b m : Nat} (hb : b ∈ ownP (.pointer (some ⟨m, 0, none⟩))) : m ≤ b := by
  simp only [ownP, List.mem_singleton] at hb
  omega
theorem XO.boxF {e : TypeId} {x : Operand} {u : Value} (hu : evL fl x = some u) (ho : u.cells.toList.all oneCell = true) (hA : After h0 h) (hok0 : HOk h0) (hn : Nat.blt d n = true) (h4 : Nat.ble n 4000 = true)
    (hk : ∀ p h', BoxR h' h0.next p u.cells.toList → After h h' → (∀ S, Goes h S h' (ownP p ++ S)) → (∀ b ∈ ownP p, h.next ≤ b) → XO P orc ops n l ((d, p) :: fl) h' K) : XO P orc ops n (⟨some d, .box e x, ty, pos, after, none⟩ :: l) fl h K :=
  XO.mk (.box hu ho) hn h4 (hk _ _ (BoxR.new (S := []) hA hok0).1 (After.push h _) (fun S => (BoxR.new hA hok0).2.2) fun _ hb => fresh_own hb)
theorem XO.allocF {e : TypeId} {z : Value} (hz : (P.info? e).bind (·.zero) = some z) (ha : af z = true) (ho : z.cells.toList.all oneCell = true) (hA : After h0 h) (hok0 : HOk h0) (hn : Nat.blt d n = true) (h4 : Nat.ble n 4000 = true)
    (hk : ∀ p h', BoxR h' h0.next p z.cells.toList → After h h' → (∀ S, Goes h S h' (ownP p ++ S)) → (∀ b ∈ ownP p, h.next ≤ b) → XO P orc ops n l ((d, p) :: fl) h' K) : XO P orc ops n (⟨some d, .alloc e, ty, pos, after, none⟩ :: l) fl h K :=
  XO.mk (.alloc hz ha ho) hn h4 (hk _ _ (BoxR.new (S := []) hA hok0).1 (After.push h _) (fun S => (BoxR.new hA hok0).2.2) fun _ hb => fresh_own hb)
theorem apart {p q : List Nat} {m : Nat} (hp : ∀ b ∈ p, m ≤ b) (hq : ∀ b ∈ q, b < m) : ∀ b ∈ p, b ∉ q := fun b h1 h2 => by
  have := hp b h1
  have := hq b h2
  omega

/-! ## slices.Grow of nil -/
theorem StepA.cap0 {x : Operand} {T : TypeId} {d : TypeId} (hT : P.underlying T = some (.slice d)) (hx : evL fl x = some (.slice none 0 0)) : StepA P fl (.call { callee := .builtin .cap, args := #[x], argTypes := #[T] }) (.int .i64 0) := fun t ht d ty pos after g H => by
  show (fsCap P #[T] (evalO t x) H).map _ = _
  rw [evL_ok ht hx]
  have : fsCap P #[T] (.slice none 0 0) H = some (.int .i64 0) := by
    unfold fsCap
    simp only [List.getElem?_toArray, List.getElem?_cons_zero, Option.bind_some, hT]
  rw [this]; rfl
theorem StepR.sliceH {T : TypeId} {x hi : Operand} {u b w : Value} (hx : evL fl x = some u) (hh : evL fl hi = some b) (hv : ∀ nn ll, fsSlice P T u none (some b) none { next := nn, low := ll, objs := h.objs } = some w) : StepR P fl h (.slice T x none (some hi) none) w :=
  ⟨rfl, fun t ht _ _ _ _ _ n l => by
    show (fsSlice P T (evalO t x) none (some (evalO t hi)) none { next := n, low := l, objs := h.objs }).map _ = _
    rw [evL_ok ht hx, evL_ok ht hh, hv]; rfl⟩
theorem slice_nil0 {T e : TypeId} {τ : Ty} (hT : ElT P T e τ) (H : Heap) : fsSlice P T (.slice none 0 0) none (some (.int .i64 0)) none H = some (.slice none 0 0) := by
  obtain ⟨i, z, hi1, _⟩ := hT.sl.info
  simp [fsSlice, hT.sl.sl, boundOf, hi1]
theorem slice_cut0 {T e : TypeId} {τ : Ty} (hT : ElT P T e τ) (H : Heap) (b n : Nat) : fsSlice P T (.slice (some ⟨b, 0, none⟩) n 0) none (some (.int .i64 0)) none H = some (.slice (some ⟨b, 0, none⟩) 0 0) := by
  obtain ⟨i, z, hi1, _⟩ := hT.sl.info
  have e1 : Nat.ble 0 n = true := by rw [Nat.ble_eq]; exact Nat.zero_le _
  have e2 : Nat.ble 0 0 = true := rfl
  have e3 : Nat.beq 0 1 = false := rfl
  simp only [fsSlice, hT.sl.sl, boundOf, hi1]
  simp [e1, e2, e3, cutAt, markOf]
theorem zeros_len (z : Value) (n : Nat) : (zeros z n).length = n * z.cells.size := by simp [zeros]
theorem zeros_one {z : Value} (hz : z.cells.toList.all oneCell = true) (h0 : 0 < z.cells.size) (n : Nat) : (zeros z n).all oneCell = true := by
  rw [List.all_eq_true]
  intro x hx
  simp only [zeros, List.mem_map, List.mem_range] at hx
  obtain ⟨k, _, rfl⟩ := hx
  have hk : k % z.cells.size < z.cells.size := Nat.mod_lt _ h0
  rw [getElem!_pos z.cells _ hk]
  exact List.all_eq_true.1 hz _ (by rw [← Array.getElem_toList (h := by simpa using hk)]; exact List.getElem_mem _)
theorem af0_one {cs : List Value} (hc : cs.all af0 = true) : cs.all oneCell = true := by
  rw [List.all_eq_true] at hc ⊢
  intro x hx
  have := hc x hx
  cases x <;> first | rfl | simp_all [af0, oneCell]
theorem grow_made {T Ti e : TypeId} {τ : Ty} (hT : ElT P T e τ) (hTi : P.underlying Ti = some (.int .i64)) {k : Nat} (h1 : 0 < k) (hk : k ≤ 1000000) (hA : After h0 h) (hok0 : HOk h0) :
    ∃ h', fsAppend P #[T, Ti] (.slice none 0 0) (.int .i64 (k : Nat)) h = some (.slice (some ⟨h.next, 0, none⟩) k 0, h') ∧ CapR h' (ownB (.slice (some ⟨h.next, 0, none⟩) 0 0) ++ S) h0.next e k τ (.slice (some ⟨h.next, 0, none⟩) 0 0) [] ∧ After h h' ∧ Goes h S h' (ownB (.slice (some ⟨h.next, 0, none⟩) 0 0) ++ S) := by
  obtain ⟨i, z, hi1, hi2, hi3, hi3', hi4, hi5, hi6⟩ := hT.sl.info
  have hok := hA.ok hok0
  have hpos := hT.sl.pos
  have hb : k * i.bytes ≤ 274877906944 := by
    have := Nat.mul_le_mul hk hi3'
    omega
  refine ⟨h.push (.row e (zeros z k) true true), ?_, ⟨h.next, zeros z k, mem_own, hA.next, rfl, by rw [Heap.get_push, if_pos rfl], by rw [zeros_len, hi5], Nat.zero_le _, by simpa using Elems.nil⟩, After.push h _, fun b o hg hb => ?_⟩
  · have hap : appended i z (isInt (.int .i64)) (.int .i64 (k : Nat)) h = some (k, zeros z k) := by
      have hc : (decide (0 ≤ ((k : Nat) : Int)) && decide (((k : Nat) : Int) ≤ 1099511627776) && Nat.ble (k * i.bytes) 1099511627776 && z.cells.toList.all af0) = true := by
        have e1 : Nat.ble (k * i.bytes) 1099511627776 = true := by rw [Nat.ble_eq]; omega
        rw [e1, hi6]
        simp
        omega
      simp only [appended, isInt, cond_true, Int.toNat_natCast]
      rw [hc]; rfl
    unfold fsAppend
    simp only [List.getElem?_toArray, List.getElem?_cons_zero, List.getElem?_cons_succ, hT.sl.sl, hTi, hi1, hi4, hap, hi2]
    have hone : (zeros z k).all oneCell = true := zeros_one (af0_one hi6) (by omega) k
    have hc : (Nat.blt 0 τ.size && Nat.blt 0 i.bytes && Nat.beq (zeros z k).length (k * τ.size) && (zeros z k).all oneCell && Nat.beq z.cells.size τ.size) = true := by
      have e1 : Nat.blt 0 τ.size = true := by show Nat.ble 1 τ.size = true; rw [Nat.ble_eq]; exact hpos
      have e2 : Nat.blt 0 i.bytes = true := by show Nat.ble 1 i.bytes = true; rw [Nat.ble_eq]; exact hi3
      rw [e1, e2, zeros_len, hone, hi5, Nat.beq_refl, Nat.beq_refl]; rfl
    rw [hc]
    simp only [cond_true]
    unfold fsGrow
    have e1 : Nat.beq k 0 = false := beq_no (by omega)
    have e2 : Nat.ble (k * i.bytes) 274877906944 = true := by rw [Nat.ble_eq]; exact hb
    simp only [e1, cond_false, e2, cond_true, grown]
  · have := hok b o hg
    refine ⟨by rw [Heap.get_push, if_neg (by omega)]; exact hg, ?_⟩
    simp only [ownB, List.cons_append, List.nil_append, List.mem_cons, not_or]
    exact ⟨by omega, hb⟩
end Go.Fs
namespace Go.Fs
variable {P : Program} {orc : FuncId → List Value → Heap → Option (Value × Heap)} {h h' h0 : Heap} {fl : FL} {op : Op} {v : Value} {S S' S0 : List Nat} {ops : Array Oper} {n i mem : Nat} {K : FL → Heap → Prop} {l : List Oper} {d : Tmp} {ty : TypeId} {pos : String} {after : Array Edge} {bs : List Nat} {segs : List (Nat × Nat × Nat)} {tail : Bool}
theorem StepC.neg {T : TypeId} {x : Operand} {p : Int} (hx : evL fl x = some (.int .i64 p)) (h0 : -9223372036854775808 ≤ -p ∧ -p ≤ 9223372036854775807) : StepC P fl (.unOp .neg T x) (.int .i64 (-p)) := by
  have := StepC.un (P := P) (op := .neg) (T := T) (v := .int .i64 (IntKind.i64.wrap (0 - p))) hx rfl rfl
  rw [Int.zero_sub] at this
  rwa [wrap64 h0.1 h0.2] at this

theorem wrapU64 {n : Int} (h : 0 ≤ n ∧ n < 18446744073709551616) : IntKind.u64.wrap n = n := by
  unfold IntKind.wrap
  simp only [IntKind.bits, IntKind.signed, Bool.false_and]
  have e : (2 ^ 64 : Int) = 18446744073709551616 := by decide
  simp only [e]
  have := Int.emod_eq_of_lt h.1 h.2
  simp [this]
theorem StepC.convI {s d : TypeId} {x : Operand} {k k2 : IntKind} {t : TypeDesc} {p : Int} (hs : P.underlying s = some t) (hd : P.underlying d = some (.int k2)) (hx : evL fl x = some (.int k p)) (hw : k2.wrap p = p) : StepC P fl (.convert s d x) (.int k2 p) := by
  refine .conv hx rfl ?_
  unfold purely convert
  simp only [runPure_bind, runPure_underlying hs, runPure_underlying hd, Option.bind_some]
  show (runPure P (Conv.intToInt k2 p)).bind _ = _
  simp only [Conv.intToInt, runPure_pure, Option.bind_some, hw]
  rfl

/-- In a drawn region: an old thing is written, ordered behind all. -/
theorem XD.stL {b : Nat} {T : TypeId} {x y : Operand} {u w : Value} (hx : evL fl x = some u) (hy : evL fl y = some w) (hst : fsStore P T u w (entry h) = some h') (hb : beforeOf bs ⟨none, .store T x y, ty, pos, after, none⟩ = b) (ho : Nat.beq (mem &&& b) mem = true) (hnx : h'.next = h.next) (hlow : h'.low < h.next)
    (hk : ∀ h2, (∀ b, h2.get b = h'.get b) → h2.next = h'.next → h2.low ≤ h'.low → (∀ h0, After h0 h → After h0 h' → After h0 h2) → XD P orc ops n l (i + 1) fl h2 (bs ++ [b]) ((i, h.next, h2.next) :: segs) (mem ||| 2 ^ i) true K) :
    XD P orc ops n (⟨none, .store T x y, ty, pos, after, none⟩ :: l) i fl h bs segs mem tail K := fun t ht => by
  have hst' : stepO P ⟨none, .store T x y, ty, pos, after, none⟩ (evalO t) { next := h.next, low := h.next, objs := h.objs } = some (undef, h') := by
    show (fsStore P T (evalO t x) (evalO t y) _).map _ = _
    rw [evL_ok ht hx, evL_ok ht hy]
    unfold entry at hst
    rw [hst]; rfl
  have htl : (tail && !true) = false := by simp
  have hblt : Nat.blt h'.next h.next = false := blt_of_le (by omega)
  have hl : Nat.ble h.next h'.low = false := by
    cases hx : Nat.ble h.next h'.low with
    | false => rfl
    | true => have := nble hx; omega
  refine EvD.op (s' := ⟨t, { next := h'.next, low := min h.low h'.low, objs := h'.objs }, bs ++ [b], (i, h.next, h'.next) :: segs, mem ||| 2 ^ i, true⟩) ?_
    (hk { next := h'.next, low := min h.low h'.low, objs := h'.objs } (fun _ => rfl) rfl (Nat.min_le_right _ _) (fun h0 a1 a2 => ⟨a2.next, a2.get, a2.ok, fun e h3 h4 => Nat.le_min.2 ⟨a1.low e h3 h4, a2.low e h3 h4⟩⟩) t ht)
  unfold fsDraw
  simp only [fsWanted, show calm (Op.store T x y) = false from rfl, Bool.false_eq_true, if_false, hb, ho, htl, cond_false, cond_true, hst', hblt, hl]
  rfl
theorem GrowR.setL {e : TypeId} {m : Bool} {τ : Ty} {v u : Value} {xs : List τ.den} {x : τ.den} (hg : GrowR h S h0.next e m τ v xs) (hT : ValT P e τ) {j : Nat} (hj : j < xs.length) (hu : RepV h S τ u x) (hA : After h0 h) (hok : HOk h) :
    ∃ h', fsStore P e (ptrAt v τ.size j) u h = some h' ∧ GrowR h' S h0.next e m τ v (xs.set j x) ∧ After h0 h' ∧ Goes h S h' S ∧ h'.next = h.next ∧ (∀ b, b ∉ ownB v → h'.get b = h.get b) ∧ h'.low < h.next ∧ (∀ c ∈ ownB v, h'.low ≤ c) := by
  obtain ⟨b, rs, hbS, hlo, rfl, h4, h5⟩ := hg.own (by omega)
  have hjs : (j + 1) * τ.size ≤ xs.length * τ.size := Nat.mul_le_mul_right _ hj
  rw [Nat.add_mul, Nat.one_mul] at hjs
  have hrl := h5.1
  obtain ⟨i, hi, hs⟩ := hT.info
  have hul : u.cells.toList.length = τ.size := hu.2.len
  have hG : Goes h S (h.set b (.row e (splice rs (j * τ.size) u.cells.toList) true m)) S := fun c o hg hc => ⟨by rw [Heap.get_set h4, if_neg (fun e => hc (by rw [e]; exact hbS))]; exact hg, hc⟩
  refine ⟨h.set b (.row e (splice rs (j * τ.size) u.cells.toList) true m), ?_, .inr ⟨b, splice rs (j * τ.size) u.cells.toList, hbS, hlo, by rw [List.length_set], by rw [Heap.get_set h4, if_pos rfl], (elems_set h5 hj hu.2).nx hG⟩, hA.set h4 hlo, hG, rfl, fun c hc => ?_, ?_, fun c hc => ?_⟩
  · simp only [fsStore, ptrAt, h4, hi, hs, hul, hu.2.allOne, Nat.zero_add]
    rw [if_pos ⟨trivial, by omega, trivial⟩]
  · rw [Heap.get_set h4, if_neg (fun e => hc (by subst e; simp [ownB]))]
  · have := hok b _ h4
    show min h.low b < h.next
    omega
  · simp only [ownB, List.mem_singleton] at hc
    subst hc
    exact Nat.min_le_right _ _
/-- A variable that is made in a drawn region. -/
theorem XD.allocB {b : Nat} {e : TypeId} {z : Value} (hz : (P.info? e).bind (·.zero) = some z) (ha : af z = true) (ho : z.cells.toList.all oneCell = true) (hA : After h0 h) (hok0 : HOk h0) (hb : beforeOf bs ⟨some d, .alloc e, ty, pos, after, none⟩ = b) (htl : (tail && !Nat.beq (mem &&& b) mem) = false) (hn : Nat.blt d n = true) (h4 : Nat.ble n 4000 = true)
    (hk : ∀ p h', BoxR h' h0.next p z.cells.toList → After h h' → (∀ S, Goes h S h' (ownP p ++ S)) → XD P orc ops n l (i + 1) ((d, p) :: fl) h' (bs ++ [b]) ((i, h.next, h'.next) :: segs) (mem ||| 2 ^ i) tail K) :
    XD P orc ops n (⟨some d, .alloc e, ty, pos, after, none⟩ :: l) i fl h bs segs mem tail K := fun t ht => by
  obtain ⟨t', h1, h2⟩ := put_ok (v := .pointer (some ⟨h.next, 0, none⟩)) hn h4 t ht
  refine EvD.op (s' := ⟨t', h.push (.row e z.cells.toList true false), bs ++ [b], (i, h.next, h.next + 1) :: segs, mem ||| 2 ^ i, tail⟩) ?_ (hk _ _ (BoxR.new (S := []) hA hok0).1 (After.push h _) (fun S => (BoxR.new hA hok0).2.2) t' h2)
  unfold fsDraw
  have hs : ∀ H, stepO P ⟨some d, .alloc e, ty, pos, after, none⟩ (evalO t) H = some (.pointer (some ⟨H.next, 0, none⟩), H.push (.row e z.cells.toList true false)) := fun H => (StepN.alloc (h := H) hz ha ho).2 t ht (some d) ty pos after none
  simp only [fsWanted, show calm (Op.alloc e) = false from rfl, Bool.false_eq_true, if_false, hb, htl, cond_false, hs]
  have hlt : Nat.blt (h.next + 1) h.next = false := blt_of_le (Nat.le_succ _)
  simp only [Heap.push, hlt, cond_false, h1, ble_refl', cond_true]
  have hnew : newer h.next (h.next + 1) ((h.next, AObj.row e (z.cells.toList) true false) :: (bif Nat.beq (mem &&& b) mem then h.objs else mask b segs h.objs)) = [(h.next, AObj.row e (z.cells.toList) true false)] := by
    unfold newer
    rw [beq_no (show h.next ≠ h.next + 1 by omega)]
    simp only [cond_false]
    rw [List.filter_cons]
    have e1 : inside h.next (h.next + 1) (h.next, AObj.row e (z.cells.toList) true false) = true := by
      unfold inside
      have : Nat.blt h.next (h.next + 1) = true := by show Nat.ble (h.next + 1) (h.next + 1) = true; exact ble_refl' _
      simp only [ble_refl', this, Bool.and_self]
    rw [if_pos e1]
    congr 1
    refine List.filter_eq_nil_iff.2 fun p hp hin => ?_
    obtain ⟨k, o⟩ := p
    have hk1 : h.next ≤ k := by
      unfold inside at hin
      exact nble (band hin).1
    have hex : ∃ o', look (bif Nat.beq (mem &&& b) mem then h.objs else mask b segs h.objs) k = some o' := by
      clear hin
      generalize (bif Nat.beq (mem &&& b) mem then h.objs else mask b segs h.objs) = L at hp
      induction L with
      | nil => cases hp
      | cons q r ih =>
        obtain ⟨k', o'⟩ := q
        by_cases hkk : k' = k
        · exact ⟨o', by simp [look, hkk]⟩
        · rcases List.mem_cons.1 hp with hp | hp
          · simp only [Prod.mk.injEq] at hp; exact absurd hp.1.symm hkk
          · obtain ⟨o2, h2⟩ := ih hp
            exact ⟨o2, by simp only [look, beq_no hkk, cond_false, h2]⟩
    obtain ⟨o', ho'⟩ := hex
    have hlk : look h.objs k = some o' := by
      cases hx : Nat.beq (mem &&& b) mem with
      | true => rw [hx] at ho'; exact ho'
      | false => rw [hx] at ho'; exact mask_sees segs h.objs ho'
    have := (hA.ok hok0) k o' hlk
    omega
  rw [hnew]
  rfl

/-- What a function that writes its caller's slice hands back. -/
def Wrote (h h' : Heap) (S : List Nat) (h0 : Heap) (e : TypeId) (m : Bool) (τ : Ty) (v : Value) (xs ys : List τ.den) : Prop :=
  GrowR h' (ownB v ++ S) h0.next e m τ v ys ∧ After h0 h' ∧ Goes h (ownB v ++ S) h' (ownB v ++ S) ∧ ((h' = h ∧ ys = xs) ∨ h'.low < h.next)
theorem leftOf_low {h1 : Heap} (hl : h1.low < h.next) (v : Value) : leftOf h h1 v = { next := h1.next, low := min h.low h1.low, objs := h1.objs } := by
  unfold leftOf
  have : Nat.ble h.next h1.low = false := by
    cases hx : Nat.ble h.next h1.low with
    | false => rfl
    | true => have := nble hx; omega
  rw [this, Bool.and_false]; rfl
theorem own_ret {h1 : Heap} {e : TypeId} {m : Bool} {τ : Ty} {v : Value} {xs ys : List τ.den} (hA0 : After h0 h) (hg0 : GrowR h (ownB v ++ S) h0.next e m τ v xs) (hA : After h0 h1) (hg : GrowR h1 (ownB v ++ S) h0.next e m τ v ys) (hN : Goes (entry h) (ownB v ++ S) h1 (ownB v ++ S)) (kp : (h1 = entry h ∧ ys = xs) ∨ h1.low < h.next) :
    Wrote h (leftOf h h1 (.tuple #[])) S h0 e m τ v xs ys := by
  rcases kp with ⟨rfl, rfl⟩ | hl
  · have : leftOf h (entry h) (.tuple #[]) = h := by
      unfold leftOf
      have : Nat.ble h.next (entry h).low = true := by rw [Nat.ble_eq]; exact Nat.le_refl _
      rw [this]; rfl
    rw [this]
    exact ⟨hg0, hA0, Goes.refl, .inl ⟨rfl, rfl⟩⟩
  · rw [leftOf_low hl]
    have hG : Goes h1 (ownB v ++ S) { next := h1.next, low := min h.low h1.low, objs := h1.objs } (ownB v ++ S) := Goes.objs fun _ => rfl
    refine ⟨hg.chg (fun _ _ => rfl) hG (fun b hb => List.mem_append_left _ hb), ⟨hA.next, hA.get, hA.ok, fun e h3 h4 => Nat.le_min.2 ⟨hA0.low e h3 h4, hA.low e h3 h4⟩⟩, ((show Goes h (ownB v ++ S) (entry h) (ownB v ++ S) from Goes.objs fun _ => rfl).trans hN).trans hG, .inr ?_⟩
    show min h.low h1.low < h.next
    omega
theorem endF.none {fn : Func} {h1 : Heap} {QF : Value → Heap → Prop} {e : Ex} {t : Tr} {n : Nat} (he : e.goes = true) (hr : fn.results = #[]) (hq : QF (.tuple #[]) (leftOf h h1 (.tuple #[]))) : endF P fn h QF e ⟨t, n, []⟩ h1 :=
  ⟨he, h1, [], rfl, by rw [hr]; rfl, hq⟩
theorem own_in {lo : Nat} {e : TypeId} {m : Bool} {τ : Ty} {v : Value} {xs : List τ.den} (hg : GrowR h (ownB v ++ S) lo e m τ v xs) (hok : HOk h) (h0 : 0 < xs.length) : ∃ c ∈ ownB v, c < h.next := by
  obtain ⟨b, rs, _, _, rfl, h4, _⟩ := hg.own h0
  exact ⟨b, by simp [ownB], hok b _ h4⟩
/-- An own slice that is handed back. -/
theorem GrowR.ret {h1 : Heap} {lo : Nat} {e : TypeId} {m : Bool} {τ : Ty} {w : Value} {xs : List τ.den} (hg : GrowR h1 S lo e m τ w xs) (a : After (entry h) h1) : GrowR (leftOf h h1 w) S lo e m τ w xs := by
  rcases hg with hg | ⟨b, rs, m1, m2, rfl, m4, m5⟩
  · exact .inl hg
  · exact .inr ⟨b, rs, m1, m2, rfl, by rw [leftOf_get a rfl]; exact m4, m5.nx (leftOf_nx a rfl)⟩
theorem GrowR.weak {lo lo' : Nat} {e : TypeId} {m : Bool} {τ : Ty} {v : Value} {xs : List τ.den} (hg : GrowR h S lo e m τ v xs) (hl : lo' ≤ lo) : GrowR h S lo' e m τ v xs := by
  rcases hg with hg | ⟨b, rs, h1, h2, h3⟩
  · exact .inl hg
  · exact .inr ⟨b, rs, h1, Nat.le_trans hl h2, h3⟩
theorem GrowR.goes {e : TypeId} {m : Bool} {τ : Ty} {v : Value} {xs : List τ.den} (hg : GrowR h' S' h.next e m τ v xs) (ha : After h h') (hok : HOk h) : Goes h S h' (ownB v ++ S) := by
  intro c o hc hcS
  have := hok c o hc
  refine ⟨by rw [ha.get c this]; exact hc, ?_⟩
  rcases hg with ⟨rfl, _⟩ | ⟨b, rs, h1, h2, rfl, _⟩
  · exact fun hm => hcS (by simpa [ownB] using hm)
  · simp only [ownB, List.cons_append, List.nil_append, List.mem_cons, not_or]
    exact ⟨by omega, hcS⟩
end Go.Fs
namespace Go.Proofs
open Go.Fs
set_option linter.unusedVariables false
theorem vt58 : ValT Tryz.prog 58 (.pair (.int .i64) (.int .i64)) := valT_of (by kernel_rfl)
/-! ## Quotients in lowest terms -/
def lowE (n d : Int) : Int × Int := (n.tdiv (Int.gcd n d), d.tdiv (Int.gcd n d))
theorem gcd_pos {n d : Int} (hd : 0 < d) : 0 < Int.gcd n d := Int.gcd_pos_of_ne_zero_right _ (by omega)
theorem lowB {n : Int} {g : Nat} {B : Int} (h0 : 0 < g) (h : -B ≤ n ∧ n ≤ B) (hB : 0 ≤ B) : -B ≤ n.tdiv g ∧ n.tdiv g ≤ B := by
  have h1 : (n.tdiv g).natAbs = n.natAbs / g := by rw [Int.natAbs_tdiv]; rfl
  have h2 : n.natAbs / g ≤ n.natAbs := Nat.div_le_self _ _
  omega
theorem gcd_end {n d : Int} {g b : Nat} (h : Nat.gcd g b = Int.gcd n d) (hb : ¬ ((b : Nat) : Int) ≠ 0) : g = Int.gcd n d := by
  have : b = 0 := by omega
  subst this
  simpa using h
theorem gcd_step {a b : Nat} {G : Nat} (h : Nat.gcd a b = G) (hb : ((b : Nat) : Int) ≠ 0) : Nat.gcd b (a % b) = G := by
  rw [← h, Nat.gcd_comm a b, Nat.gcd_rec b a]
  exact Nat.gcd_comm _ _
theorem sRatio_ok {h : Heap} {S : List Nat} {num : Int} {den : Int} (hok : HOk h) (hS : ∀ b ∈ S, b < h.next) (hn : 0 ≤ num ∧ num ≤ 9000000000000) (hd : 0 < den ∧ den ≤ 9000000000000) : EvF Tryz.prog OA 113 [.int .i64 num, .int .i64 den] h fun r h' => r = .agg #[.int .i64 ((lowE num den).1), .int .i64 ((lowE num den).2)] ∧ h' = h := by
  refine XF.enter Tryz.func113 rfl rfl rfl ?_
  have hok : HOk (entry h) := hok
  have hA := After.refl (entry h)
  show XC Tryz.prog OA none _ _ [] [(0, .int .i64 num), (1, .int .i64 den)] (entry h) _
  refine XC.seq ?_
  refine XC.text ?_
  refine XO.allocB (z := .agg #[.int .i64 0, .int .i64 0]) (by kernel_rfl) rfl rfl hA hok rfl rfl ?_
  intro p101 h101 b101 a101 gs101
  have ok102 := hA.ok hok
  have gg102 : Goes (entry h) S h101 (ownP p101 ++ S) := gs101 _
  replace hA := hA.trans a101
  refine XO.nil (thenC.go ?_)
  refine XC.seq ?_
  refine XC.text ?_
  refine XO.c (.move rfl) rfl rfl ?_
  refine XO.c (.move rfl) rfl rfl ?_
  refine XO.c (.assign rfl) rfl rfl ?_
  refine XO.c (.assign rfl) rfl rfl ?_
  refine XO.nil (thenC.go ?_)
  refine XC.seq ?_
  refine XC.block ?_
  have hAL103 := hA
  have hkL103 := hA.ok hok
  have hSL103 := (b101.inS (hA.ok hok) (hA.inS hS))
  have b101L103 := b101
  refine XC.keep [(0, .int .i64 num), (1, .int .i64 den), (4, p101), (5, .int .i64 ((num.toNat : Nat) : Int)), (6, .int .i64 ((den.toNat : Nat) : Int))] ⟨rfl, rfl, rfl, (congrArg (fun z => some z) (by exact congrArg _ (Int.toNat_of_nonneg hn.1).symm)), (congrArg (fun z => some z) (by exact congrArg _ (Int.toNat_of_nonneg (by omega)).symm)), trivial⟩ ?_
  refine XC.loopI (I := fun (kk : Nat) (ff : FL) (hh : Heap) => ∃ (a : Nat) (b : Nat), kk = b ∧ ff = [(0, .int .i64 num), (1, .int .i64 den), (4, p101), (5, .int .i64 ((a : Nat) : Int)), (6, .int .i64 ((b : Nat) : Int))] ∧ After (entry h) hh ∧ After h101 hh ∧ Goes h101 (ownP p101 ++ S) hh (ownP p101 ++ S) ∧ (Nat.gcd a b = Int.gcd num den)) ?_ _ _ _ ⟨num.toNat, den.toNat, rfl, rfl, hA, After.refl _, Goes.refl, (by show Nat.gcd num.toNat den.toNat = Nat.gcd num.natAbs den.natAbs; congr 1 <;> omega)⟩
  clear hA
  rintro kk ff hh103 ⟨a, b, hk103, rfl, hA, aL103, nL103, hg⟩
  replace b101 := b101.keep aL103 hkL103
  refine XC.seq ?_
  refine XC.seq ?_
  refine XC.text ?_
  refine XO.c (.move rfl) rfl rfl ?_
  refine XO.c (.neq rfl rfl) rfl rfl ?_
  refine XO.nil (thenC.go ?_)
  refine XC.condD rfl (fun c2 => ?_) (fun c2 => ?_)
  · refine XC.skip (thenC.go ?_)
    refine XC.block ?_
    refine XC.drawn ?_
    have hkr104 := hA.ok hok
    have hSr104 := (b101.inS (hA.ok hok) (hA.inS hS))
    refine XD.c (b := 0) (.move rfl) rfl rfl rfl ?_
    refine XD.c (b := 0) (.move rfl) rfl rfl rfl ?_
    refine XD.c (b := 0) (.move rfl) rfl rfl rfl ?_
    refine XD.c (b := 6) (.rem rfl rfl (by exact c2)) rfl rfl rfl ?_
    refine XD.c (b := 3) (.assign rfl) rfl rfl rfl ?_
    refine XD.c (b := 31) (.assign rfl) rfl rfl rfl ?_
    refine XD.nil ?_
    intro tf htf
    refine inBlock_nrm ?_
    refine ⟨rfl, rfl, _, [(0, .int .i64 num), (1, .int .i64 den), (4, p101), (5, .int .i64 ((b : Nat) : Int)), (6, .int .i64 (((a % b) : Nat) : Int))], ?_, htf.keep _ ⟨rfl, rfl, rfl, rfl, (congrArg (fun z => some z) (by exact congrArg _ (Int.ofNat_tmod a b).symm)), trivial⟩, b, (a % b), rfl, rfl, hA, aL103, nL103, (by exact gcd_step hg c2)⟩
    have h9 := Nat.mod_lt a (show 0 < b by omega); omega
  · refine XC.exit ?_
    intro tf htf
    refine thenC_exit ?_
    refine loopQ_exit ?_
    refine inBlock_eq ?_
    refine thenC.go ?_ tf htf
    refine XC.seq ?_
    refine XC.drawn ?_
    have hkr105 := hA.ok hok
    have hSr105 := (b101.inS (hA.ok hok) (hA.inS hS))
    have ea := gcd_end hg c2
    have hp := gcd_pos (n := num) (d := den) hd.1
    have b1 := lowB (n := num) (B := 9000000000000) (show 0 < a by omega) (by omega) (by omega)
    have b2 := lowB (n := den) (B := 9000000000000) (show 0 < a by omega) (by omega) (by omega)
    refine XD.c (b := 0) (.move rfl) rfl rfl rfl ?_
    refine XD.c (b := 0) (.move rfl) rfl rfl rfl ?_
    refine XD.c (b := 3) (.quo rfl rfl (by omega) (by omega)) rfl rfl rfl ?_
    refine XD.c (b := 0) (.move rfl) rfl rfl rfl ?_
    refine XD.c (b := 0) (.move rfl) rfl rfl rfl ?_
    refine XD.c (b := 24) (.quo rfl rfl (by omega) (by omega)) rfl rfl rfl ?_
    refine XD.c (b := 63) (.buildS (vs := [.int .i64 (num.tdiv ((a : Nat) : Int)), .int .i64 (den.tdiv ((a : Nat) : Int))]) ⟨⟨rfl, rfl⟩, ⟨⟨rfl, rfl⟩, trivial⟩⟩ (by kernel_rfl) rfl) rfl rfl rfl ?_
    obtain ⟨h106, e106, b106, a106, n106, nn106, fr106, lw106⟩ := (b101.objs (h' := (entry hh103)) fun _ => rfl).st0 (S := S) (h0 := entry h) (u := .agg #[.int .i64 (num.tdiv ((a : Nat) : Int)), .int .i64 (den.tdiv ((a : Nat) : Int))]) vt58 rfl rfl (Nat.le_of_ble_eq_true rfl) (One.oneAll ⟨⟨rfl, rfl⟩, ⟨⟨rfl, rfl⟩, trivial⟩⟩) hA.toEntry (show HOk (entry hh103) from hA.ok hok)
    refine XD.st (b := 127) rfl rfl e106 rfl rfl (hA.ok hok) nn106 (a106.ok hok) (fun hl => absurd hl (by have := lw106; simp only [entry] at this; omega)) ?_
    intro hh106 tt106 o106 nx106 la106
    have ah106 := la106 _ hA a106
    replace b106 := b106.objs o106
    have gh106 : Goes hh103 (ownP p101 ++ S) hh106 (ownP p101 ++ S) := (show Goes hh103 (ownP p101 ++ S) (entry hh103) (ownP p101 ++ S) from Goes.objs fun _ => rfl).trans (n106.trans (Goes.objs o106))
    replace fr106 : ∀ b, b ∉ ownP p101 → hh106.get b = hh103.get b := fun b hb => (o106 b).trans (fr106 b hb)
    have ok107 := hA.ok hok
    have gg107 : Goes hh103 (ownP p101 ++ S) hh106 (ownP p101 ++ S) := gh106
    replace hA := ah106
    refine XD.nil (thenC.go ?_)
    refine XC.ret fun tf htf => ?_
    refine endF.cell rfl rfl (htf 4 _ rfl) (b106.ldA vt58 rfl rfl) ?_
    refine ⟨?_, hA.leftAf rfl⟩
    rw [ea]; rfl
theorem rLowest_ok {h : Heap} {S : List Nat} {num : Int} {den : Int} (hok : HOk h) (hS : ∀ b ∈ S, b < h.next) (hn : -9000000000000 ≤ num ∧ num ≤ 9000000000000) (hd : 0 < den ∧ den ≤ 9000000000000) : EvF Tryz.prog OA 122 [.int .i64 num, .int .i64 den] h fun r h' => r = .agg #[.int .i64 ((lowE num den).1), .int .i64 ((lowE num den).2)] ∧ h' = h := by
  refine XF.enter Tryz.func122 rfl rfl rfl ?_
  have hok : HOk (entry h) := hok
  have hA := After.refl (entry h)
  show XC Tryz.prog OA none _ _ [] [(0, .int .i64 num), (1, .int .i64 den)] (entry h) _
  refine XC.seq ?_
  refine XC.text ?_
  refine XO.allocB (z := .agg #[.int .i64 0, .int .i64 0]) (by kernel_rfl) rfl rfl hA hok rfl rfl ?_
  intro p108 h108 b108 a108 gs108
  have ok109 := hA.ok hok
  have gg109 : Goes (entry h) S h108 (ownP p108 ++ S) := gs108 _
  replace hA := hA.trans a108
  refine XO.nil (thenC.go ?_)
  refine XC.seq ?_
  refine XC.seq ?_
  refine XC.text ?_
  refine XO.c (.move rfl) rfl rfl ?_
  refine XO.c (.lss rfl rfl) rfl rfl ?_
  refine XO.nil (thenC.go ?_)
  refine XC.condD rfl (fun c1 => ?_) (fun c1 => ?_)
  · exact absurd c1 (by omega)
  · refine XC.skip (thenC.go ?_)
    refine XC.seq ?_
    refine XC.text ?_
    refine XO.c (.move rfl) rfl rfl ?_
    refine XO.c (.move rfl) rfl rfl ?_
    refine XO.c (.neg rfl (by omega)) rfl rfl ?_
    refine XO.a (.max rfl rfl) rfl rfl ?_
    refine XO.c (.move rfl) rfl rfl ?_
    refine XO.c (.assign rfl) rfl rfl ?_
    refine XO.c (.assign rfl) rfl rfl ?_
    refine XO.nil (thenC.go ?_)
    refine XC.seq ?_
    refine XC.block ?_
    have hAL110 := hA
    have hkL110 := hA.ok hok
    have hSL110 := (b108.inS (hA.ok hok) (hA.inS hS))
    have b108L110 := b108
    refine XC.keep [(0, .int .i64 num), (1, .int .i64 den), (4, p108), (5, .int .i64 ((num.natAbs : Nat) : Int)), (6, .int .i64 ((den.toNat : Nat) : Int))] ⟨rfl, rfl, rfl, (congrArg (fun z => some z) (by exact congrArg _ (by omega))), (congrArg (fun z => some z) (by exact congrArg _ (Int.toNat_of_nonneg (by omega)).symm)), trivial⟩ ?_
    refine XC.loopI (I := fun (kk : Nat) (ff : FL) (hh : Heap) => ∃ (a : Nat) (b : Nat), kk = b ∧ ff = [(0, .int .i64 num), (1, .int .i64 den), (4, p108), (5, .int .i64 ((a : Nat) : Int)), (6, .int .i64 ((b : Nat) : Int))] ∧ After (entry h) hh ∧ After h108 hh ∧ Goes h108 (ownP p108 ++ S) hh (ownP p108 ++ S) ∧ (Nat.gcd a b = Int.gcd num den)) ?_ _ _ _ ⟨num.natAbs, den.toNat, rfl, rfl, hA, After.refl _, Goes.refl, (by show Nat.gcd num.natAbs den.toNat = Nat.gcd num.natAbs den.natAbs; congr 1; omega)⟩
    clear hA
    rintro kk ff hh110 ⟨a, b, hk110, rfl, hA, aL110, nL110, hg⟩
    replace b108 := b108.keep aL110 hkL110
    refine XC.seq ?_
    refine XC.seq ?_
    refine XC.text ?_
    refine XO.c (.move rfl) rfl rfl ?_
    refine XO.c (.neq rfl rfl) rfl rfl ?_
    refine XO.nil (thenC.go ?_)
    refine XC.condD rfl (fun c4 => ?_) (fun c4 => ?_)
    · refine XC.skip (thenC.go ?_)
      refine XC.block ?_
      refine XC.drawn ?_
      have hkr111 := hA.ok hok
      have hSr111 := (b108.inS (hA.ok hok) (hA.inS hS))
      refine XD.c (b := 0) (.move rfl) rfl rfl rfl ?_
      refine XD.c (b := 0) (.move rfl) rfl rfl rfl ?_
      refine XD.c (b := 0) (.move rfl) rfl rfl rfl ?_
      refine XD.c (b := 6) (.rem rfl rfl (by exact c4)) rfl rfl rfl ?_
      refine XD.c (b := 3) (.assign rfl) rfl rfl rfl ?_
      refine XD.c (b := 31) (.assign rfl) rfl rfl rfl ?_
      refine XD.nil ?_
      intro tf htf
      refine inBlock_nrm ?_
      refine ⟨rfl, rfl, _, [(0, .int .i64 num), (1, .int .i64 den), (4, p108), (5, .int .i64 ((b : Nat) : Int)), (6, .int .i64 (((a % b) : Nat) : Int))], ?_, htf.keep _ ⟨rfl, rfl, rfl, rfl, (congrArg (fun z => some z) (by exact congrArg _ (Int.ofNat_tmod a b).symm)), trivial⟩, b, (a % b), rfl, rfl, hA, aL110, nL110, (by exact gcd_step hg c4)⟩
      have h9 := Nat.mod_lt a (show 0 < b by omega); omega
    · refine XC.exit ?_
      intro tf htf
      refine thenC_exit ?_
      refine loopQ_exit ?_
      refine inBlock_eq ?_
      refine thenC.go ?_ tf htf
      refine XC.seq ?_
      refine XC.drawn ?_
      have hkr112 := hA.ok hok
      have hSr112 := (b108.inS (hA.ok hok) (hA.inS hS))
      have ea := gcd_end hg c4
      have hp := gcd_pos (n := num) (d := den) hd.1
      have b1 := lowB (n := num) (B := 9000000000000) (show 0 < a by omega) (by omega) (by omega)
      have b2 := lowB (n := den) (B := 9000000000000) (show 0 < a by omega) (by omega) (by omega)
      refine XD.c (b := 0) (.move rfl) rfl rfl rfl ?_
      refine XD.c (b := 0) (.move rfl) rfl rfl rfl ?_
      refine XD.c (b := 3) (.quo rfl rfl (by omega) (by omega)) rfl rfl rfl ?_
      refine XD.c (b := 0) (.move rfl) rfl rfl rfl ?_
      refine XD.c (b := 0) (.move rfl) rfl rfl rfl ?_
      refine XD.c (b := 24) (.quo rfl rfl (by omega) (by omega)) rfl rfl rfl ?_
      refine XD.c (b := 63) (.buildS (vs := [.int .i64 (num.tdiv ((a : Nat) : Int)), .int .i64 (den.tdiv ((a : Nat) : Int))]) ⟨⟨rfl, rfl⟩, ⟨⟨rfl, rfl⟩, trivial⟩⟩ (by kernel_rfl) rfl) rfl rfl rfl ?_
      obtain ⟨h113, e113, b113, a113, n113, nn113, fr113, lw113⟩ := (b108.objs (h' := (entry hh110)) fun _ => rfl).st0 (S := S) (h0 := entry h) (u := .agg #[.int .i64 (num.tdiv ((a : Nat) : Int)), .int .i64 (den.tdiv ((a : Nat) : Int))]) vt58 rfl rfl (Nat.le_of_ble_eq_true rfl) (One.oneAll ⟨⟨rfl, rfl⟩, ⟨⟨rfl, rfl⟩, trivial⟩⟩) hA.toEntry (show HOk (entry hh110) from hA.ok hok)
      refine XD.st (b := 127) rfl rfl e113 rfl rfl (hA.ok hok) nn113 (a113.ok hok) (fun hl => absurd hl (by have := lw113; simp only [entry] at this; omega)) ?_
      intro hh113 tt113 o113 nx113 la113
      have ah113 := la113 _ hA a113
      replace b113 := b113.objs o113
      have gh113 : Goes hh110 (ownP p108 ++ S) hh113 (ownP p108 ++ S) := (show Goes hh110 (ownP p108 ++ S) (entry hh110) (ownP p108 ++ S) from Goes.objs fun _ => rfl).trans (n113.trans (Goes.objs o113))
      replace fr113 : ∀ b, b ∉ ownP p108 → hh113.get b = hh110.get b := fun b hb => (o113 b).trans (fr113 b hb)
      have ok114 := hA.ok hok
      have gg114 : Goes hh110 (ownP p108 ++ S) hh113 (ownP p108 ++ S) := gh113
      replace hA := ah113
      refine XD.nil (thenC.go ?_)
      refine XC.ret fun tf htf => ?_
      refine endF.cell rfl rfl (htf 4 _ rfl) (b113.ldA vt58 rfl rfl) ?_
      refine ⟨?_, hA.leftAf rfl⟩
      rw [ea]; rfl
end Go.Proofs
