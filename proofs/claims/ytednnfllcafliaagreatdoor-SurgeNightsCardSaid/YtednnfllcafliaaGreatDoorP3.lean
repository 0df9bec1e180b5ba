/- Variables that are written once, slices that are made and written, closures. No condition. Structs of two whole numbers, compared. No condition. The evaluator is sound: code. No condition. From the evaluator's runs to the model's calls. No condition. Two functions of Go's library by their contracts: an oracle for the evaluator. No condition. A closed call that answers true, as an oracle. No condition. -/
import Derived.Test.YtednnfllcafliaaGreatDoorP2
import Derived.Test.YtednnfllcafliaaGreatDoorP1
import Derived.Scope
import Derived.Lib.ItoaNum
import Derived.Lib.Join
import Derived.Test.YtednnfllcafliaaGreatDoorChecked
set_option linter.all false
namespace Go.Fs
variable {P : Program} {orc : FuncId → List Value → Heap → Option (Value × Heap)} {rnd : Option Nat} {h h' h0 h1 h2 hs : Heap} {ops : Array Oper} {n i mem b : Nat} {fl : FL} {K : FL → Heap → Prop} {l : List Oper} {bs : List Nat} {segs : List (Nat × Nat × Nat)} {tail : Bool}
  {d : Tmp} {ty : TypeId} {pos : String} {after : Array Edge} {op : Op} {v : Value} {S S' S0 : List Nat} {ms : List Nat} {Q : Ex → Fr → Heap → Prop} {c : Code}

/-- A variable that is made, and will be written once. -/
def Pend (h : Heap) (lo : Nat) (S : List Nat) (p : Value) (m : Nat) : Prop := ∃ b e cs, p = .pointer (some ⟨b, 0, none⟩) ∧ lo ≤ b ∧ b ∉ S ∧ h.get b = some (.row e cs true false) ∧ cs.length = m
theorem Pend.keep {lo m : Nat} {p : Value} (hp : Pend h lo S p m) (ha : After h h') (hok : HOk h) : Pend h' lo S p m := by
  obtain ⟨b, e, cs, h1, h2, h3, h4, h5⟩ := hp
  exact ⟨b, e, cs, h1, h2, h3, by rw [ha.get b (hok b _ h4)]; exact h4, h5⟩
theorem Pend.inS {lo m : Nat} {p : Value} (hp : Pend h lo S p m) (hok : HOk h) (hS : ∀ b ∈ S', b < h.next) : ∀ b ∈ ownP p ++ S', b < h.next := by
  obtain ⟨b, e, cs, rfl, h2, h3, h4, h5⟩ := hp
  intro i hi
  rcases List.mem_append.1 hi with hi | hi
  · simp only [ownP, List.mem_singleton] at hi; subst hi; exact hok _ _ h4
  · exact hS i hi
theorem XO.allocP {e : TypeId} {z : Value} (hz : (P.info? e).bind (·.zero) = some z) (ha : af z = true) (ho : z.cells.toList.all oneCell = true) (hA : After h0 h) (hok0 : HOk h0) (hS : ∀ b ∈ S, b < h.next) (hn : Nat.blt d n = true) (h4 : Nat.ble n 4000 = true)
    (hk : ∀ p h', Pend h' h0.next S p z.cells.toList.length → After h h' → Goes h S h' (ownP p ++ S) → XO P orc ops n l ((d, p) :: fl) h' K) : XO P orc ops n (⟨some d, .alloc e, ty, pos, after, none⟩ :: l) fl h K :=
  XO.mk (.alloc hz ha ho) hn h4 (hk _ _ ⟨h.next, e, z.cells.toList, rfl, hA.next, fun hm => by have := hS _ hm; omega, by rw [Heap.get_push, if_pos rfl], rfl⟩ (After.push h _) (BoxR.new hA hok0).2.2)
theorem splice_all {cs us : List Value} (hl : us.length = cs.length) : splice cs 0 us = us := by
  unfold splice
  rw [List.take_zero, List.nil_append, Nat.zero_add, hl, List.drop_length, List.append_nil]
theorem XO.stP {T : TypeId} {x y : Operand} {u p : Value} {τ : Ty} {w : τ.den} (hx : evL fl x = some p) (hy : evL fl y = some u) (hp : Pend h h0.next S p τ.size) (hu : RepV h (ownP p ++ S) τ u w) (hT : ValT P T τ) (hA : After h0 h)
    (hk : ∀ h', RepP h' S τ p w → After h0 h' → Goes h (ownP p ++ S) h' S → h'.next = h.next → (∀ b ∈ S, h'.get b = h.get b) → XO P orc ops n l fl h' K) : XO P orc ops n (⟨none, .store T x y, ty, pos, after, none⟩ :: l) fl h K := by
  obtain ⟨b, e, cs, rfl, h2, h3, h4, h5⟩ := hp
  obtain ⟨i, hi, hs⟩ := hT.info
  have hul : u.cells.toList.length = τ.size := hu.2.len
  have hst : fsStore P T (.pointer (some ⟨b, 0, none⟩)) u h = some (h.set b (.row e u.cells.toList true false)) := by
    have hsp : splice cs 0 u.cells.toList = u.cells.toList := splice_all (by omega)
    simp only [fsStore, h4, hi, hs, hul, hu.2.allOne]
    rw [if_pos ⟨trivial, by omega, trivial⟩, hsp]
  have hG : Goes h (ownP (.pointer (some ⟨b, 0, none⟩)) ++ S) (h.set b (.row e u.cells.toList true false)) S := fun c o hg hc => by
    simp only [ownP, List.cons_append, List.nil_append, List.mem_cons, not_or] at hc
    exact ⟨by rw [Heap.get_set h4, if_neg hc.1]; exact hg, hc.2⟩
  refine XO.st hx hy hst (hk _ ⟨b, 0, e, u.cells.toList, true, false, rfl, h3, by rw [Heap.get_set h4, if_pos rfl], by omega, ?_⟩ (hA.set h4 h2) hG rfl fun c hc => ?_)
  · rw [List.drop_zero, List.take_of_length_le (by omega)]
    exact hu.2.nx hG
  · rw [Heap.get_set h4, if_neg (fun e => h3 (by subst e; exact hc))]

/-- The function's own slices, as the heap goes on. -/
theorem GrowR.up {lo : Nat} {e : TypeId} {m : Bool} {τ : Ty} {v : Value} {xs : List τ.den} (hg : GrowR h S lo e m τ v xs) (ha : After h h') (hok : HOk h) (hN : Goes h S h' S') (hs : ∀ b ∈ ownB v, b ∈ S') : GrowR h' S' lo e m τ v xs := by
  rcases hg with hg | ⟨b, rs, h1, h2, rfl, h4, h5⟩
  · exact .inl hg
  · exact .inr ⟨b, rs, hs b (by simp [ownB]), h2, rfl, by rw [ha.get b (hok b _ h4)]; exact h4, h5.nx hN⟩
theorem GrowR.chg {lo : Nat} {e : TypeId} {m : Bool} {τ : Ty} {v : Value} {xs : List τ.den} (hg : GrowR h S lo e m τ v xs) (hget : ∀ b ∈ ownB v, h'.get b = h.get b) (hN : Goes h S h' S') (hs : ∀ b ∈ ownB v, b ∈ S') : GrowR h' S' lo e m τ v xs := by
  rcases hg with hg | ⟨b, rs, h1, h2, rfl, h4, h5⟩
  · exact .inl hg
  · exact .inr ⟨b, rs, hs b (by simp [ownB]), h2, rfl, by rw [hget b (by simp [ownB])]; exact h4, h5.nx hN⟩

/-! ## 'make([]T, n)', and elements that are written -/
theorem zeros1 {z : Value} (hz : z.cells.size = 1) (n : Nat) : zeros z n = List.replicate n (z.cells[0]'(by omega)) := by
  unfold zeros
  rw [show n * z.cells.size = n by rw [hz, Nat.mul_one]]
  refine List.ext_getElem (by simp) fun i h1 h2 => ?_
  simp only [List.getElem_map, List.getElem_range, List.getElem_replicate]
  have h3 : i % z.cells.size = 0 := by rw [hz, Nat.mod_one]
  simp only [h3]
  rw [getElem!_pos z.cells 0 (by omega)]
theorem elems_replicate {τ : Ty} {u : Value} {x : τ.den} (h1 : τ.size = 1) (hx : RepC h S τ [u] x) (n : Nat) : Elems h S τ (List.replicate n u) (List.replicate n x) := by
  refine ⟨by simp [h1], fun i hi => ?_⟩
  have hi' : i < n := by simpa using hi
  rw [h1, Nat.mul_one, take_one (by simpa using hi'), List.getElem_replicate, List.getElem_replicate]
  exact hx
theorem GrowR.made {T e : TypeId} {τ : Ty} (hT : ElT P T e τ) (h1 : τ.size = 1) {u : Value} {x0 : τ.den} (hz : (P.info? e).bind (·.zero) = some u) (hu : u.cells = #[u]) (hx : ∀ (h : Heap) (S : List Nat), RepC h S τ [u] x0) {k : Nat} (hk : k ≤ 1000000) (hA : After h0 h) (hok0 : HOk h0) :
    ∃ v h', fsMakeSlice P T (.int .i64 (k : Nat)) (.int .i64 (k : Nat)) h = some (v, h') ∧ GrowR h' (ownB v ++ S) h0.next e false τ v (List.replicate k x0) ∧ After h h' ∧ Goes h S h' (ownB v ++ S) := by
  obtain ⟨i, z, hi1, hi2, hi3, hi3', hi4, hi5, hi6⟩ := hT.sl.info
  have hok := hA.ok hok0
  have hzu : z = u := by
    rw [hi1] at hz
    simp only [Option.bind_some, hi4, Option.some.injEq] at hz
    exact hz
  subst hzu
  have hz0 : z.cells[0]'(by rw [hi5, h1]; omega) = z := by simp [hu]
  refine ⟨.slice (some ⟨h.next, 0, none⟩) k 0, h.push (.row e (zeros z k) true false), ?_, .inr ⟨h.next, zeros z k, mem_own, hA.next, by simp, by rw [Heap.get_push, if_pos rfl], ?_⟩, After.push h _, fun b o hg hb => ?_⟩
  · unfold fsMakeSlice
    simp only [hT.sl.sl, hi1, hi4]
    have hb : i.bytes * k ≤ 1099511627776 := by
      have := Nat.mul_le_mul hi3' hk
      omega
    have hc : (decide (0 ≤ ((k : Nat) : Int)) && decide (((k : Nat) : Int) ≤ ((k : Nat) : Int)) && decide (((k : Nat) : Int) ≤ 1099511627776) && Nat.ble (i.bytes * ((k : Nat) : Int).toNat) 1099511627776 && Nat.blt 0 i.size && Nat.beq z.cells.size i.size && z.cells.toList.all af0) = true := by
      have e1 : Nat.ble (i.bytes * ((k : Nat) : Int).toNat) 1099511627776 = true := by rw [Nat.ble_eq, Int.toNat_natCast]; exact hb
      have e2 : Nat.blt 0 i.size = true := by show Nat.ble 1 i.size = true; rw [Nat.ble_eq, hi2, h1]; exact Nat.le_refl _
      rw [e1, e2, hi5, hi2, Nat.beq_refl, hi6]
      simp
      omega
    rw [hc]
    rfl
  · have := elems_replicate (h := h.push (.row e (zeros z k) true false)) (S := ownB (.slice (some ⟨h.next, 0, none⟩) k 0) ++ S) h1 (hx _ _) k
    rw [zeros1 (by omega), hz0]
    rw [zeros1 (by omega), hz0] at this
    exact this
  · have := hok b o hg
    refine ⟨by rw [Heap.get_push, if_neg (by omega)]; exact hg, ?_⟩
    simp only [ownB, List.cons_append, List.nil_append, List.mem_cons, not_or]
    exact ⟨by omega, hb⟩

theorem elems_set {τ : Ty} {rs us : List Value} {xs : List τ.den} {x : τ.den} {j : Nat} (he : Elems h S τ rs xs) (hj : j < xs.length) (hx : RepC h S τ us x) : Elems h S τ (splice rs (j * τ.size) us) (xs.set j x) := by
  have hul := hx.len
  have hrl := he.1
  have hjs : (j + 1) * τ.size ≤ xs.length * τ.size := Nat.mul_le_mul_right _ hj
  rw [Nat.add_mul, Nat.one_mul] at hjs
  have hl1 : (rs.take (j * τ.size)).length = j * τ.size := by rw [List.length_take]; omega
  refine ⟨?_, fun i hi => ?_⟩
  · unfold splice
    rw [List.length_append, List.length_append, hl1, List.length_drop, List.length_set]
    omega
  · rw [List.length_set] at hi
    have hold := he.2 i hi
    unfold splice
    rw [List.append_assoc]
    by_cases h1 : i < j
    · have h2 : (i + 1) * τ.size ≤ j * τ.size := Nat.mul_le_mul_right _ h1
      rw [Nat.add_mul, Nat.one_mul] at h2
      rw [List.getElem_set_ne (by omega), List.drop_append_of_le_length (by omega), List.take_append_of_le_length (by rw [List.length_drop]; omega), List.drop_take, List.take_take, Nat.min_eq_left (by omega)]
      exact hold
    · by_cases h2 : i = j
      · subst h2
        have e1 : (rs.take (i * τ.size) ++ (us ++ rs.drop (i * τ.size + us.length))).drop (i * τ.size) = us ++ rs.drop (i * τ.size + us.length) := by
          have := List.drop_left' (l₂ := us ++ rs.drop (i * τ.size + us.length)) hl1
          exact this
        rw [e1, List.getElem_set_self, List.take_left' hul]
        exact hx
      · have h3 : (j + 1) * τ.size ≤ i * τ.size := Nat.mul_le_mul_right _ (by omega)
        rw [Nat.add_mul, Nat.one_mul] at h3
        have e1 : (rs.take (j * τ.size) ++ (us ++ rs.drop (j * τ.size + us.length))).drop (i * τ.size) = rs.drop (i * τ.size) := by
          rw [List.drop_append, List.drop_eq_nil_of_le (by omega), List.nil_append, hl1, List.drop_append, List.drop_eq_nil_of_le (by omega), List.nil_append, List.drop_drop]
          congr 1
          omega
        rw [e1, List.getElem_set_ne (by omega)]
        exact hold
theorem GrowR.own {lo : Nat} {e : TypeId} {m : Bool} {τ : Ty} {v : Value} {xs : List τ.den} (hg : GrowR h S lo e m τ v xs) (h0 : 0 < xs.length) : ∃ b rs, b ∈ S ∧ lo ≤ b ∧ v = .slice (some ⟨b, 0, none⟩) xs.length 0 ∧ h.get b = some (.row e rs true m) ∧ Elems h S τ rs xs := by
  rcases hg with ⟨rfl, rfl⟩ | hg
  · simp at h0
  · exact hg
theorem GrowR.ix {lo : Nat} {T e : TypeId} {m : Bool} {τ : Ty} {v : Value} {xs : List τ.den} (hg : GrowR h S lo e m τ v xs) (hT : ElT P T e τ) {j : Nat} (hj : j < xs.length) : runPure P (Instr.indexAt T v (.int .i64 (j : Nat))) = some (ptrAt v τ.size j) := by
  obtain ⟨b, rs, _, _, rfl, _, _⟩ := hg.own (by omega)
  obtain ⟨i, z, hinf, hsz, _⟩ := hT.sl.info
  unfold Instr.indexAt
  have h6 : (0 : Int) ≤ (j : Int) ∧ (j : Int) < (xs.length : Nat) := by omega
  simp only [runPure_bind, asIntOf, runPure_pure, Option.bind_some, runPure_underlying hT.sl.sl, if_pos h6, runPure_sizeOf hinf, hsz, add_none, Int.toNat_natCast, ptrAt]
theorem GrowR.ixZ {lo : Nat} {T e : TypeId} {m : Bool} {τ : Ty} {v : Value} {xs : List τ.den} (hg : GrowR h S lo e m τ v xs) (hT : ElT P T e τ) {z : Int} (h0 : 0 ≤ z) (hn : z < (xs.length : Nat)) : runPure P (Instr.indexAt T v (.int .i64 z)) = some (ptrAt v τ.size z.toNat) := by
  obtain ⟨j, rfl⟩ := Int.eq_ofNat_of_zero_le h0
  exact hg.ix hT (by omega)
/-- What is read of the function's own slice. -/
theorem GrowR.ld {lo : Nat} {e : TypeId} {m : Bool} {τ : Ty} {v : Value} {xs : List τ.den} (hg : GrowR h S lo e m τ v xs) (hT : ValT P e τ) {j : Nat} (hj : j < xs.length) : fsLoad P e (ptrAt v τ.size j) h = some (valAt h τ (ptrAt v τ.size j)) ∧ RepV h S τ (valAt h τ (ptrAt v τ.size j)) xs[j] := by
  obtain ⟨b, rs, _, _, rfl, h4, h5⟩ := hg.own (by omega)
  have hjs : (j + 1) * τ.size ≤ xs.length * τ.size := Nat.mul_le_mul_right _ hj
  rw [Nat.add_mul, Nat.one_mul] at hjs
  have hrl := h5.1
  obtain ⟨i, hi, hs⟩ := hT.info
  obtain ⟨d, hd, ha⟩ := hT.agg
  have hx := h5.2 j hj
  simp only [fsLoad, valAt, ptrAt, h4, hd, hi, ha, hs, Nat.zero_add]
  cases hb : τ.agg with
  | true =>
    simp only [if_true, show j * τ.size + τ.size ≤ rs.length by omega]
    exact ⟨trivial, by simpa [isAggV] using hb.symm, by simpa [Value.cells] using hx⟩
  | false =>
    have h1 := Ty.size_one hb
    rw [h1] at hx hjs hrl ⊢
    have ho : j * 1 < rs.length := by omega
    rw [take_one ho] at hx
    obtain ⟨u, hu, hv⟩ := hx.one hb
    simp only [List.cons.injEq, and_true] at hu
    simp only [Bool.false_eq_true, if_false, List.getD_eq_getElem?_getD, List.getElem?_eq_getElem ho, Option.getD_some]
    exact ⟨trivial, by rw [hu]; exact hv⟩
theorem GrowR.ldInt {lo : Nat} {e : TypeId} {m : Bool} {k : IntKind} {v : Value} {xs : List Int} (hg : GrowR h S lo e m (.int k) v xs) (hT : ValT P e (.int k)) {j : Nat} (hj : j < xs.length) : fsLoad P e (ptrAt v 1 j) h = some (.int k xs[j]) := by
  obtain ⟨h1, h2⟩ := hg.ld hT hj
  rw [show ptrAt v 1 j = ptrAt v (Ty.int k).size j from rfl, h1, h2.int]
/-- What is written into it. -/
theorem GrowR.set {e : TypeId} {m : Bool} {τ : Ty} {v u : Value} {xs : List τ.den} {x : τ.den} (hg : GrowR h S h0.next e m τ v xs) (hT : ValT P e τ) {j : Nat} (hj : j < xs.length) (hu : RepV h S τ u x) (hA : After h0 h) (hok : HOk h) :
    ∃ h', fsStore P e (ptrAt v τ.size j) u h = some h' ∧ GrowR h' S h0.next e m τ v (xs.set j x) ∧ After h0 h' ∧ Goes h S h' S ∧ h'.next = h.next ∧ (∀ b, b ∉ ownB v → h'.get b = h.get b) ∧ h'.low < h.next := by
  obtain ⟨b, rs, hbS, hlo, rfl, h4, h5⟩ := hg.own (by omega)
  have hjs : (j + 1) * τ.size ≤ xs.length * τ.size := Nat.mul_le_mul_right _ hj
  rw [Nat.add_mul, Nat.one_mul] at hjs
  have hrl := h5.1
  obtain ⟨i, hi, hs⟩ := hT.info
  have hul : u.cells.toList.length = τ.size := hu.2.len
  have hG : Goes h S (h.set b (.row e (splice rs (j * τ.size) u.cells.toList) true m)) S := fun c o hg hc => ⟨by rw [Heap.get_set h4, if_neg (fun e => hc (by rw [e]; exact hbS))]; exact hg, hc⟩
  refine ⟨h.set b (.row e (splice rs (j * τ.size) u.cells.toList) true m), ?_, .inr ⟨b, splice rs (j * τ.size) u.cells.toList, hbS, hlo, by rw [List.length_set], by rw [Heap.get_set h4, if_pos rfl], (elems_set h5 hj hu.2).nx hG⟩, hA.set h4 hlo, hG, rfl, fun c hc => ?_, ?_⟩
  · simp only [fsStore, ptrAt, h4, hi, hs, hul, hu.2.allOne, Nat.zero_add]
    rw [if_pos ⟨trivial, by omega, trivial⟩]
  · rw [Heap.get_set h4, if_neg (fun e => hc (by subst e; simp [ownB]))]
  · have := hok b _ h4
    show min h.low b < h.next
    omega

/-! ## Closures -/
theorem evList_ok {t : Tr} (ht : TrIs fl t) {l : List Operand} {vs : List Value} (h : evA fl l = some vs) : l.map (evalO t) = vs := evA_ok ht l vs h
theorem StepC.func {f : FuncId} {a c : Array Operand} {us vs : List Value} (ha : evA fl a.toList = some us) (hc : evA fl c.toList = some vs) : StepC P fl (.makeFunc (.func f) a c) (.func (.func f) us.toArray vs.toArray) :=
  ⟨rfl, fun t ht _ _ _ _ _ h => by
    have e1 : a.map (evalO t) = us.toArray := by
      apply Array.toList_inj.1
      rw [Array.toList_map, evA_ok ht _ _ ha]
    have e2 : c.map (evalO t) = vs.toArray := by
      apply Array.toList_inj.1
      rw [Array.toList_map, evA_ok ht _ _ hc]
    show some (Value.func (.func f) (a.map (evalO t)) (c.map (evalO t)), h) = _
    rw [e1, e2]⟩

/-! ## Guards in drawn regions -/
theorem XD.splitD {x : Tmp} {p : Prop} {inst : Decidable p} (hc : lk fl x = some (.bool (@decide p inst))) (ht : p → XD P orc ops n l i ((x, .bool true) :: fl) h bs segs mem tail K) (hf : ¬ p → XD P orc ops n l i ((x, .bool false) :: fl) h bs segs mem tail K) : XD P orc ops n l i fl h bs segs mem tail K := by
  intro t hT
  have hs : ∀ v, lk fl x = some v → TrIs ((x, v) :: fl) t := fun v hv k u hk => by
    simp only [lk] at hk
    cases hb : Nat.beq x k with
    | true => rw [hb] at hk; simp only [cond_true, Option.some.injEq] at hk; subst hk; rw [← nbeq hb]; exact hT x _ hv
    | false => rw [hb] at hk; exact hT k u hk
  by_cases hp : p
  · rw [decide_eq_true hp] at hc; exact ht hp t (hs _ hc)
  · rw [decide_eq_false hp] at hc; exact hf hp t (hs _ hc)
theorem XD.splitB {x : Tmp} {r : Bool} (hc : lk fl x = some (.bool r)) (ht : r = true → XD P orc ops n l i ((x, .bool true) :: fl) h bs segs mem tail K) (hf : r = false → XD P orc ops n l i ((x, .bool false) :: fl) h bs segs mem tail K) : XD P orc ops n l i fl h bs segs mem tail K := by
  intro t hT
  have hs : ∀ v, lk fl x = some v → TrIs ((x, v) :: fl) t := fun v hv k u hk => by
    simp only [lk] at hk
    cases hb : Nat.beq x k with
    | true => rw [hb] at hk; simp only [cond_true, Option.some.injEq] at hk; subst hk; rw [← nbeq hb]; exact hT x _ hv
    | false => rw [hb] at hk; exact hT k u hk
  cases r with
  | true => exact ht rfl t (hs _ hc)
  | false => exact hf rfl t (hs _ hc)
theorem XD.skip {b j : Nat} {w r : Bool} {x : Tmp} (hj : (ops[j]?).bind (·.dst) = some x) (hb : lk fl x = some (.bool r)) (hw : (r == w) = false) (hbb : beforeOf bs ⟨some d, op, ty, pos, after, some (j, w)⟩ = b) (hn : Nat.blt d n = true) (h4 : Nat.ble n 4000 = true)
    (hk : XD P orc ops n l (i + 1) ((d, undef) :: fl) h (bs ++ [b]) segs mem tail K) : XD P orc ops n (⟨some d, op, ty, pos, after, some (j, w)⟩ :: l) i fl h bs segs mem tail K := fun t ht => by
  have hwt : fsWanted ops t ⟨some d, op, ty, pos, after, some (j, w)⟩ = some false := by rw [wanted_b ht rfl hj hb, hw]
  obtain ⟨t', h1, h2⟩ := put_ok (v := undef) hn h4 t ht
  refine EvD.op (s' := ⟨t', h, bs ++ [b], segs, mem, tail⟩) ?_ (hk t' h2)
  unfold fsDraw
  simp only [hwt, h1, Option.map_some, hbb]
theorem XD.skipU {b j : Nat} {w : Bool} {x : Tmp} (hj : (ops[j]?).bind (·.dst) = some x) (hb : lk fl x = some undef) (hbb : beforeOf bs ⟨some d, op, ty, pos, after, some (j, w)⟩ = b) (hn : Nat.blt d n = true) (h4 : Nat.ble n 4000 = true)
    (hk : XD P orc ops n l (i + 1) ((d, undef) :: fl) h (bs ++ [b]) segs mem tail K) : XD P orc ops n (⟨some d, op, ty, pos, after, some (j, w)⟩ :: l) i fl h bs segs mem tail K := fun t ht => by
  obtain ⟨t', h1, h2⟩ := put_ok (v := undef) hn h4 t ht
  refine EvD.op (s' := ⟨t', h, bs ++ [b], segs, mem, tail⟩) ?_ (hk t' h2)
  have hw : fsWanted ops t ⟨some d, op, ty, pos, after, some (j, w)⟩ = some false := by
    unfold fsWanted
    simp only [hj, ht x _ hb]
    rfl
  unfold fsDraw
  simp only [hw, h1, Option.map_some, hbb]
theorem XD.gc {b j : Nat} {w r : Bool} {x : Tmp} (hj : (ops[j]?).bind (·.dst) = some x) (hb : lk fl x = some (.bool r)) (hw : (r == w) = true) (hs : StepC P fl op v) (hbb : beforeOf bs ⟨some d, op, ty, pos, after, some (j, w)⟩ = b) (hn : Nat.blt d n = true) (h4 : Nat.ble n 4000 = true)
    (hk : XD P orc ops n l (i + 1) ((d, v) :: fl) h (bs ++ [b]) segs mem tail K) : XD P orc ops n (⟨some d, op, ty, pos, after, some (j, w)⟩ :: l) i fl h bs segs mem tail K := fun t ht => by
  have hwt : fsWanted ops t ⟨some d, op, ty, pos, after, some (j, w)⟩ = some true := by rw [wanted_b ht rfl hj hb, hw]
  obtain ⟨t', h1, h2⟩ := put_ok (v := v) hn h4 t ht
  refine EvD.op (s' := ⟨t', h, bs ++ [b], segs, mem, tail⟩) ?_ (hk t' h2)
  unfold fsDraw
  simp only [hwt, hs.1, if_true, hs.2 t ht, Nat.beq_refl, cond_true, h1, Option.map_some, hbb]
theorem XD.ga {b j : Nat} {w r : Bool} {x : Tmp} (hj : (ops[j]?).bind (·.dst) = some x) (hb : lk fl x = some (.bool r)) (hw : (r == w) = true) (hc : calm op = false) (hs : StepA P fl op v) (hbb : beforeOf bs ⟨some d, op, ty, pos, after, some (j, w)⟩ = b) (htl : (tail && !Nat.beq (mem &&& b) mem) = false) (hn : Nat.blt d n = true) (h4 : Nat.ble n 4000 = true)
    (hk : XD P orc ops n l (i + 1) ((d, v) :: fl) h (bs ++ [b]) ((i, h.next, h.next) :: segs) (mem ||| 2 ^ i) tail K) : XD P orc ops n (⟨some d, op, ty, pos, after, some (j, w)⟩ :: l) i fl h bs segs mem tail K := fun t ht => by
  have hwt : fsWanted ops t ⟨some d, op, ty, pos, after, some (j, w)⟩ = some true := by rw [wanted_b ht rfl hj hb, hw]
  obtain ⟨t', h1, h2⟩ := put_ok (v := v) hn h4 t ht
  refine EvD.op (s' := ⟨t', h, bs ++ [b], (i, h.next, h.next) :: segs, mem ||| 2 ^ i, tail⟩) ?_ (hk t' h2)
  unfold fsDraw
  simp only [hwt, hc, Bool.false_eq_true, if_false, hbb, htl, cond_false, hs t ht, blt_refl', h1, ble_refl', cond_true, newer_same, List.nil_append]
theorem XD.gld {b j : Nat} {w r : Bool} {xx : Tmp} {T : TypeId} {x : Operand} {u : Value} (hj : (ops[j]?).bind (·.dst) = some xx) (hb : lk fl xx = some (.bool r)) (hw : (r == w) = true) (hA : After hs h) (hsg : SegsOk hs segs) (hok : HOk hs) (hx : evL fl x = some u) (hv : fsLoad P T u hs = some v)
    (hbb : beforeOf bs ⟨some d, .load T x, ty, pos, after, some (j, w)⟩ = b) (htl : (tail && !Nat.beq (mem &&& b) mem) = false) (hn : Nat.blt d n = true) (h4 : Nat.ble n 4000 = true)
    (hk : XD P orc ops n l (i + 1) ((d, v) :: fl) h (bs ++ [b]) ((i, h.next, h.next) :: segs) (mem ||| 2 ^ i) tail K) : XD P orc ops n (⟨some d, .load T x, ty, pos, after, some (j, w)⟩ :: l) i fl h bs segs mem tail K := fun t ht => by
  have hwt : fsWanted ops t ⟨some d, .load T x, ty, pos, after, some (j, w)⟩ = some true := by rw [wanted_b ht rfl hj hb, hw]
  obtain ⟨t', h1, h2⟩ := put_ok (v := v) hn h4 t ht
  refine EvD.op (s' := ⟨t', h, bs ++ [b], (i, h.next, h.next) :: segs, mem ||| 2 ^ i, tail⟩) ?_ (hk t' h2)
  have hv' : fsLoad P T (evalO t x) { next := h.next, low := h.next, objs := bif Nat.beq (mem &&& b) mem then h.objs else mask b segs h.objs } = some v := by
    rw [evL_ok ht hx]
    cases Nat.beq (mem &&& b) mem with
    | true => exact fsLoad_after (h := entry h) ⟨hA.next, hA.get, hA.ok, fun e h1 h2 => Nat.le_trans h2 hA.next⟩ hok hv
    | false => exact fsLoad_msk hA hsg hok hv
  unfold fsDraw
  have hs : stepO P ⟨some d, .load T x, ty, pos, after, some (j, w)⟩ (evalO t) { next := h.next, low := h.next, objs := bif Nat.beq (mem &&& b) mem then h.objs else mask b segs h.objs } = some (v, { next := h.next, low := h.next, objs := bif Nat.beq (mem &&& b) mem then h.objs else mask b segs h.objs }) := by
    show (fsLoad P T (evalO t x) _).map _ = _
    rw [hv']; rfl
  simp only [hwt, show calm (Op.load T x) = false from rfl, Bool.false_eq_true, if_false, hbb, htl, cond_false, hs, blt_refl', h1, ble_refl', cond_true, newer_same, List.nil_append]
theorem XD.gcallV {jj : Nat} {w r : Bool} {xx : Tmp} {f : Operand} {args : Array Operand} {ats : Array TypeId} {g : FuncId} {a c : Array Value} {vs : List Value} {bb : Nat} (hj : (ops[jj]?).bind (·.dst) = some xx) (hb' : lk fl xx = some (.bool r)) (hw : (r == w) = true) (hA : After hs h) (hsg : SegsOk hs segs)
    (hf : evL fl f = some (.func (.func g) a c)) (ha : evA fl args.toList = some vs)
    (hb : beforeOf bs ⟨some d, .call { callee := .value f, args := args, argTypes := ats }, ty, pos, after, some (jj, w)⟩ = bb) (htl : (tail && !Nat.beq (mem &&& bb) mem) = false) (hn : Nat.blt d n = true) (h4 : Nat.ble n 4000 = true)
    (hc : ∀ M, After hs M → (Nat.beq (mem &&& bb) mem = true → M = entry h) → EvF P orc g (a.toList ++ vs ++ c.toList) M fun v h' => h' = M ∧ XD P orc ops n l (i + 1) ((d, v) :: fl) h (bs ++ [bb]) ((i, h.next, h.next) :: segs) (mem ||| 2 ^ i) tail K) :
    XD P orc ops n (⟨some d, .call { callee := .value f, args := args, argTypes := ats }, ty, pos, after, some (jj, w)⟩ :: l) i fl h bs segs mem tail K := fun t ht => by
  have hwt : fsWanted ops t ⟨some d, .call { callee := .value f, args := args, argTypes := ats }, ty, pos, after, some (jj, w)⟩ = some true := by rw [wanted_b ht rfl hj hb', hw]
  refine EvD.call (o := ⟨some d, .call { callee := .value f, args := args, argTypes := ats }, ty, pos, after, some (jj, w)⟩) hwt rfl rfl (evL_ok ht hf) (by simp only [hb]; exact htl) ?_
  have hM : ∃ M, seenBy ⟨some d, .call { callee := .value f, args := args, argTypes := ats }, ty, pos, after, some (jj, w)⟩ ⟨t, h, bs, segs, mem, tail⟩ = M ∧ After hs M ∧ (Nat.beq (mem &&& bb) mem = true → M = entry h) ∧ M.next = h.next ∧ M.low = h.next := by
    refine ⟨_, rfl, ?_, ?_, rfl, rfl⟩
    · unfold seenBy
      simp only [hb]
      cases Nat.beq (mem &&& bb) mem with
      | true => exact ⟨hA.next, hA.get, hA.ok, fun e h1 h2 => Nat.le_trans h2 hA.next⟩
      | false => exact msk_after hA hsg
    · intro ho
      unfold seenBy entry
      simp only [hb, ho, cond_true]
  obtain ⟨M, hM1, hM2, hM3, hM4, hM5⟩ := hM
  rw [hM1, evA_ok ht _ _ ha]
  refine (hc M hM2 hM3).mono fun v h' hx => ?_
  obtain ⟨rfl, hx⟩ := hx
  obtain ⟨t', h1, h2⟩ := put_ok (v := v) hn h4 t ht
  have hlow : Nat.ble h.next h'.low = true := by rw [Nat.ble_eq]; omega
  refine ⟨by rw [hM4]; exact blt_refl' _, by simp only [hlow, Bool.true_or], t', h1, ?_⟩
  have hd : drewOn ⟨some d, .call { callee := .value f, args := args, argTypes := ats }, ty, pos, after, some (jj, w)⟩ i ⟨t, h, bs, segs, mem, tail⟩ t' h' = ⟨t', h, bs ++ [bb], (i, h.next, h.next) :: segs, mem ||| 2 ^ i, tail⟩ := by
    unfold drewOn
    simp only [hlow, cond_true, hM4, newer_same, List.nil_append, hb]
  rw [hd]
  exact hx t' h2

theorem BoxR.chg {lo : Nat} {p : Value} {cs : List Value} (hb : BoxR h lo p cs) (hg : ∀ b ∈ ownP p, h'.get b = h.get b) : BoxR h' lo p cs := by
  obtain ⟨b, e, rfl, h2, h3⟩ := hb
  exact ⟨b, e, rfl, h2, by rw [hg b (by simp [ownP])]; exact h3⟩

/-! ## Parts of a slice -/
theorem SlV.cut {T e : TypeId} {τ : Ty} (hT : ElT P T e τ) {v : Value} {xs : List τ.den} (hv : SlV h S τ v xs) {a b : Int} (h0 : 0 ≤ a ∧ a ≤ b ∧ b ≤ (xs.length : Nat)) :
    ∃ w, (∀ nn ll, fsSlice P T v (some (.int .i64 a)) (some (.int .i64 b)) none { next := nn, low := ll, objs := h.objs } = some w) ∧ SlV h S τ w ((xs.take b.toNat).drop a.toNat) := by
  obtain ⟨i, z, hinf, hsz, _⟩ := hT.sl.info
  obtain ⟨a', rfl⟩ := Int.eq_ofNat_of_zero_le h0.1
  obtain ⟨b', rfl⟩ := Int.eq_ofNat_of_zero_le (show 0 ≤ b by omega)
  have hb : b' ≤ xs.length := by omega
  have hab : a' ≤ b' := by omega
  simp only [Int.toNat_natCast]
  rcases hv with ⟨rfl, rfl⟩ | ⟨bl, o, mk, rfl, h2⟩
  · have : a' = 0 ∧ b' = 0 := by simp at hb; omega
    obtain ⟨rfl, rfl⟩ := this
    refine ⟨.slice none 0 0, fun nn ll => ?_, .inl ⟨rfl, rfl⟩⟩
    simp [fsSlice, hT.sl.sl, boundOf, hinf]
  · have e1 : Nat.ble a' b' = true := by rw [Nat.ble_eq]; exact hab
    have e2 : Nat.ble b' xs.length = true := by rw [Nat.ble_eq]; exact hb
    have hl : ((xs.take b').drop a').length = b' - a' := by simp; omega
    by_cases hab' : a' < b' ∨ a' = 0
    · refine ⟨.slice (some ⟨bl, o + a' * τ.size, none⟩) (b' - a') (bif Nat.beq mk 1 then (bif Nat.beq b' xs.length then 1 else 2) else markOf e bl a' mk h), fun nn ll => ?_, ?_⟩
      · have hmk : markOf e bl a' mk { next := nn, low := ll, objs := h.objs } = markOf e bl a' mk h := rfl
        have hcut : (Nat.blt a' b' || Nat.beq a' 0) = true := by
          rcases hab' with h3 | rfl
          · have : Nat.blt a' b' = true := by show Nat.ble (a' + 1) b' = true; rw [Nat.ble_eq]; exact h3
            rw [this]; rfl
          · simp
        simp only [fsSlice, hT.sl.sl, hinf, boundOf, Int.natCast_nonneg, if_true, Int.toNat_natCast, e1, e2, Bool.and_self, cond_true, cutAt, hcut, hsz, hmk]
      · refine .inr ⟨bl, o + a' * τ.size, _, by rw [hl], ?_⟩
        by_cases hz : a' = b'
        · left; exact List.eq_nil_of_length_eq_zero (by omega)
        · right
          rcases h2 with rfl | ⟨h2, e', rs, own, more, h3, h4, h5⟩
          · simp at hb; omega
          · have hbs : b' * τ.size ≤ xs.length * τ.size := Nat.mul_le_mul_right _ hb
            have habs : a' * τ.size + (b' - a') * τ.size = b' * τ.size := by rw [← Nat.add_mul]; congr 1; omega
            refine ⟨h2, e', rs, own, more, h3, by rw [hl]; omega, fun i hi => ?_⟩
            rw [hl] at hi
            have := h5 (a' + i) (by omega)
            rw [List.getElem_drop, List.getElem_take]
            rwa [Nat.add_mul, ← Nat.add_assoc] at this
    · have hab2 : a' = b' := by omega
      subst hab2
      refine ⟨.slice (some ⟨0, 0, none⟩) 0 2, fun nn ll => ?_, .inr ⟨0, 0, 2, by rw [hl]; simp, .inl (List.eq_nil_of_length_eq_zero (by omega))⟩⟩
      have hcut : (Nat.blt a' a' || Nat.beq a' 0) = false := by
        rw [blt_refl', beq_no (by omega)]; rfl
      simp only [fsSlice, hT.sl.sl, hinf, boundOf, Int.natCast_nonneg, if_true, Int.toNat_natCast, e1, e2, Bool.and_self, cond_true, cutAt, hcut, cond_false]
theorem StepR.slice {T : TypeId} {x lo hi : Operand} {u a b w : Value} (hx : evL fl x = some u) (hl : evL fl lo = some a) (hh : evL fl hi = some b) (hv : ∀ nn ll, fsSlice P T u (some a) (some b) none { next := nn, low := ll, objs := h.objs } = some w) : StepR P fl h (.slice T x (some lo) (some hi) none) w :=
  ⟨rfl, fun t ht _ _ _ _ _ n l => by
    show (fsSlice P T (evalO t x) (some (evalO t lo)) (some (evalO t hi)) none { next := n, low := l, objs := h.objs }).map _ = _
    rw [evL_ok ht hx, evL_ok ht hl, evL_ok ht hh, hv]; rfl⟩
theorem RepV.nil0 {τ : Ty} {v : Value} {x : τ.den} (hv : RepV h S τ v x) : RepV h [] τ v x := hv.nx (Goes.less fun _ hb => by cases hb)
theorem SlV.nil0 {τ : Ty} {v : Value} {xs : List τ.den} (hv : SlV h S τ v xs) : SlV h [] τ v xs := hv.nx (Goes.less fun _ hb => by cases hb)
theorem RepP.nil0 {τ : Ty} {p : Value} {x : τ.den} (hv : RepP h S τ p x) : RepP h [] τ p x := hv.nx (Goes.less fun _ hb => by cases hb)
theorem noS : ∀ b ∈ ([] : List Nat), b < h.next := fun _ hb => by cases hb
end Go.Fs
namespace Go.Fs
variable {P : Program} {fl : FL}

/-- A struct of two fields of int. -/
def iiB (P : Program) (T : TypeId) : Bool :=
  match P.underlying T with
  | some (.struct ⟨[f0, f1]⟩) => !P.stoodInHeld T && !P.eqGuardType P.depth T && !(f0.name == "_") && !(f1.name == "_") && Nat.beq f0.offset 0 && Nat.beq f1.offset 1 &&
      (match P.underlying f0.type with | some (.int .i64) => true | _ => false) && (match P.underlying f1.type with | some (.int .i64) => true | _ => false)
  | _ => false
theorem iiB_inv {T : TypeId} (h : iiB P T = true) : ∃ f0 f1 : Field, P.underlying T = some (.struct #[f0, f1]) ∧ P.stoodInHeld T = false ∧ P.eqGuardType P.depth T = false ∧ f0.name ≠ "_" ∧ f1.name ≠ "_" ∧ f0.offset = 0 ∧ f1.offset = 1 ∧ P.underlying f0.type = some (.int .i64) ∧ P.underlying f1.type = some (.int .i64) := by
  unfold iiB at h
  split at h
  · rename_i f0 f1 hu
    obtain ⟨h, h8⟩ := band h
    obtain ⟨h, h7⟩ := band h
    obtain ⟨h, h6⟩ := band h
    obtain ⟨h, h5⟩ := band h
    obtain ⟨h, h4⟩ := band h
    obtain ⟨h, h3⟩ := band h
    obtain ⟨h1, h2⟩ := band h
    refine ⟨f0, f1, hu, by simpa using h1, by simpa using h2, by simpa using h3, by simpa using h4, nbeq h5, nbeq h6, ?_, ?_⟩
    · split at h7
      · assumption
      · cases h7
    · split at h8
      · assumption
      · cases h8
  · cases h
theorem runPure_program : runPure P program = some P := rfl
theorem runPure_isAgg {t : TypeId} (h : P.underlying t = some (.int .i64)) : runPure P (isAgg t) = some false := by
  unfold isAgg
  rw [runPure_bind, runPure_underlying h]
  rfl
theorem runPure_part {t : TypeId} (h : P.underlying t = some (.int .i64)) {cs : Array Value} {o : Nat} {v : Value} (hv : cs[o]? = some v) : runPure P (part t cs o) = some v := by
  unfold part
  rw [runPure_bind, runPure_isAgg h]
  simp only [Option.bind_some, Bool.false_eq_true, if_false, hv]
  rfl
theorem equal_int {t : TypeId} (h : P.underlying t = some (.int .i64)) (d : Nat) (a c : Int) : runPure P (Op.equalIn (d + 1) t (.int .i64 a) (.int .i64 c)) = some (decide (a = c)) := by
  unfold Op.equalIn
  rw [runPure_bind, runPure_underlying h]
  show some (a == c) = _
  by_cases hac : a = c <;> simp [hac]
theorem equal_ii {T : TypeId} (h : iiB P T = true) (a b c d : Int) : runPure P (Op.equal T (.agg #[.int .i64 a, .int .i64 b]) (.agg #[.int .i64 c, .int .i64 d])) = some (decide (a = c) && decide (b = d)) := by
  obtain ⟨f0, f1, hu, hs, _, n0, n1, o0, o1, u0, u1⟩ := iiB_inv h
  unfold Op.equal
  show runPure P (Op.equalIn (9998 + 1 + 1) T _ _) = _
  have e0 := equal_int u0 9998 a c
  have e1 := equal_int u1 9998 b d
  have p0 : runPure P (part f0.type #[.int .i64 a, .int .i64 b] 0) = some (.int .i64 a) := runPure_part u0 rfl
  have p1 : runPure P (part f0.type #[.int .i64 c, .int .i64 d] 0) = some (.int .i64 c) := runPure_part u0 rfl
  have p2 : runPure P (part f1.type #[.int .i64 a, .int .i64 b] 1) = some (.int .i64 b) := runPure_part u1 rfl
  have p3 : runPure P (part f1.type #[.int .i64 c, .int .i64 d] 1) = some (.int .i64 d) := runPure_part u1 rfl
  rw [Op.equalIn]
  rw [runPure_bind, runPure_underlying hu]
  simp only [Option.bind_some, runPure_bind, runPure_program, hs, Bool.false_eq_true, if_false]
  simp only [← Array.forIn_toList, List.forIn_cons, List.forIn_nil, runPure_bind, n0, n1, ne_eq, not_false_eq_true, if_true, o0, o1, p0, p1, p2, p3, e0, e1, Option.bind_some]
  have e1' : runPure P (Op.equalIn 9999 f1.type (.int .i64 b) (.int .i64 d)) = some (decide (b = d)) := e1
  by_cases hac : a = c
  · subst hac
    by_cases hbd : b = d
    · subst hbd
      simp [runPure_bind, p2, e1', runPure_pure]
    · simp [runPure_bind, p2, p3, e1', hbd, runPure_pure]
  · simp [hac, runPure_bind, runPure_pure]
theorem StepC.neII {T T' : TypeId} {x y : Operand} {a b c d : Int} (h : iiB P T = true) (hx : evL fl x = some (.agg #[.int .i64 a, .int .i64 b])) (hy : evL fl y = some (.agg #[.int .i64 c, .int .i64 d])) : StepC P fl (.binOp .neq T x y T') (.bool (decide ((a, b) ≠ (c, d)))) := by
  obtain ⟨f0, f1, hu, hs, hg, n0, n1, o0, o1, u0, u1⟩ := iiB_inv h
  refine StepC.bin hx hy rfl ?_
  show (runPure P (do eqGuard .neq T x y _ _; binOp .neq T _ _)).bind _ = _
  have he : runPure P (eqGuard .neq T x y (.agg #[.int .i64 a, .int .i64 b]) (.agg #[.int .i64 c, .int .i64 d])) = some () := by
    unfold eqGuard
    simp [runPure_bind, runPure_program, hg, runPure_pure]
  have hb : runPure P (binOp .neq T (.agg #[.int .i64 a, .int .i64 b]) (.agg #[.int .i64 c, .int .i64 d])) = some (.bool (!(decide (a = c) && decide (b = d)))) := by
    unfold binOp
    simp only [runPure_bind, equal_ii h, Option.bind_some, runPure_pure]
  rw [runPure_bind, he]
  simp only [Option.bind_some, hb]
  by_cases hac : a = c <;> by_cases hbd : b = d <;> simp [hac, hbd, af, af1, af0]
theorem StepC.eqII {T T' : TypeId} {x y : Operand} {a b c d : Int} (h : iiB P T = true) (hx : evL fl x = some (.agg #[.int .i64 a, .int .i64 b])) (hy : evL fl y = some (.agg #[.int .i64 c, .int .i64 d])) : StepC P fl (.binOp .eql T x y T') (.bool (decide ((a, b) = (c, d)))) := by
  obtain ⟨f0, f1, hu, hs, hg, n0, n1, o0, o1, u0, u1⟩ := iiB_inv h
  refine StepC.bin hx hy rfl ?_
  show (runPure P (do eqGuard .eql T x y _ _; binOp .eql T _ _)).bind _ = _
  have he : runPure P (eqGuard .eql T x y (.agg #[.int .i64 a, .int .i64 b]) (.agg #[.int .i64 c, .int .i64 d])) = some () := by
    unfold eqGuard
    simp [runPure_bind, runPure_program, hg, runPure_pure]
  have hb : runPure P (binOp .eql T (.agg #[.int .i64 a, .int .i64 b]) (.agg #[.int .i64 c, .int .i64 d])) = some (.bool (decide (a = c) && decide (b = d))) := by
    unfold binOp
    simp only [runPure_bind, equal_ii h, Option.bind_some, runPure_pure]
  rw [runPure_bind, he]
  simp only [Option.bind_some, hb]
  by_cases hac : a = c <;> by_cases hbd : b = d <;> simp [hac, hbd, af, af1, af0]
end Go.Fs
namespace Go
variable {P : Program}
theorem stepR_scopeFs {b : Frame} {a : Act} {k : List Item} {cs : List Frame} {w : World} {c : Code} : step P (lone (b.atR a (.code (.scope c) :: k)) cs w) = .next (lone (b.atR a (.code c :: .inScope c :: k)) cs w) :=
  step_lone_go (by simp [stepG, stepG.exec, Frame.atR])
theorem stepR_inScopeFs {b : Frame} {a : Act} {k : List Item} {cs : List Frame} {w : World} {c : Code} : step P (lone (b.atR a (.inScope c :: k)) cs w) = .next (lone (b.atR a k) cs w) :=
  step_lone_go (by simp [stepG, stepG.exec, Frame.atR])
/-- A piece that is left by no jump to a label. -/
theorem wpIn_scopeFs {F : Fence} {n : Nat} {Q : Exit → Act → World → Prop} {a : Act} {w : World} {c : Code} (h : c.wpIn F n P (Exit.noGoto Q) a w) : (Code.scope c).wpIn F n P Q a w := by
  intro b k cs hro hb hr
  have h0 : (lone (b.atR a (.code (.scope c) :: k)) cs w).fenced P F := fenced_calm hb hr rfl
  obtain ⟨e, a₁, w₁, hq, harr⟩ := h b (.inScope c :: k) cs hro hb hr
  cases e with
  | normal => exact ⟨.normal, a₁, w₁, hq, .head h0 stepR_scopeFs (StepsIn.trans harr (.one (fenced_calm hb hr rfl) stepR_inScopeFs))⟩
  | exit id =>
    have hx : exitTo id (.inScope c :: k) = exitTo id k := by simp [exitTo]
    exact ⟨.exit id, a₁, w₁, hq, fun k' hk => .head h0 stepR_scopeFs (harr.1 k' (by rw [hx]; exact hk)),
      fun hr' hk => let ⟨k₁, h1, h2⟩ := harr.2 hr' (by rw [hx]; exact hk); ⟨k₁, h1, .head h0 stepR_scopeFs h2⟩⟩
  | goto l => exact hq.elim
  | ret => exact ⟨_, a₁, w₁, hq, .of_steps (.one h0 stepR_scopeFs) harr⟩
  | panic ch => exact ⟨_, a₁, w₁, hq, .of_steps (.one h0 stepR_scopeFs) harr⟩
  | outgrown => exact ⟨_, a₁, w₁, hq, .of_steps (.one h0 stepR_scopeFs) harr⟩

end Go
namespace Go.Fs
open Go.RowKit (Below)
variable {P : Program} {ρ ρ' : Ren} {S S' : Nat → Prop} {B : Nat} {w0 w w' w1 w2 : World} {h h' h1 h2 : Heap}

theorem call_sound (hP : ProgOk P) {orc : FuncId → List Value → Heap → Option (Value × Heap)} (horc : CallSound P B w0 orc) {m : Nat} {rec : Rec} (hrec : SoundR P B w0 m rec) : CallSound P B w0 (callOf P orc rec) := by
  intro f args h v h' hf
  unfold callOf at hf
  split at hf
  · rename_i r hr
    simp only [Option.some.injEq] at hf
    subst hf
    exact horc _ _ _ _ _ hr
  · exact enter_sound hP hrec _ _ _ _ _ hf

theorem Post.same {fr : Fr} {a : Act} (hr : HR P ρ S B w0 h w) (ht : TrR ρ S fr.t fr.n a.tmps) (hm : MarksR ρ S fr.marks a.defers) : Post P B w0 ρ ρ S h w fr h w a :=
  ⟨Moved.same hr, ht.mono fun _ hb => ⟨.inl hb, rfl⟩, hm.mono fun _ hb => ⟨.inl hb, rfl⟩⟩

theorem step_sound (hP : ProgOk P) {orc : FuncId → List Value → Heap → Option (Value × Heap)} (horc : CallSound P B w0 orc) {m : Nat} {rec : Rec} (hrec : SoundR P B w0 m rec) : SoundR P B w0 (m + 1) (fsStep P orc rec) := by
  intro rnd c fr h e fr' h' hok hf ρ S w a nn Q hr ht hm hs k
  have hcs : CallSound P B w0 (callOf P orc rec) := call_sound hP horc hrec
  have hys : YieldSound P B w0 (fsYield rec) := yield_sound hrec
  cases c with
  | skip =>
    simp only [fsStep, Option.some.injEq, Prod.mk.injEq] at hf
    obtain ⟨rfl, rfl, rfl⟩ := hf
    exact wpIn_skip (k _ _ _ (Post.same hr ht hm))
  | label l =>
    simp only [fsStep, Option.some.injEq, Prod.mk.injEq] at hf
    obtain ⟨rfl, rfl, rfl⟩ := hf
    exact wpIn_label (k _ _ _ (Post.same hr ht hm))
  | exit id =>
    simp only [fsStep, Option.some.injEq, Prod.mk.injEq] at hf
    obtain ⟨rfl, rfl, rfl⟩ := hf
    exact wpIn_exit (k _ _ _ (Post.same hr ht hm))
  | ret =>
    simp only [fsStep, Option.some.injEq, Prod.mk.injEq] at hf
    obtain ⟨rfl, rfl, rfl⟩ := hf
    exact wpIn_ret (k _ _ _ (Post.same hr ht hm))
  | goto l => simp only [fsStep] at hf; cases hf
  | refuse l => simp only [fsStep] at hf; cases hf
  | scope b =>
    simp only [fsStep] at hf
    refine wpIn_scopeFs ?_
    refine (hrec rnd b fr h e fr' h' hok hf ρ S w a nn _ hr ht hm hs fun ρ1 w1 a1 p1 => ?_).wpIn
    have hq := k _ _ _ p1
    cases e with
    | normal => exact hq
    | exit id => exact hq
    | ret => exact hq
  | seq x y =>
    simp only [fsStep] at hf
    obtain ⟨ok1, ok2⟩ := band (show (codeOk x && codeOk y) = true from hok)
    refine wpIn_seq ?_
    split at hf
    · rename_i fr1 h1 hrun
      refine (hrec rnd x fr h _ fr1 h1 ok1 hrun ρ S w a nn _ hr ht hm hs fun ρ1 w1 a1 p1 => ?_).wpIn
      show y.wpIn (rndF ρ rnd) nn P Q a1 w1
      rw [← rndF_eq hs p1.moved.agree]
      exact (hrec rnd y fr1 h1 e fr' h' ok2 hf ρ1 _ w1 a1 nn Q p1.moved.hr p1.tmps p1.marks (fun l hl => .inl (hs l hl)) fun ρ2 w2 a2 p2 => k _ _ _ (Post.trans (fr1 := fr1) (a1 := a1) p1.moved p2)).wpIn
    · rename_i hne
      refine (hrec rnd x fr h e fr' h' ok1 hf ρ S w a nn _ hr ht hm hs fun ρ1 w1 a1 p1 => ?_).wpIn
      have hq := k _ _ _ p1
      cases e with
      | normal => exact (hne _ _ hf).elim
      | exit id => exact hq
      | ret => exact hq
  | cond x y z =>
    simp only [fsStep] at hf
    obtain ⟨ok1, ok2⟩ := band (show (codeOk y && codeOk z) = true from hok)
    have hev := ht.eval a.defers x
    split at hf
    · rename_i hx
      rw [hx] at hev
      exact wpIn_cond_true hev.bool_inv (hrec rnd y fr h e fr' h' ok1 hf ρ S w a nn Q hr ht hm hs k).wpIn
    · rename_i hx
      rw [hx] at hev
      exact wpIn_cond_false hev.bool_inv (hrec rnd z fr h e fr' h' ok2 hf ρ S w a nn Q hr ht hm hs k).wpIn
    · cases hf
  | block id b =>
    simp only [fsStep] at hf
    refine wpIn_block ?_
    split at hf
    · rename_i id' fr1 h1 hrun
      refine (hrec rnd b fr h _ fr1 h1 hok hrun ρ S w a nn _ hr ht hm hs fun ρ1 w1 a1 p1 => ?_).wpIn
      cases hb : Nat.beq id' id with
      | true =>
        rw [hb] at hf
        simp only [cond_true, Option.some.injEq, Prod.mk.injEq] at hf
        obtain ⟨rfl, rfl, rfl⟩ := hf
        have := k _ _ _ p1
        simp only [exOf, Exit.inBlock, nbeq hb, if_true]
        exact this
      | false =>
        rw [hb] at hf
        simp only [cond_false, Option.some.injEq, Prod.mk.injEq] at hf
        obtain ⟨rfl, rfl, rfl⟩ := hf
        have := k _ _ _ p1
        simp only [exOf, Exit.inBlock, if_neg (ne_of_no hb)]
        exact this
    · rename_i hne
      refine (hrec rnd b fr h e fr' h' hok hf ρ S w a nn _ hr ht hm hs fun ρ1 w1 a1 p1 => ?_).wpIn
      have hq := k _ _ _ p1
      cases e with
      | normal => exact hq
      | exit id' => exact (hne _ _ _ hf).elim
      | ret => exact hq
  | loop b =>
    simp only [fsStep] at hf
    show Code.roundsIn (rndF ρ rnd) nn P b Q (m + 1) a w
    rw [roundsIn_succ]
    split at hf
    · rename_i fr1 h1 hrun
      refine (hrec rnd b fr h _ fr1 h1 hok hrun ρ S w a nn _ hr ht hm hs fun ρ1 w1 a1 p1 => ?_).wpIn
      show Code.roundsIn (rndF ρ rnd) nn P b Q m a1 w1
      rw [← rndF_eq hs p1.moved.agree]
      exact hrec rnd (.loop b) fr1 h1 e fr' h' hok hf ρ1 _ w1 a1 nn Q p1.moved.hr p1.tmps p1.marks (fun l hl => .inl (hs l hl)) fun ρ2 w2 a2 p2 => k _ _ _ (Post.trans (fr1 := fr1) (a1 := a1) p1.moved p2)
    · rename_i hne
      refine (hrec rnd b fr h e fr' h' hok hf ρ S w a nn _ hr ht hm hs fun ρ1 w1 a1 p1 => ?_).wpIn
      have hq := k _ _ _ p1
      cases e with
      | normal => exact (hne _ _ hf).elim
      | exit id => exact hq
      | ret => exact hq
  | region id ops draw =>
    cases draw with
    | false =>
      simp only [fsStep] at hf
      split at hf
      · rename_i t h1 hrun
        simp only [Option.some.injEq, Prod.mk.injEq] at hf
        obtain ⟨rfl, rfl, rfl⟩ := hf
        refine wpIn_region ?_
        exact ops_wp (step := fsOp P (callOf P orc rec) (fsYield rec)) rfl hcs hys _ _ ρ S w a fr.t h range_map hr ht hrun fun ρ1 w1 a1 m1 ht1 hd1 => k _ _ _ ⟨m1, ht1, by rw [hd1]; exact hm.mono fun b hb => ⟨.inl hb, m1.agree b hb⟩⟩
      · cases hf
    | true =>
      simp only [fsStep] at hf
      split at hf
      · rename_i s hrun
        simp only [Option.some.injEq, Prod.mk.injEq] at hf
        obtain ⟨rfl, rfl, rfl⟩ := hf
        refine wpIn_region_draw fun t => ?_
        rw [hP.mixed]
        exact drawn_wp (call := callOf P orc rec) (yield := fsYield rec) hcs hys hok hrun (hr.drew _) ht (fun ρ1 w1 a1 m1 ht1 hd1 => k _ _ _ ⟨Moved.ofDrew m1, ht1, by rw [hd1]; exact hm.mono fun b hb => ⟨.inl hb, m1.agree b hb⟩⟩) t
      · cases hf
  | rangeFunc g ps assign body =>
    simp only [fsStep] at hf
    obtain ⟨ok1, ok2⟩ := band (show (codeOk assign && codeOk body) = true from hok)
    exact rangeFunc_sound hP hrec ok1 ok2 hf hr ht hm hs k

theorem code_sound (hP : ProgOk P) {orc : FuncId → List Value → Heap → Option (Value × Heap)} (horc : CallSound P B w0 orc) : ∀ m, SoundR P B w0 m (fsCode P orc m)
  | 0 => fun rnd c fr h e fr' h' _ hf => by cases hf
  | m + 1 => step_sound hP horc (code_sound hP horc m)

/-- **A call, evaluated.** -/
theorem fs_calls (hP : ProgOk P) {orc : FuncId → List Value → Heap → Option (Value × Heap)} (horc : CallSound P B w0 orc) (m : Nat) : CallSound P B w0 (fsEnter P (fsCode P orc m)) := enter_sound hP (code_sound hP horc m)

/-- **A closed call whose value bears no address: in every world, the world but for new blocks as it was.** -/
theorem fs_closed (hP : ProgOk P) {w : World} {orc : FuncId → List Value → Heap → Option (Value × Heap)} (horc : CallSound P w.heap.size w orc) {m : Nat} {f : FuncId} {args : List Value} {v : Value} (ha : args.all af = true)
    (hf : (fsEnter P (fsCode P orc m) f args ⟨1, 1, []⟩).map (·.1) = some v) (hv : af v = true) :
    Calls P f args.toArray w fun | .returned v', w' => v' = v ∧ Below w.heap.size w w' | _, _ => False := by
  obtain ⟨⟨v0, h0⟩, h1, h2⟩ := Option.map_eq_some_iff.1 hf
  simp only at h2
  subst h2
  have hr : HR P (fun _ => ⟨0, 0, 0, 0⟩) (fun _ => False) w.heap.size w ⟨1, 1, []⟩ w :=
    { objs := fun i o hi => (by cases hi), inj := fun i j oi oj hi => (by cases hi), base := fun i o hi => (by cases hi), ro := fun i o hi => (by cases hi), ids := fun b hb => hb.elim, pos := by decide,
      below := Below.refl _ _, size := Nat.le_refl _ }
  have hc := ((fs_calls hP horc m) f args _ _ _ h1).2 _ _ w args hr ⟨rfl, fun i hi => .of_af (List.all_eq_true.1 ha _ (mem_getD hi))⟩ 0
  refine Calls.mono (callsIn_wide.1 hc) fun e w' he => ?_
  cases e with
  | returned v' =>
    obtain ⟨ρ', m1, hv1⟩ := he
    exact ⟨hv1.eq_of_af hv, m1.hr.below⟩
  | panicked c => exact he.elim
  | outgrown => exact he.elim

end Go.Fs
namespace Go.Fs
open Go.RowKit (Below)
variable {P : Program}

/-- **A call whose value is known, evaluated from a heap that is related to the world.** -/
theorem fs_open (hP : ProgOk P) {B : Nat} {w0 w : World} {orc : FuncId → List Value → Heap → Option (Value × Heap)} (horc : CallSound P B w0 orc) {ρ : Ren} {S : Nat → Prop} {h : Heap} {f : FuncId} {args args' : List Value} {v : Value}
    (hr : HR P ρ S B w0 h w) (ha : LR ρ S args args') (he : EvF P orc f args h fun u _ => u = v) (hv : af v = true) : Calls P f args'.toArray w fun | .returned v', w' => v' = v ∧ Below B w0 w' | _, _ => False := by
  obtain ⟨m, u, h', h1, rfl⟩ := he
  have hc := (call_sound hP horc (code_sound hP horc m) f args h u h' h1).2 ρ S w args' hr ha 0
  refine Calls.mono (callsIn_wide.1 hc) fun e w' he => ?_
  cases e with
  | returned v' =>
    obtain ⟨ρ', m1, hv1⟩ := he
    exact ⟨hv1.eq_of_af hv, m1.hr.below⟩
  | panicked c => exact he.elim
  | outgrown => exact he.elim

/-- The kernel's run, as a run. -/
theorem EvF.ofRun {orc : FuncId → List Value → Heap → Option (Value × Heap)} {m : Nat} {f : FuncId} {args : List Value} {h : Heap} {v : Value} (ho : orc f args h = none) (hr : fsEnter P (fsCode P orc m) f args h = some (v, h)) : EvF P orc f args h fun u h' => u = v ∧ h' = h :=
  ⟨m, v, h, by unfold callOf; rw [ho]; exact hr, rfl, rfl⟩
end Go.Fs
namespace Go.Fs
open Go.RowKit (Below)
variable {P : Program}

def digs : Nat → Nat → List UInt8
  | 0, _ => []
  | f + 1, n => bif Nat.blt n 10 then [UInt8.ofNat (48 + n)] else digs f (n / 10) ++ [UInt8.ofNat (48 + n % 10)]
def itoaF (n : Int) : List UInt8 := match n with
  | .ofNat k => digs 20 k
  | .negSucc k => 45 :: digs 20 (k + 1)
def joinF (sep : List UInt8) : List (List UInt8) → List UInt8
  | [] => []
  | [w] => w
  | w :: r => w ++ sep ++ joinF sep r
def strs : List Value → Option (List ByteArray)
  | [] => some []
  | .string s :: r => (strs r).map (s :: ·)
  | _ => none

theorem digs_eq : ∀ (f n : Nat), n < 10 ^ (f + 1) → digs (f + 1) n = Lib.decDigits n
  | f, n, h => by
    unfold digs Lib.decDigits
    cases hb : Nat.blt n 10 with
    | true => rw [dif_pos (nblt hb)]; rfl
    | false =>
      have h1 : ¬ n < 10 := by have := nble_no hb; omega
      rw [dif_neg h1]
      simp only [cond_false]
      cases f with
      | zero => simp at h; omega
      | succ f => rw [digs_eq f (n / 10) (by rw [Nat.pow_succ] at h; omega)]
theorem itoaF_eq {n : Int} (h0 : -1000000000000000000 < n) (h1 : n < 1000000000000000000) : itoaF n = Lib.itoa n := by
  unfold Lib.itoa
  cases n with
  | ofNat k =>
    rw [if_neg (by simp)]
    show digs 20 k = _
    rw [digs_eq 19 k (by have : (k : Int) < 1000000000000000000 := h1; have : (10 : Nat) ^ (19 + 1) = 100000000000000000000 := by decide
                         omega)]
    rfl
  | negSucc k =>
    rw [if_pos (by omega)]
    show 45 :: digs 20 (k + 1) = _
    rw [digs_eq 19 (k + 1) (by have h2 : -1000000000000000000 < Int.negSucc k := h0; have : (10 : Nat) ^ (19 + 1) = 100000000000000000000 := by decide
                               omega)]
    rfl
theorem joinF_eq (sep : List UInt8) : ∀ xs : List (List UInt8), joinF sep xs = Lib.join xs sep
  | [] => rfl
  | [w] => by rw [Lib.join_one]; rfl
  | w :: v :: r => by
    rw [Lib.join_cons]
    simp only [joinF]
    rw [joinF_eq sep (v :: r), Lib.join_cons]
    simp [Lib.joinTail]

/-- strconv.Itoa is number fi, strings.Join number fj. -/
def orcS (fi fj : FuncId) : FuncId → List Value → Heap → Option (Value × Heap) := fun f xs h =>
  bif Nat.beq f fi then
    match xs with
    | [.int .i64 n] => bif decide (-1000000000000000000 < n) && decide (n < 1000000000000000000) then some (.string ⟨(itoaF n).toArray⟩, h) else none
    | _ => none
  else bif Nat.beq f fj then
    match xs with
    | [.slice (some ⟨b, o, none⟩) n _, .string sep] =>
      match h.get b with
      | some (.row _ cs _ _) =>
        bif Nat.ble (o + n) cs.length && Nat.ble n 1000000 then
          match strs ((cs.drop o).take n) with
          | some ss => let r := joinF sep.data.toList (ss.map (·.data.toList))
            bif Nat.ble r.length 1000000000 then some (.string ⟨r.toArray⟩, h) else none
          | none => none
        else none
      | _ => none
    | _ => none
  else none
variable {B : Nat} {w0 w w' : World} {ρ : Ren} {S : Nat → Prop} {h : Heap}
theorem strs_ok : ∀ (cs cs' : List Value) (ss : List ByteArray), LR ρ S cs cs' → strs cs = some ss → cs' = ss.map .string
  | [], cs', ss, hl, hs => by
    simp only [strs, Option.some.injEq] at hs
    subst hs
    exact List.eq_nil_of_length_eq_zero hl.1.symm
  | v :: r, [], ss, hl, _ => by have := hl.1; simp at this
  | v :: r, v' :: r', ss, hl, hs => by
    unfold strs at hs
    split at hs
    · rename_i he; cases he
    · rename_i s r0 he
      simp only [List.cons.injEq] at he
      obtain ⟨rfl, rfl⟩ := he
      obtain ⟨ss0, h1, rfl⟩ := Option.map_eq_some_iff.1 hs
      have hv : VR ρ S (.string s) v' := hl.2 0 (by simp)
      have hr : LR ρ S r r' := ⟨by have := hl.1; simpa using this, fun i hi => by have := hl.2 (i + 1) (by simp; omega); simpa using this⟩
      rw [hv.string_inv, strs_ok r r' ss0 hr h1]
      rfl
    · cases hs

/-- The two contracts make the oracle sound. -/
theorem orcS_sound {fi fj : FuncId} (hi : Enters P fi) (hj : Enters P fj)
    (hI : ∀ (n : Int) (w : World), Below B w0 w → -9223372036854775808 ≤ n → n ≤ 9223372036854775807 → Calls P fi #[.int .i64 n] w fun e w' => e = .returned (.string ⟨(Lib.itoa n).toArray⟩) ∧ Below w.heap.size w w')
    (hJ : ∀ (bk o c : Nat) (xs : List ByteArray) (sep : ByteArray) (w : World), (∀ (j : Nat) x, xs[j]? = some x → w.cell? ⟨bk, o + j, none⟩ = some (.string x)) → bk < w.heap.size → xs.length ≤ 140737488355328 → xs.length ≤ c →
      (Lib.join (xs.map (·.data.toList)) sep.data.toList).length ≤ 140737488355328 →
      Calls P fj #[.slice (some ⟨bk, o, none⟩) xs.length c, .string sep] w fun e w' => e = .returned (.string ⟨(Lib.join (xs.map (·.data.toList)) sep.data.toList).toArray⟩) ∧ Below w.heap.size w w') :
    CallSound P B w0 (orcS fi fj) := by
  intro f xs h v h' hf
  unfold orcS at hf
  cases hfi : Nat.beq f fi with
  | true =>
    have := nbeq hfi
    subst this
    rw [hfi] at hf
    simp only [cond_true] at hf
    split at hf
    · rename_i n
      obtain ⟨hc, hf2⟩ := bif_some hf
      obtain ⟨h0, h1⟩ := band hc
      have h0 := of_decide_eq_true h0
      have h1 := of_decide_eq_true h1
      simp only [Option.some.injEq, Prod.mk.injEq] at hf2
      obtain ⟨rfl, rfl⟩ := hf2
      refine ⟨hi, fun ρ S w args' hr ha nn => ?_⟩
      have he : args' = [.int .i64 n] := ha.eq_of_af (by rfl)
      subst he
      have hC : CallsIn Fence.wide nn P f #[.int .i64 n] w _ := callsIn_wide.2 (hI n w hr.below (by omega) (by omega))
      refine hC.mono fun e w' hret => ?_
      obtain ⟨rfl, hb⟩ := hret
      exact ⟨ρ, Moved.grewWorld hr hb, by rw [itoaF_eq h0 h1]; exact .lit rfl⟩
    · cases hf
  | false =>
    rw [hfi] at hf
    simp only [cond_false] at hf
    obtain ⟨hfj, hf2⟩ := bif_some hf
    have := nbeq hfj
    subst this
    clear hf
    split at hf2
    · rename_i b o n mk sep
      split at hf2
      · rename_i e cs own more hg
        obtain ⟨hc, hf3⟩ := bif_some hf2
        obtain ⟨hle, hn⟩ := band hc
        have hle := nble hle
        have hn := nble hn
        split at hf3
        · rename_i ss hss
          obtain ⟨hlen, hf4⟩ := bif_some hf3
          have hlen := nble hlen
          simp only [Option.some.injEq, Prod.mk.injEq] at hf4
          obtain ⟨rfl, rfl⟩ := hf4
          refine ⟨hj, fun ρ S w args' hr ha nn => ?_⟩
          match args', ha with
          | [x', s'], ha =>
            have hx : VR ρ S (.slice (some ⟨b, o, none⟩) n mk) x' := ha.2 0 (by simp)
            have hs : VR ρ S (.string sep) s' := ha.2 1 (by simp)
            obtain ⟨A, c, rfl, hnc, _, _, hb⟩ := hx.slice_inv
            obtain rfl := hs.string_inv
            have hb0 : b ≠ 0 := (hr.ids b (hr.objs b _ hg).1).2
            obtain ⟨_, rfl, _⟩ := hb hb0
            have hobj := (hr.objs b _ hg).2
            have hlt : (ρ b).block < w.heap.size := by
              by_cases hown : ownO (.row e cs own more) = true
              · exact hobj.lt hown
              · have := hr.ro b _ hg (by simpa using hown)
                have := hr.size
                omega
            have hlr : LR ρ S ((cs.drop o).take n) ((List.range n).map fun j => (w.cell? ((ρ b).at (o + j))).getD undef) := by
              refine LR.of_get? (by simp; omega) fun i v v' hv hv' => ?_
              rw [List.getElem?_take] at hv
              split at hv
              · rename_i hin
                rw [List.getElem?_drop] at hv
                obtain ⟨u, h1, h2⟩ := hobj.cell (i := o + i) (by omega)
                simp [hin, h1] at hv'
                subst hv'
                have : cs.getD (o + i) undef = v := by simp [List.getD, hv]
                rwa [this] at h2
              · cases hv
            have heq := strs_ok _ _ ss hlr hss
            have hsl : ss.length = n := by
              have := congrArg List.length heq
              simp at this
              omega
            have hcells : ∀ (j : Nat) x, ss[j]? = some x → w.cell? ⟨(ρ b).block, (ρ b).off + o + j, none⟩ = some (.string x) := fun j x hjx => by
              have hjn : j < n := by have := (List.getElem?_eq_some_iff.1 hjx).1; omega
              obtain ⟨u, h1, h2⟩ := hobj.cell (i := o + j) (by omega)
              have h3 := congrArg (·[j]?) heq
              simp [hjn, hjx, h1] at h3
              subst h3
              simpa [Loc.at, Nat.add_assoc] using h1
            rw [joinF_eq] at hlen
            have hC : CallsIn Fence.wide nn P f #[.slice (some ⟨(ρ b).block, (ρ b).off + o, none⟩) ss.length c, .string sep] w _ := callsIn_wide.2 (hJ (ρ b).block ((ρ b).off + o) c ss sep w hcells hlt (by omega) (by omega) (by omega))
            rw [hsl] at hC
            refine hC.mono fun e w' hret => ?_
            obtain ⟨rfl, hb⟩ := hret
            exact ⟨ρ, Moved.grewWorld hr hb, by rw [joinF_eq]; exact .lit rfl⟩
        · cases hf3
      · cases hf2
    · cases hf2

end Go.Fs
namespace Go.Fs
open Go.RowKit (Below)
variable {P : Program}

/-- As orcS; function fa answers true. -/
def orcA (fi fj fa : FuncId) : FuncId → List Value → Heap → Option (Value × Heap) := fun f xs h =>
  bif Nat.beq f fa then
    match xs with
    | [] => some (.bool true, h)
    | _ => none
  else orcS fi fj f xs h

theorem orcA_sound {B : Nat} {w0 : World} {fi fj fa : FuncId} (hS : CallSound P B w0 (orcS fi fj)) (ha : Enters P fa)
    (hA : ∀ w, Below B w0 w → Calls P fa #[] w fun | .returned v', w' => v' = .bool true ∧ Below w.heap.size w w' | _, _ => False) : CallSound P B w0 (orcA fi fj fa) := by
  intro f xs h v h' hf
  unfold orcA at hf
  cases hb : Nat.beq f fa with
  | true =>
    have := nbeq hb
    subst this
    rw [hb] at hf
    simp only [cond_true] at hf
    split at hf
    · simp only [Option.some.injEq, Prod.mk.injEq] at hf
      obtain ⟨rfl, rfl⟩ := hf
      refine ⟨ha, fun ρ S w args' hr har nn => ?_⟩
      have he : args' = [] := List.eq_nil_of_length_eq_zero har.1.symm
      subst he
      have hC : CallsIn Fence.wide nn P f #[] w _ := callsIn_wide.2 (hA w hr.below)
      refine hC.mono fun e w' hret => ?_
      cases e with
      | returned v' =>
        obtain ⟨rfl, hb⟩ := hret
        exact ⟨ρ, Moved.grewWorld hr hb, .lit rfl⟩
      | panicked c => exact hret.elim
      | outgrown => exact hret.elim
    · cases hf
  | false =>
    rw [hb] at hf
    exact hS f xs h v h' hf

/-- The closed call's soundness, at every world behind w0. -/
theorem awake_calls (hP : ProgOk P) {B : Nat} {w0 : World} {fi fj fa : FuncId} (hS : ∀ w, Below B w0 w → CallSound P w.heap.size w (orcS fi fj)) {m : Nat}
    (hrun : (fsEnter P (fsCode P (orcS fi fj) m) fa [] ⟨1, 1, []⟩).map (·.1) = some (.bool true)) (w : World) (hw : Below B w0 w) :
    Calls P fa #[] w fun | .returned v', w' => v' = .bool true ∧ Below w.heap.size w w' | _, _ => False :=
  fs_closed hP (hS w hw) (args := []) rfl hrun rfl
end Go.Fs
namespace Go.Proofs
open Go.Fs
set_option linter.unusedVariables false
def OA := orcA 211 154 16
def loops : Code → List Code
  | .seq a b => loops a ++ loops b
  | .cond _ a b => loops a ++ loops b
  | .block _ b | .scope b => loops b
  | .loop b => b :: loops b
  | .rangeFunc _ _ a b => loops a ++ loops b
  | _ => []
theorem vt3 : ValT Tryz.prog 3 (.int .i64) := valT_of (by kernel_rfl)
theorem vt26 : ValT Tryz.prog 26 (.int .i64) := valT_of (by kernel_rfl)
theorem el22 : ElT Tryz.prog 22 3 (.int .i64) := elT_of (by kernel_rfl)
theorem el179 : ElT Tryz.prog 179 26 (.int .i64) := elT_of (by kernel_rfl)
def whenE (c : Bool) (e : Int) : Int := bif c then e else 0
theorem sWhen_ok {h : Heap} {S : List Nat} {c : Bool} {e : Int} (hok : HOk h) (hS : ∀ b ∈ S, b < h.next) : EvF Tryz.prog OA 93 [.bool c, .int .i64 e] h fun r h' => r = .int .i64 (whenE c e) ∧ h' = h := by
  refine XF.enter Tryz.func93 rfl rfl rfl ?_
  have hok : HOk (entry h) := hok
  have hA := After.refl (entry h)
  show XC Tryz.prog OA none _ _ [] [(0, .bool c), (1, .int .i64 e)] (entry h) _
  refine XC.seq ?_
  refine XC.text ?_
  refine XO.c (.assign rfl) rfl rfl ?_
  refine XO.nil (thenC.go ?_)
  refine XC.seq ?_
  refine XC.seq ?_
  refine XC.text ?_
  refine XO.c (.move rfl) rfl rfl ?_
  refine XO.nil (thenC.go ?_)
  refine XC.condB rfl (fun c1 => ?_) (fun c1 => ?_)
  · subst c1
    refine XC.seq ?_
    refine XC.text ?_
    refine XO.c (.move rfl) rfl rfl ?_
    refine XO.c (.assign rfl) rfl rfl ?_
    refine XO.nil (thenC.go ?_)
    refine XC.ret fun tf htf => ?_
    refine thenC_ret ?_
    refine endF.one rfl rfl (htf 4 _ rfl) ?_
    exact ⟨congrArg (Value.int .i64) (by rfl), hA.leftAf rfl⟩
  · subst c1
    refine XC.skip (thenC.go ?_)
    refine XC.seq ?_
    refine XC.text ?_
    refine XO.c (.assign rfl) rfl rfl ?_
    refine XO.nil (thenC.go ?_)
    refine XC.ret fun tf htf => ?_
    refine endF.one rfl rfl (htf 4 _ rfl) ?_
    exact ⟨congrArg (Value.int .i64) (by rfl), hA.leftAf rfl⟩
def rangeE (n lo hi : Int) : Int := if n < lo ∨ hi < n then 3 else 0
theorem rCheckRange_ok {h : Heap} {S : List Nat} {n : Int} {lo : Int} {hi : Int} (hok : HOk h) (hS : ∀ b ∈ S, b < h.next) : EvF Tryz.prog OA 40 [.int .i64 n, .int .i64 lo, .int .i64 hi] h fun r h' => r = .int .i64 (rangeE n lo hi) ∧ h' = h := by
  refine XF.enter Tryz.func40 rfl rfl rfl ?_
  have hok : HOk (entry h) := hok
  have hA := After.refl (entry h)
  show XC Tryz.prog OA none _ _ [] [(0, .int .i64 n), (1, .int .i64 lo), (2, .int .i64 hi)] (entry h) _
  refine XC.seq ?_
  refine XC.text ?_
  refine XO.c (.assign rfl) rfl rfl ?_
  refine XO.nil (thenC.go ?_)
  refine XC.seq ?_
  refine XC.seq ?_
  refine XC.text ?_
  refine XO.c (.move rfl) rfl rfl ?_
  refine XO.c (.move rfl) rfl rfl ?_
  refine XO.c (.lss rfl rfl) rfl rfl ?_
  refine XO.c (.move rfl) rfl rfl ?_
  refine XO.splitD (x := 10) rfl (fun g1_3 => ?_) (fun g1_3 => ?_)
  · refine XO.skip rfl rfl rfl rfl rfl ?_
    refine XO.skip rfl rfl rfl rfl rfl ?_
    refine XO.skip rfl rfl rfl rfl rfl ?_
    refine XO.c (.pickT rfl rfl) rfl rfl ?_
    refine XO.nil (thenC.go ?_)
    refine XC.condT rfl ?_
    refine XC.seq ?_
    refine XC.text ?_
    refine XO.c (.assign rfl) rfl rfl ?_
    refine XO.nil (thenC.go ?_)
    refine XC.ret fun tf htf => ?_
    refine thenC_ret ?_
    refine endF.one rfl rfl (htf 6 _ rfl) ?_
    exact ⟨congrArg (Value.int .i64) (by simp [rangeE, *]), hA.leftAf rfl⟩
  · refine XO.gc rfl rfl rfl (.move rfl) rfl rfl ?_
    refine XO.gc rfl rfl rfl (.move rfl) rfl rfl ?_
    refine XO.gc rfl rfl rfl (.gtr rfl rfl) rfl rfl ?_
    refine XO.c (.pickF rfl rfl) rfl rfl ?_
    refine XO.nil (thenC.go ?_)
    refine XC.condD rfl (fun c1 => ?_) (fun c1 => ?_)
    · refine XC.seq ?_
      refine XC.text ?_
      refine XO.c (.assign rfl) rfl rfl ?_
      refine XO.nil (thenC.go ?_)
      refine XC.ret fun tf htf => ?_
      refine thenC_ret ?_
      refine endF.one rfl rfl (htf 6 _ rfl) ?_
      exact ⟨congrArg (Value.int .i64) (by simp [rangeE, *]), hA.leftAf rfl⟩
    · refine XC.skip (thenC.go ?_)
      refine XC.seq ?_
      refine XC.text ?_
      refine XO.c (.assign rfl) rfl rfl ?_
      refine XO.nil (thenC.go ?_)
      refine XC.ret fun tf htf => ?_
      refine endF.one rfl rfl (htf 6 _ rfl) ?_
      exact ⟨congrArg (Value.int .i64) (by simp [rangeE, *]), hA.leftAf rfl⟩
theorem sWithin_ok {h : Heap} {S : List Nat} {n : Int} {lo : Int} {hi : Int} (hok : HOk h) (hS : ∀ b ∈ S, b < h.next) : EvF Tryz.prog OA 101 [.int .i64 n, .int .i64 lo, .int .i64 hi] h fun r h' => r = .int .i64 (rangeE n lo hi) ∧ h' = h := by
  refine XF.enter Tryz.func101 rfl rfl rfl ?_
  have hok : HOk (entry h) := hok
  have hA := After.refl (entry h)
  show XC Tryz.prog OA none _ _ [] [(0, .int .i64 n), (1, .int .i64 lo), (2, .int .i64 hi)] (entry h) _
  refine XC.seq ?_
  refine XC.text ?_
  refine XO.c (.assign rfl) rfl rfl ?_
  refine XO.nil (thenC.go ?_)
  refine XC.seq ?_
  refine XC.text ?_
  refine XO.c (.move rfl) rfl rfl ?_
  refine XO.c (.move rfl) rfl rfl ?_
  refine XO.c (.lss rfl rfl) rfl rfl ?_
  refine XO.c (.move rfl) rfl rfl ?_
  refine XO.splitD (x := 10) rfl (fun g1_3 => ?_) (fun g1_3 => ?_)
  · refine XO.skip rfl rfl rfl rfl rfl ?_
    refine XO.skip rfl rfl rfl rfl rfl ?_
    refine XO.skip rfl rfl rfl rfl rfl ?_
    refine XO.c (.pickT rfl rfl) rfl rfl ?_
    refine XO.call rfl rfl rfl rfl ?_
    refine EvF.mono (sWhen_ok (hA.ok hok) (hA.inS hS)  ) ?_
    rintro _ _ ⟨rfl, hh⟩
    obtain rfl := hh.symm
    clear hh
    refine XO.c (.assign rfl) rfl rfl ?_
    refine XO.nil (thenC.go ?_)
    refine XC.ret fun tf htf => ?_
    refine endF.one rfl rfl (htf 6 _ rfl) ?_
    exact ⟨congrArg (Value.int .i64) (by simp [rangeE, whenE, *]), hA.leftAf rfl⟩
  · refine XO.gc rfl rfl rfl (.move rfl) rfl rfl ?_
    refine XO.gc rfl rfl rfl (.move rfl) rfl rfl ?_
    refine XO.gc rfl rfl rfl (.gtr rfl rfl) rfl rfl ?_
    refine XO.c (.pickF rfl rfl) rfl rfl ?_
    refine XO.call rfl rfl rfl rfl ?_
    refine EvF.mono (sWhen_ok (hA.ok hok) (hA.inS hS)  ) ?_
    rintro _ _ ⟨rfl, hh⟩
    obtain rfl := hh.symm
    clear hh
    refine XO.c (.assign rfl) rfl rfl ?_
    refine XO.nil (thenC.go ?_)
    refine XC.ret fun tf htf => ?_
    refine endF.one rfl rfl (htf 6 _ rfl) ?_
    exact ⟨congrArg (Value.int .i64) (by simp [rangeE, whenE, *]), hA.leftAf rfl⟩
def firstE : List Int → Int
  | [] => 0
  | x :: r => if x = 0 then firstE r else x
theorem firstE_drop {xs : List Int} {j : Nat} (hj : j < xs.length) : firstE (xs.drop j) = if xs[j] = 0 then firstE (xs.drop (j + 1)) else xs[j] := by
  rw [List.drop_eq_getElem_cons hj]; rfl
theorem firstE_end {xs : List Int} {j : Nat} (hj : xs.length ≤ j) : firstE (xs.drop j) = 0 := by rw [List.drop_eq_nil_of_le hj]; rfl
theorem sFirst_ok {h : Heap} {S : List Nat} {v0 : Value} {l : List Int} (hok : HOk h) (hS : ∀ b ∈ S, b < h.next) (ha0 : SlV h S (.int .i64) v0 l) (hl : l.length < 1000000) : EvF Tryz.prog OA 92 [v0] h fun r h' => r = .int .i64 (firstE l) ∧ h' = h := by
  refine XF.enter Tryz.func92 rfl rfl rfl ?_
  have hok : HOk (entry h) := hok
  have hA := After.refl (entry h)
  replace ha0 := ha0.entry
  show XC Tryz.prog OA none _ _ [] [(0, v0)] (entry h) _
  refine XC.seq ?_
  refine XC.text ?_
  refine XO.c (.assign rfl) rfl rfl ?_
  refine XO.nil (thenC.go ?_)
  refine XC.seq ?_
  refine XC.seq ?_
  refine XC.text ?_
  refine XO.c (.move rfl) rfl rfl ?_
  refine XO.a (.len rfl (ha0.len el179)) rfl rfl ?_
  refine XO.c (.move rfl) rfl rfl ?_
  refine XO.nil (thenC.go ?_)
  refine XC.block ?_
  have hAL103 := hA
  have hkL103 := hA.ok hok
  have hSL103 := (hA.inS hS)
  refine XC.keep [(5, v0), (6, .int .i64 ((l.length : Nat) : Int)), (7, .int .i64 ((0 : Nat) : Int))] ⟨rfl, rfl, rfl, trivial⟩ ?_
  refine XC.loopI (I := fun (kk : Nat) (ff : FL) (hh : Heap) => ∃ (j : Nat), kk = l.length - j ∧ ff = [(5, v0), (6, .int .i64 ((l.length : Nat) : Int)), (7, .int .i64 ((j : Nat) : Int))] ∧ After (entry h) hh ∧ After (entry h) hh ∧ Goes (entry h) S hh S ∧ (j ≤ l.length) ∧ (firstE l = firstE (l.drop j))) ?_ _ _ _ ⟨0, rfl, rfl, hA, After.refl _, Goes.refl, (by omega), (by rfl)⟩
  clear hA
  rintro kk ff hh103 ⟨j, hk103, rfl, hA, aL103, nL103, hj, hf⟩
  replace ha0 := ha0.nx nL103
  refine XC.seq ?_
  refine XC.text ?_
  refine XO.c (.lss rfl rfl) rfl rfl ?_
  refine XO.nil (thenC.go ?_)
  refine XC.seq ?_
  refine XC.condD rfl (fun c2 => ?_) (fun c2 => ?_)
  · refine XC.skip (thenC.go ?_)
    refine XC.seq ?_
    refine XC.block ?_
    refine XC.seq ?_
    refine XC.text ?_
    refine XO.c (.indexAddr rfl rfl rfl (ha0.ix (j := j) el179 (by omega))) rfl rfl ?_
    refine XO.r (.load rfl (((ha0.at (j := j) (by omega))).ldInt vt26)) rfl rfl ?_
    refine XO.c (.assign rfl) rfl rfl ?_
    refine XO.nil (thenC.go ?_)
    refine XC.seq ?_
    refine XC.text ?_
    refine XO.c (.move rfl) rfl rfl ?_
    refine XO.c (.neq rfl rfl) rfl rfl ?_
    refine XO.nil (thenC.go ?_)
    refine XC.condD rfl (fun c4 => ?_) (fun c4 => ?_)
    · refine XC.seq ?_
      refine XC.text ?_
      refine XO.c (.move rfl) rfl rfl ?_
      refine XO.c (.assign rfl) rfl rfl ?_
      refine XO.nil (thenC.go ?_)
      refine XC.ret fun tf htf => ?_
      refine inBlock_ret ?_
      refine thenC_ret ?_
      refine loopQ_ret ?_
      refine inBlock_ret ?_
      refine thenC_ret ?_
      refine endF.one rfl rfl (htf 2 _ rfl) ?_
      exact ⟨congrArg (Value.int .i64) (by rw [hf, firstE_drop (by omega), if_neg c4]), hA.leftAf rfl⟩
    · refine XC.skip ?_
      intro tf htf
      refine inBlock_nrm ?_
      refine thenC.go ?_ tf htf
      refine XC.text ?_
      refine XO.c (.add rfl rfl (by omega)) rfl rfl ?_
      refine XO.c (.move rfl) rfl rfl ?_
      refine XO.nil ?_
      intro tf htf
      refine ⟨rfl, rfl, _, [(5, v0), (6, .int .i64 ((l.length : Nat) : Int)), (7, .int .i64 (((j + 1) : Nat) : Int))], ?_, htf.keep _ ⟨rfl, rfl, rfl, trivial⟩, (j + 1), rfl, rfl, hA, aL103, nL103, (by omega), (by rw [hf, firstE_drop (by omega), if_pos (by simpa using c4)])⟩
      omega
  · refine XC.exit ?_
    intro tf htf
    refine thenC_exit ?_
    refine loopQ_exit ?_
    refine inBlock_eq ?_
    refine thenC.go ?_ tf htf
    refine XC.seq ?_
    refine XC.text ?_
    refine XO.c (.assign rfl) rfl rfl ?_
    refine XO.nil (thenC.go ?_)
    refine XC.ret fun tf htf => ?_
    refine endF.one rfl rfl (htf 2 _ rfl) ?_
    exact ⟨congrArg (Value.int .i64) (by rw [hf, firstE_end (by omega)]), hA.leftAf rfl⟩
theorem rFirst_ok {h : Heap} {S : List Nat} {v0 : Value} {l : List Int} (hok : HOk h) (hS : ∀ b ∈ S, b < h.next) (ha0 : SlV h S (.int .i64) v0 l) (hl : l.length < 1000000) : EvF Tryz.prog OA 96 [v0] h fun r h' => r = .int .i64 (firstE l) ∧ h' = h := by
  refine XF.enter Tryz.func96 rfl rfl rfl ?_
  have hok : HOk (entry h) := hok
  have hA := After.refl (entry h)
  replace ha0 := ha0.entry
  show XC Tryz.prog OA none _ _ [] [(0, v0)] (entry h) _
  refine XC.seq ?_
  refine XC.text ?_
  refine XO.c (.assign rfl) rfl rfl ?_
  refine XO.nil (thenC.go ?_)
  refine XC.seq ?_
  refine XC.seq ?_
  refine XC.text ?_
  refine XO.c (.assign rfl) rfl rfl ?_
  refine XO.nil (thenC.go ?_)
  refine XC.block ?_
  have hAL104 := hA
  have hkL104 := hA.ok hok
  have hSL104 := (hA.inS hS)
  refine XC.keep [(0, v0), (3, .int .i64 ((0 : Nat) : Int))] ⟨rfl, rfl, trivial⟩ ?_
  refine XC.loopI (I := fun (kk : Nat) (ff : FL) (hh : Heap) => ∃ (j : Nat), kk = l.length - j ∧ ff = [(0, v0), (3, .int .i64 ((j : Nat) : Int))] ∧ After (entry h) hh ∧ After (entry h) hh ∧ Goes (entry h) S hh S ∧ (j ≤ l.length) ∧ (firstE l = firstE (l.drop j))) ?_ _ _ _ ⟨0, rfl, rfl, hA, After.refl _, Goes.refl, (by omega), (by rfl)⟩
  clear hA
  rintro kk ff hh104 ⟨j, hk104, rfl, hA, aL104, nL104, hj, hf⟩
  replace ha0 := ha0.nx nL104
  refine XC.seq ?_
  refine XC.seq ?_
  refine XC.text ?_
  refine XO.c (.move rfl) rfl rfl ?_
  refine XO.c (.move rfl) rfl rfl ?_
  refine XO.a (.len rfl (ha0.len el22)) rfl rfl ?_
  refine XO.c (.lss rfl rfl) rfl rfl ?_
  refine XO.nil (thenC.go ?_)
  refine XC.condD rfl (fun c2 => ?_) (fun c2 => ?_)
  · refine XC.skip (thenC.go ?_)
    refine XC.seq ?_
    refine XC.block ?_
    refine XC.seq ?_
    refine XC.text ?_
    refine XO.c (.move rfl) rfl rfl ?_
    refine XO.c (.move rfl) rfl rfl ?_
    refine XO.c (.indexAddr rfl rfl rfl (ha0.ix (j := j) el22 (by omega))) rfl rfl ?_
    refine XO.r (.load rfl (((ha0.at (j := j) (by omega))).ldInt vt3)) rfl rfl ?_
    refine XO.c (.neq rfl rfl) rfl rfl ?_
    refine XO.nil (thenC.go ?_)
    refine XC.condD rfl (fun c4 => ?_) (fun c4 => ?_)
    · refine XC.seq ?_
      refine XC.text ?_
      refine XO.c (.move rfl) rfl rfl ?_
      refine XO.c (.move rfl) rfl rfl ?_
      refine XO.c (.indexAddr rfl rfl rfl (ha0.ix (j := j) el22 (by omega))) rfl rfl ?_
      refine XO.r (.load rfl (((ha0.at (j := j) (by omega))).ldInt vt3)) rfl rfl ?_
      refine XO.c (.assign rfl) rfl rfl ?_
      refine XO.nil (thenC.go ?_)
      refine XC.ret fun tf htf => ?_
      refine inBlock_ret ?_
      refine thenC_ret ?_
      refine loopQ_ret ?_
      refine inBlock_ret ?_
      refine thenC_ret ?_
      refine endF.one rfl rfl (htf 2 _ rfl) ?_
      exact ⟨congrArg (Value.int .i64) (by rw [hf, firstE_drop (by omega), if_neg c4]), hA.leftAf rfl⟩
    · refine XC.skip ?_
      intro tf htf
      refine inBlock_nrm ?_
      refine thenC.go ?_ tf htf
      refine XC.text ?_
      refine XO.c (.move rfl) rfl rfl ?_
      refine XO.c (.add rfl rfl (by omega)) rfl rfl ?_
      refine XO.c (.assign rfl) rfl rfl ?_
      refine XO.nil ?_
      intro tf htf
      refine ⟨rfl, rfl, _, [(0, v0), (3, .int .i64 (((j + 1) : Nat) : Int))], ?_, htf.keep _ ⟨rfl, rfl, trivial⟩, (j + 1), rfl, rfl, hA, aL104, nL104, (by omega), (by rw [hf, firstE_drop (by omega), if_pos (by simpa using c4)])⟩
      omega
  · refine XC.exit ?_
    intro tf htf
    refine thenC_exit ?_
    refine loopQ_exit ?_
    refine inBlock_eq ?_
    refine thenC.go ?_ tf htf
    refine XC.seq ?_
    refine XC.text ?_
    refine XO.c (.assign rfl) rfl rfl ?_
    refine XO.nil (thenC.go ?_)
    refine XC.ret fun tf htf => ?_
    refine endF.one rfl rfl (htf 2 _ rfl) ?_
    exact ⟨congrArg (Value.int .i64) (by rw [hf, firstE_end (by omega)]), hA.leftAf rfl⟩
theorem lFirst_ok {h : Heap} {S : List Nat} {v0 : Value} {l : List Int} (hok : HOk h) (hS : ∀ b ∈ S, b < h.next) (ha0 : SlV h S (.int .i64) v0 l) (hl : l.length < 1000000) : EvF Tryz.prog OA 21 [v0] h fun r h' => r = .int .i64 (firstE l) ∧ h' = h := by
  refine XF.enter Tryz.func21 rfl rfl rfl ?_
  have hok : HOk (entry h) := hok
  have hA := After.refl (entry h)
  replace ha0 := ha0.entry
  show XC Tryz.prog OA none _ _ [] [(0, v0)] (entry h) _
  refine XC.seq ?_
  refine XC.text ?_
  refine XO.c (.assign rfl) rfl rfl ?_
  refine XO.nil (thenC.go ?_)
  refine XC.seq ?_
  refine XC.text ?_
  refine XO.c (.move rfl) rfl rfl ?_
  refine XO.call rfl rfl rfl rfl ?_
  refine EvF.mono (rFirst_ok (hA.ok hok) (hA.inS hS) ha0 (by first | assumption | omega)) ?_
  rintro _ _ ⟨rfl, hh⟩
  obtain rfl := hh.symm
  clear hh
  refine XO.c (.assign rfl) rfl rfl ?_
  refine XO.nil (thenC.go ?_)
  refine XC.ret fun tf htf => ?_
  refine endF.one rfl rfl (htf 2 _ rfl) ?_
  exact ⟨congrArg (Value.int .i64) (by first | rfl | simp), hA.leftAf rfl⟩
theorem lInts_ok {h : Heap} {S : List Nat} {v0 : Value} {l : List Int} (hok : HOk h) (hS : ∀ b ∈ S, b < h.next) (ha0 : SlV h S (.int .i64) v0 l) (hl : l.length < 1000000) : EvF Tryz.prog OA 19 [v0] h fun r h' => After h h' ∧ SlV h' S (.int .i64) r l := by
  refine XF.enter Tryz.func19 rfl rfl rfl ?_
  have hok : HOk (entry h) := hok
  have hA := After.refl (entry h)
  replace ha0 := ha0.entry
  show XC Tryz.prog OA none _ _ [] [(0, v0)] (entry h) _
  refine XC.seq ?_
  refine XC.text ?_
  refine XO.c (.assign rfl) rfl rfl ?_
  refine XO.nil (thenC.go ?_)
  refine XC.seq ?_
  refine XC.text ?_
  obtain ⟨e106, g106, a106, n106⟩ := build0 (P := Tryz.prog) (h := (entry h)) (h0 := entry h) (S0 := S) el22 hA hok
  refine XO.mk (.buildSlice rfl e106) rfl rfl ?_
  generalize hw106 : Value.slice (some ⟨(entry h).next, 0, none⟩) 0 0 = w106 at g106 n106 ⊢
  generalize hp106 : ((entry h).push (.row 3 [] true false)) = h106 at g106 a106 n106 ⊢
  have ok107 := hA.ok hok
  have gg107 : Goes (entry h) S h106 (ownB w106 ++ S) := n106
  replace hA := hA.trans a106
  replace ha0 := ha0.nx gg107
  refine XO.c (.move rfl) rfl rfl ?_
  obtain ⟨m108, out108, h108, e108, g108, a108, n108, l108⟩ := GrowR.allE (S0 := S) (h0 := (entry h)) el22 el22 g106 ha0 hA hok (hA.inS hS) (by simp; omega)
  refine XO.mk (.append rfl rfl e108) rfl rfl ?_
  have ok109 := hA.ok hok
  have gg109 : Goes h106 (ownB w106 ++ S) h108 (ownB out108 ++ S) := n108
  replace hA := a108
  replace ha0 := ha0.nx gg109
  refine XO.c (.assign rfl) rfl rfl ?_
  refine XO.nil (thenC.go ?_)
  refine XC.ret fun tf htf => ?_
  have s110 := g108.shut hS
  have gg110 : Goes h108 (ownB out108 ++ S) h108 S := nx_own
  replace ha0 := ha0.nx gg110
  refine endF.one rfl rfl (htf 2 _ rfl) ?_
  refine ⟨hA.left _, ?_⟩
  have hw := (s110).ret hA
  exact hw
end Go.Proofs
namespace Go.Proofs
open Go.Fs
set_option linter.unusedVariables false
theorem vt22 : ValT Tryz.prog 22 (.sl (.int .i64)) := valT_of (by kernel_rfl)
theorem sMapIE_ok {h : Heap} {S : List Nat} {v0 : Value} {l : List Int} {f_f : FuncId} {f_a f_b : Array Value} {F : Int → Int} (hok : HOk h) (hS : ∀ b ∈ S, b < h.next) (ha0 : SlV h S (.int .i64) v0 l) (hl : l.length < 100000) (hf : ∀ {h2 : Heap} {S2 : List Nat} {x : Int}, HOk h2 → (∀ b ∈ S2, b < h2.next) → After h h2 → x ∈ l → EvF Tryz.prog OA f_f (f_a.toList ++ [.int .i64 x] ++ f_b.toList) h2 fun r h' => r = .int .i64 (F x) ∧ h' = h2) : EvF Tryz.prog OA 99 [v0, .func (.func f_f) f_a f_b] h fun r h' => After h h' ∧ SlV h' S (.int .i64) r (l.map F) := by
  refine XF.enter Tryz.func99 rfl rfl rfl ?_
  have hok : HOk (entry h) := hok
  have hA := After.refl (entry h)
  replace ha0 := ha0.entry
  show XC Tryz.prog OA none _ _ [] [(0, v0), (1, .func (.func f_f) f_a f_b)] (entry h) _
  refine XC.seq ?_
  refine XC.text ?_
  refine XO.c (.assign rfl) rfl rfl ?_
  refine XO.nil (thenC.go ?_)
  refine XC.seq ?_
  refine XC.text ?_
  refine XO.c (.assign rfl) rfl rfl ?_
  refine XO.nil (thenC.go ?_)
  refine XC.seq ?_
  refine XC.seq ?_
  refine XC.text ?_
  refine XO.c (.move rfl) rfl rfl ?_
  refine XO.a (.len rfl (ha0.len el22)) rfl rfl ?_
  refine XO.c (.move rfl) rfl rfl ?_
  refine XO.nil (thenC.go ?_)
  refine XC.block ?_
  have hAL101 := hA
  have hkL101 := hA.ok hok
  have hSL101 := (hA.inS hS)
  refine XC.keep [(1, .func (.func f_f) f_a f_b), (5, .slice none 0 0), (8, v0), (9, .int .i64 ((l.length : Nat) : Int)), (10, .int .i64 ((0 : Nat) : Int))] ⟨rfl, rfl, rfl, rfl, rfl, trivial⟩ ?_
  refine XC.loopI (I := fun (kk : Nat) (ff : FL) (hh : Heap) => ∃ (j : Nat) (out : Value), kk = l.length - j ∧ ff = [(1, .func (.func f_f) f_a f_b), (5, out), (8, v0), (9, .int .i64 ((l.length : Nat) : Int)), (10, .int .i64 ((j : Nat) : Int))] ∧ After (entry h) hh ∧ After (entry h) hh ∧ Goes (entry h) S hh (ownB out ++ S) ∧ GrowR hh (ownB out ++ S) (entry h).next 26 true (.int .i64) out ((l.take j).map F) ∧ (j ≤ l.length)) ?_ _ _ _ ⟨0, .slice none 0 0, rfl, rfl, hA, After.refl _, Goes.refl, (GrowR.nil), (by omega)⟩
  clear hA
  rintro kk ff hh101 ⟨j, out, hk101, rfl, hA, aL101, nL101, g_out101, hj⟩
  replace ha0 := ha0.nx nL101
  refine XC.seq ?_
  refine XC.text ?_
  refine XO.c (.lss rfl rfl) rfl rfl ?_
  refine XO.nil (thenC.go ?_)
  refine XC.seq ?_
  refine XC.condD rfl (fun c3 => ?_) (fun c3 => ?_)
  · refine XC.skip (thenC.go ?_)
    refine XC.seq ?_
    refine XC.block ?_
    refine XC.seq ?_
    refine XC.text ?_
    refine XO.c (.indexAddr rfl rfl rfl (ha0.ix (j := j) el22 (by omega))) rfl rfl ?_
    refine XO.r (.load rfl (((ha0.at (j := j) (by omega))).ldInt vt3)) rfl rfl ?_
    refine XO.c (.assign rfl) rfl rfl ?_
    refine XO.nil (thenC.go ?_)
    refine XC.text ?_
    refine XO.c (.move rfl) rfl rfl ?_
    refine XO.c (.move rfl) rfl rfl ?_
    refine XO.c (.move rfl) rfl rfl ?_
    refine XO.call rfl rfl rfl rfl ?_
    refine EvF.mono (hf (hA.ok hok) (g_out101.inS (hA.ok hok) (hA.inS hS))  hA.ofEntry (List.getElem_mem _)) ?_
    rintro _ _ ⟨rfl, hh⟩
    obtain rfl := hh.symm
    clear hh
    refine XO.pushR (S0 := S) (h0 := (entry h)) el179 el179 rfl rfl g_out101 (RepV.ofInt .i64 _) aL101 hkL101 (hA.inS hS) (by simp; omega) (by decide) rfl rfl rfl ?_
    intro out103 h103 g103 a103 n103 l103
    have ok104 := hA.ok hok
    have gg104 : Goes hh101 (ownB out ++ S) h103 (ownB out103 ++ S) := n103
    replace hA := hAL101.trans a103
    replace aL101 := a103
    replace nL101 := nL101.trans gg104
    replace ha0 := ha0.nx gg104
    refine XO.c (.assign rfl) rfl rfl ?_
    refine XO.nil ?_
    intro tf htf
    refine inBlock_nrm ?_
    refine thenC.go ?_ tf htf
    refine XC.text ?_
    refine XO.c (.add rfl rfl (by omega)) rfl rfl ?_
    refine XO.c (.move rfl) rfl rfl ?_
    refine XO.nil ?_
    intro tf htf
    refine ⟨rfl, rfl, _, [(1, .func (.func f_f) f_a f_b), (5, out103), (8, v0), (9, .int .i64 ((l.length : Nat) : Int)), (10, .int .i64 (((j + 1) : Nat) : Int))], ?_, htf.keep _ ⟨rfl, rfl, rfl, rfl, rfl, trivial⟩, (j + 1), out103, rfl, rfl, hA, aL101, nL101, (by rw [List.take_succ_eq_append_getElem (by omega), List.map_append]; exact g103), (by omega)⟩
    omega
  · refine XC.exit ?_
    intro tf htf
    refine thenC_exit ?_
    refine loopQ_exit ?_
    refine inBlock_eq ?_
    refine thenC.go ?_ tf htf
    refine XC.seq ?_
    refine XC.text ?_
    refine XO.c (.move rfl) rfl rfl ?_
    refine XO.c (.assign rfl) rfl rfl ?_
    refine XO.nil (thenC.go ?_)
    refine XC.ret fun tf htf => ?_
    have s105 := g_out101.shut hSL101
    have gg105 : Goes hh101 (ownB out ++ S) hh101 S := nx_own
    replace ha0 := ha0.nx gg105
    refine endF.one rfl rfl (htf 4 _ rfl) ?_
    refine ⟨hA.left _, ?_⟩
    have hw := (s105).ret hA
    rw [List.take_of_length_le (by omega)] at hw; exact hw
theorem sTap_ok {h : Heap} {S : List Nat} {n : Int} (hok : HOk h) (hS : ∀ b ∈ S, b < h.next) : EvF Tryz.prog OA 100 [.int .i64 n] h fun r h' => r = .int .i64 (rangeE n (-64) 64) ∧ h' = h := by
  refine XF.enter Tryz.func100 rfl rfl rfl ?_
  have hok : HOk (entry h) := hok
  have hA := After.refl (entry h)
  show XC Tryz.prog OA none _ _ [] [(0, .int .i64 n)] (entry h) _
  refine XC.seq ?_
  refine XC.text ?_
  refine XO.c (.assign rfl) rfl rfl ?_
  refine XO.nil (thenC.go ?_)
  refine XC.seq ?_
  refine XC.text ?_
  refine XO.c (.move rfl) rfl rfl ?_
  refine XO.call rfl rfl rfl rfl ?_
  refine EvF.mono (sWithin_ok (hA.ok hok) (hA.inS hS)  ) ?_
  rintro _ _ ⟨rfl, hh⟩
  obtain rfl := hh.symm
  clear hh
  refine XO.c (.assign rfl) rfl rfl ?_
  refine XO.nil (thenC.go ?_)
  refine XC.ret fun tf htf => ?_
  refine endF.one rfl rfl (htf 2 _ rfl) ?_
  exact ⟨congrArg (Value.int .i64) (by first | rfl | simp), hA.leftAf rfl⟩
theorem sHeight_ok {h : Heap} {S : List Nat} {n : Int} (hok : HOk h) (hS : ∀ b ∈ S, b < h.next) : EvF Tryz.prog OA 109 [.int .i64 n] h fun r h' => r = .int .i64 (rangeE n (-1048576) 1048576) ∧ h' = h := by
  refine XF.enter Tryz.func109 rfl rfl rfl ?_
  have hok : HOk (entry h) := hok
  have hA := After.refl (entry h)
  show XC Tryz.prog OA none _ _ [] [(0, .int .i64 n)] (entry h) _
  refine XC.seq ?_
  refine XC.text ?_
  refine XO.c (.assign rfl) rfl rfl ?_
  refine XO.nil (thenC.go ?_)
  refine XC.seq ?_
  refine XC.text ?_
  refine XO.c (.move rfl) rfl rfl ?_
  refine XO.call rfl rfl rfl rfl ?_
  refine EvF.mono (sWithin_ok (hA.ok hok) (hA.inS hS)  ) ?_
  rintro _ _ ⟨rfl, hh⟩
  obtain rfl := hh.symm
  clear hh
  refine XO.c (.assign rfl) rfl rfl ?_
  refine XO.nil (thenC.go ?_)
  refine XC.ret fun tf htf => ?_
  refine endF.one rfl rfl (htf 2 _ rfl) ?_
  exact ⟨congrArg (Value.int .i64) (by first | rfl | simp), hA.leftAf rfl⟩
def heightsE (l : List Int) : Int := firstE (l.map fun x => rangeE x (-1048576) 1048576)
theorem sHeights_ok {h : Heap} {S : List Nat} {v0 : Value} {l : List Int} (hok : HOk h) (hS : ∀ b ∈ S, b < h.next) (ha0 : SlV h S (.int .i64) v0 l) (hl : l.length < 100000) : EvF Tryz.prog OA 94 [v0] h fun r h' => r = .int .i64 (heightsE l) ∧ h' = h := by
  refine XF.enter Tryz.func94 rfl rfl rfl ?_
  have hok : HOk (entry h) := hok
  have hA := After.refl (entry h)
  replace ha0 := ha0.entry
  show XC Tryz.prog OA none _ _ [] [(0, v0)] (entry h) _
  refine XC.seq ?_
  refine XC.text ?_
  refine XO.c (.assign rfl) rfl rfl ?_
  refine XO.nil (thenC.go ?_)
  refine XC.seq ?_
  refine XC.text ?_
  refine XO.c (.move rfl) rfl rfl ?_
  refine XO.call rfl rfl rfl rfl ?_
  refine EvF.mono (sMapIE_ok (hA.ok hok) (hA.inS hS) ha0 (F := fun x => rangeE x (-1048576) 1048576) hl (fun a b _ _ => sHeight_ok a b)) ?_
  rintro u108 h108 ⟨a108, s108⟩
  have ok109 := hA.ok hok
  have gg109 : Goes (entry h) S h108 S := a108.nx ok109
  replace hA := hA.trans a108
  replace ha0 := ha0.nx gg109
  refine XO.call rfl rfl rfl rfl ?_
  refine EvF.mono (sFirst_ok (hA.ok hok) (hA.inS hS) s108 (by simpa using (by omega : l.length < 1000000))) ?_
  rintro _ _ ⟨rfl, hh⟩
  obtain rfl := hh.symm
  clear hh
  refine XO.c (.assign rfl) rfl rfl ?_
  refine XO.nil (thenC.go ?_)
  refine XC.ret fun tf htf => ?_
  refine endF.one rfl rfl (htf 2 _ rfl) ?_
  exact ⟨congrArg (Value.int .i64) (by first | rfl | simp), hA.leftAf rfl⟩
theorem heightsE_drop {l : List Int} {j : Nat} (hj : j < l.length) : heightsE (l.drop j) = if rangeE l[j] (-1048576) 1048576 = 0 then heightsE (l.drop (j + 1)) else rangeE l[j] (-1048576) 1048576 := by
  rw [heightsE, List.drop_eq_getElem_cons hj]; rfl
theorem heightsE_end {l : List Int} {j : Nat} (hj : l.length ≤ j) : heightsE (l.drop j) = 0 := by rw [List.drop_eq_nil_of_le hj]; rfl
theorem rHeights_ok {h : Heap} {S : List Nat} {v0 : Value} {l : List Int} (hok : HOk h) (hS : ∀ b ∈ S, b < h.next) (ha0 : SlV h S (.int .i64) v0 l) (hl : l.length < 1000000) : EvF Tryz.prog OA 97 [v0] h fun r h' => r = .int .i64 (heightsE l) ∧ h' = h := by
  refine XF.enter Tryz.func97 rfl rfl rfl ?_
  have hok : HOk (entry h) := hok
  have hA := After.refl (entry h)
  replace ha0 := ha0.entry
  show XC Tryz.prog OA none _ _ [] [(0, v0)] (entry h) _
  refine XC.seq ?_
  refine XC.text ?_
  refine XO.c (.assign rfl) rfl rfl ?_
  refine XO.nil (thenC.go ?_)
  refine XC.seq ?_
  refine XC.seq ?_
  refine XC.text ?_
  refine XO.c (.assign rfl) rfl rfl ?_
  refine XO.nil (thenC.go ?_)
  refine XC.block ?_
  have hAL111 := hA
  have hkL111 := hA.ok hok
  have hSL111 := (hA.inS hS)
  refine XC.keep [(0, v0), (3, .int .i64 ((0 : Nat) : Int))] ⟨rfl, rfl, trivial⟩ ?_
  refine XC.loopI (I := fun (kk : Nat) (ff : FL) (hh : Heap) => ∃ (j : Nat), kk = l.length - j ∧ ff = [(0, v0), (3, .int .i64 ((j : Nat) : Int))] ∧ After (entry h) hh ∧ After (entry h) hh ∧ Goes (entry h) S hh S ∧ (j ≤ l.length) ∧ (heightsE l = heightsE (l.drop j))) ?_ _ _ _ ⟨0, rfl, rfl, hA, After.refl _, Goes.refl, (by omega), (by rfl)⟩
  clear hA
  rintro kk ff hh111 ⟨j, hk111, rfl, hA, aL111, nL111, hj, hf⟩
  replace ha0 := ha0.nx nL111
  refine XC.seq ?_
  refine XC.seq ?_
  refine XC.text ?_
  refine XO.c (.move rfl) rfl rfl ?_
  refine XO.c (.move rfl) rfl rfl ?_
  refine XO.a (.len rfl (ha0.len el22)) rfl rfl ?_
  refine XO.c (.lss rfl rfl) rfl rfl ?_
  refine XO.nil (thenC.go ?_)
  refine XC.condD rfl (fun c2 => ?_) (fun c2 => ?_)
  · refine XC.skip (thenC.go ?_)
    refine XC.seq ?_
    refine XC.block ?_
    refine XC.seq ?_
    refine XC.text ?_
    refine XO.c (.move rfl) rfl rfl ?_
    refine XO.c (.move rfl) rfl rfl ?_
    refine XO.c (.indexAddr rfl rfl rfl (ha0.ix (j := j) el22 (by omega))) rfl rfl ?_
    refine XO.r (.load rfl (((ha0.at (j := j) (by omega))).ldInt vt3)) rfl rfl ?_
    refine XO.call rfl rfl rfl rfl ?_
    refine EvF.mono (rCheckRange_ok (hA.ok hok) (hA.inS hS)  ) ?_
    rintro _ _ ⟨rfl, hh⟩
    obtain rfl := hh.symm
    clear hh
    refine XO.c (.assign rfl) rfl rfl ?_
    refine XO.nil (thenC.go ?_)
    refine XC.seq ?_
    refine XC.text ?_
    refine XO.c (.move rfl) rfl rfl ?_
    refine XO.c (.neq rfl rfl) rfl rfl ?_
    refine XO.nil (thenC.go ?_)
    refine XC.condD rfl (fun c5 => ?_) (fun c5 => ?_)
    · refine XC.seq ?_
      refine XC.text ?_
      refine XO.c (.move rfl) rfl rfl ?_
      refine XO.c (.assign rfl) rfl rfl ?_
      refine XO.nil (thenC.go ?_)
      refine XC.ret fun tf htf => ?_
      refine inBlock_ret ?_
      refine thenC_ret ?_
      refine loopQ_ret ?_
      refine inBlock_ret ?_
      refine thenC_ret ?_
      refine endF.one rfl rfl (htf 2 _ rfl) ?_
      exact ⟨congrArg (Value.int .i64) (by rw [hf, heightsE_drop (by omega), if_neg c5]), hA.leftAf rfl⟩
    · refine XC.skip ?_
      intro tf htf
      refine inBlock_nrm ?_
      refine thenC.go ?_ tf htf
      refine XC.text ?_
      refine XO.c (.move rfl) rfl rfl ?_
      refine XO.c (.add rfl rfl (by omega)) rfl rfl ?_
      refine XO.c (.assign rfl) rfl rfl ?_
      refine XO.nil ?_
      intro tf htf
      refine ⟨rfl, rfl, _, [(0, v0), (3, .int .i64 (((j + 1) : Nat) : Int))], ?_, htf.keep _ ⟨rfl, rfl, trivial⟩, (j + 1), rfl, rfl, hA, aL111, nL111, (by omega), (by rw [hf, heightsE_drop (by omega), if_pos (by simpa using c5)])⟩
      omega
  · refine XC.exit ?_
    intro tf htf
    refine thenC_exit ?_
    refine loopQ_exit ?_
    refine inBlock_eq ?_
    refine thenC.go ?_ tf htf
    refine XC.seq ?_
    refine XC.text ?_
    refine XO.c (.assign rfl) rfl rfl ?_
    refine XO.nil (thenC.go ?_)
    refine XC.ret fun tf htf => ?_
    refine endF.one rfl rfl (htf 2 _ rfl) ?_
    exact ⟨congrArg (Value.int .i64) (by rw [hf, heightsE_end (by omega)]), hA.leftAf rfl⟩
def numbersE (l : List Int) : Int := if (96 : Int) < l.length then 5 else heightsE l
theorem rNumbers_ok {h : Heap} {S : List Nat} {v0 : Value} {l : List Int} (hok : HOk h) (hS : ∀ b ∈ S, b < h.next) (ha0 : SlV h S (.int .i64) v0 l) (hl : l.length < 1000000) : EvF Tryz.prog OA 22 [v0] h fun r h' => r = .int .i64 (numbersE l) ∧ h' = h := by
  refine XF.enter Tryz.func22 rfl rfl rfl ?_
  have hok : HOk (entry h) := hok
  have hA := After.refl (entry h)
  replace ha0 := ha0.entry
  show XC Tryz.prog OA none _ _ [] [(0, v0)] (entry h) _
  refine XC.seq ?_
  refine XC.text ?_
  refine XO.c (.assign rfl) rfl rfl ?_
  refine XO.nil (thenC.go ?_)
  refine XC.seq ?_
  refine XC.seq ?_
  refine XC.text ?_
  refine XO.c (.move rfl) rfl rfl ?_
  refine XO.a (.len rfl (ha0.len el22)) rfl rfl ?_
  refine XO.c (.gtr rfl rfl) rfl rfl ?_
  refine XO.nil (thenC.go ?_)
  refine XC.condD rfl (fun c1 => ?_) (fun c1 => ?_)
  · refine XC.seq ?_
    refine XC.text ?_
    refine XO.c (.assign rfl) rfl rfl ?_
    refine XO.nil (thenC.go ?_)
    refine XC.ret fun tf htf => ?_
    refine thenC_ret ?_
    refine endF.one rfl rfl (htf 2 _ rfl) ?_
    exact ⟨congrArg (Value.int .i64) (by rw [numbersE, if_pos (by omega)]), hA.leftAf rfl⟩
  · refine XC.skip (thenC.go ?_)
    refine XC.seq ?_
    refine XC.text ?_
    refine XO.c (.move rfl) rfl rfl ?_
    refine XO.call rfl rfl rfl rfl ?_
    refine EvF.mono (rHeights_ok (hA.ok hok) (hA.inS hS) ha0 (by first | assumption | omega)) ?_
    rintro _ _ ⟨rfl, hh⟩
    obtain rfl := hh.symm
    clear hh
    refine XO.c (.assign rfl) rfl rfl ?_
    refine XO.nil (thenC.go ?_)
    refine XC.ret fun tf htf => ?_
    refine endF.one rfl rfl (htf 2 _ rfl) ?_
    exact ⟨congrArg (Value.int .i64) (by rw [numbersE, if_neg (by omega)]), hA.leftAf rfl⟩
theorem whenE_t {p : Prop} {inst : Decidable p} {e : Int} (h : p) : whenE (@decide p inst) e = e := by rw [decide_eq_true h]; rfl
theorem whenE_f {p : Prop} {inst : Decidable p} {e : Int} (h : ¬ p) : whenE (@decide p inst) e = 0 := by rw [decide_eq_false h]; rfl
def tapsE (l : List Int) : Int := firstE (l.map fun x => rangeE x (-64) 64)
def transferE (t : List Int × Int × Int) : Int := firstE [whenE (decide ((t.1.length : Int) = 0)) 12, whenE (decide ((8 : Int) < t.1.length)) 5, tapsE t.1, rangeE t.2.1 0 8, rangeE t.2.2 (-1024) 1024]
theorem sCheckTransfer_ok {h : Heap} {S : List Nat} {v0 : Value} {t : (List Int) × Int × Int} (hok : HOk h) (hS : ∀ b ∈ S, b < h.next) (ha0 : RepV h S (.pair (.sl (.int .i64)) (.pair (.int .i64) (.int .i64))) v0 t) (hl : t.1.length < 100000) : EvF Tryz.prog OA 24 [v0] h fun r h' => r = .int .i64 (transferE t) ∧ h' = h := by
  refine XF.enter Tryz.func24 rfl rfl rfl ?_
  have hok : HOk (entry h) := hok
  have hA := After.refl (entry h)
  replace ha0 := ha0.entry
  show XC Tryz.prog OA none _ _ [] [(0, v0)] (entry h) _
  refine XC.seq ?_
  refine XC.text ?_
  refine XO.boxR rfl ha0 (hA.ok hok) (hA.inS hS) rfl rfl ?_
  intro p114 h114 b114 a114
  have ok115 := hA.ok hok
  have gg115 : Goes (entry h) S h114 S := a114.nx ok115
  replace hA := hA.trans a114
  replace ha0 := ha0.nx gg115
  refine XO.c (.assign rfl) rfl rfl ?_
  refine XO.nil (thenC.go ?_)
  refine XC.seq ?_
  refine XC.text ?_
  refine XO.c (.fieldAddr rfl ((b114).fa (f := 0) (k := 0) (by kernel_rfl))) rfl rfl ?_
  obtain ⟨u116, e116, s116⟩ := ((b114).base.fst').ldSl vt22
  refine XO.r (.load rfl (e116)) rfl rfl ?_
  refine XO.call rfl rfl rfl rfl ?_
  refine EvF.mono (sMapIE_ok (hA.ok hok) (hA.inS hS) s116 (F := fun x => rangeE x (-64) 64) hl (fun a b _ _ => sTap_ok a b)) ?_
  rintro u117 h117 ⟨a117, s117⟩
  have ok118 := hA.ok hok
  have gg118 : Goes h114 S h117 S := a117.nx ok118
  replace hA := hA.trans a117
  replace ha0 := ha0.nx gg118
  replace b114 := b114.nx gg118
  replace s116 := s116.nx gg118
  refine XO.call rfl rfl rfl rfl ?_
  refine EvF.mono (sFirst_ok (hA.ok hok) (hA.inS hS) s117 (by simpa using (by omega : t.1.length < 1000000))) ?_
  rintro _ _ ⟨rfl, hh⟩
  obtain rfl := hh.symm
  clear hh
  refine XO.c (.assign rfl) rfl rfl ?_
  refine XO.nil (thenC.go ?_)
  refine XC.seq ?_
  refine XC.drawn ?_
  have hkr120 := hA.ok hok
  have hSr120 := (hA.inS hS)
  refine XD.c (b := 0) (.fieldAddr rfl ((b114).fa (f := 0) (k := 0) (by kernel_rfl))) rfl rfl rfl ?_
  obtain ⟨u121, e121, s121⟩ := ((b114).base.fst').ldSl vt22
  refine XD.ld (b := 1) (After.refl _) SegsOk.nil hkr120 rfl (e121) rfl rfl rfl rfl ?_
  refine XD.a (b := 3) rfl (.len rfl (s121.len el22)) rfl rfl rfl rfl ?_
  refine XD.c (b := 7) (.eql rfl rfl) rfl rfl rfl ?_
  refine XD.callV (bb := 15) (After.refl _) (SegsOk.cons ((After.refl _)).next (SegsOk.cons ((After.refl _)).next SegsOk.nil)) rfl rfl rfl rfl rfl rfl ?_
  intro M122 aM122 oM122
  refine EvF.mono (sWhen_ok (aM122.ok hkr120) (aM122.inS hSr120)  ) ?_
  rintro _ _ ⟨rfl, hh⟩
  refine ⟨hh, ?_⟩
  clear hh
  refine XD.c (b := 0) (.fieldAddr rfl ((b114).fa (f := 0) (k := 0) (by kernel_rfl))) rfl rfl rfl ?_
  obtain ⟨u123, e123, s123⟩ := ((b114).base.fst').ldSl vt22
  refine XD.ld (b := 32) (After.refl _) (SegsOk.cons ((After.refl _)).next (SegsOk.cons ((After.refl _)).next (SegsOk.cons ((After.refl _)).next SegsOk.nil))) hkr120 rfl (e123) rfl rfl rfl rfl ?_
  refine XD.a (b := 96) rfl (.len rfl (s123.len el22)) rfl rfl rfl rfl ?_
  refine XD.c (b := 224) (.gtr rfl rfl) rfl rfl rfl ?_
  refine XD.callV (bb := 511) (After.refl _) (SegsOk.cons ((After.refl _)).next (SegsOk.cons ((After.refl _)).next (SegsOk.cons ((After.refl _)).next (SegsOk.cons ((After.refl _)).next (SegsOk.cons ((After.refl _)).next SegsOk.nil))))) rfl rfl rfl rfl rfl rfl ?_
  intro M124 aM124 oM124
  refine EvF.mono (sWhen_ok (aM124.ok hkr120) (aM124.inS hSr120)  ) ?_
  rintro _ _ ⟨rfl, hh⟩
  refine ⟨hh, ?_⟩
  clear hh
  refine XD.c (b := 0) (.move rfl) rfl rfl rfl ?_
  refine XD.c (b := 0) (.fieldAddr rfl ((b114).fa (f := 1) (k := 1) (by kernel_rfl))) rfl rfl rfl ?_
  refine XD.ld (b := 2048) (After.refl _) (SegsOk.cons ((After.refl _)).next (SegsOk.cons ((After.refl _)).next (SegsOk.cons ((After.refl _)).next (SegsOk.cons ((After.refl _)).next (SegsOk.cons ((After.refl _)).next (SegsOk.cons ((After.refl _)).next SegsOk.nil)))))) hkr120 rfl ((((b114).base.snd' (m := 1) rfl (b114).isP).fst').ldInt vt3) rfl rfl rfl rfl ?_
  refine XD.callV (bb := 7167) (After.refl _) (SegsOk.cons ((After.refl _)).next (SegsOk.cons ((After.refl _)).next (SegsOk.cons ((After.refl _)).next (SegsOk.cons ((After.refl _)).next (SegsOk.cons ((After.refl _)).next (SegsOk.cons ((After.refl _)).next (SegsOk.cons ((After.refl _)).next SegsOk.nil))))))) rfl rfl rfl rfl rfl rfl ?_
  intro M125 aM125 oM125
  refine EvF.mono (sWithin_ok (aM125.ok hkr120) (aM125.inS hSr120)  ) ?_
  rintro _ _ ⟨rfl, hh⟩
  refine ⟨hh, ?_⟩
  clear hh
  refine XD.c (b := 0) (.fieldAddr rfl ((b114).fa (f := 2) (k := 2) (by kernel_rfl))) rfl rfl rfl ?_
  refine XD.ld (b := 16384) (After.refl _) (SegsOk.cons ((After.refl _)).next (SegsOk.cons ((After.refl _)).next (SegsOk.cons ((After.refl _)).next (SegsOk.cons ((After.refl _)).next (SegsOk.cons ((After.refl _)).next (SegsOk.cons ((After.refl _)).next (SegsOk.cons ((After.refl _)).next (SegsOk.cons ((After.refl _)).next SegsOk.nil)))))))) hkr120 rfl (((((b114).base.snd' (m := 1) rfl (b114).isP).snd' (m := 2) rfl (b114).isP)).ldInt vt3) rfl rfl rfl rfl ?_
  refine XD.callV (bb := 64511) (After.refl _) (SegsOk.cons ((After.refl _)).next (SegsOk.cons ((After.refl _)).next (SegsOk.cons ((After.refl _)).next (SegsOk.cons ((After.refl _)).next (SegsOk.cons ((After.refl _)).next (SegsOk.cons ((After.refl _)).next (SegsOk.cons ((After.refl _)).next (SegsOk.cons ((After.refl _)).next (SegsOk.cons ((After.refl _)).next SegsOk.nil))))))))) rfl rfl rfl rfl rfl rfl ?_
  intro M126 aM126 oM126
  refine EvF.mono (sWithin_ok (aM126.ok hkr120) (aM126.inS hSr120)  ) ?_
  rintro _ _ ⟨rfl, hh⟩
  refine ⟨hh, ?_⟩
  clear hh
  refine XD.lit (b := 131071) (h := h117) (S := S) (τ := (.int .i64)) (vsC (RepV.ofInt .i64 _) (vsC (RepV.ofInt .i64 _) (vsC (RepV.ofInt .i64 _) (vsC (RepV.ofInt .i64 _) (vs1 (RepV.ofInt .i64 _)))))) el179 rfl rfl rfl (by simp) (by simp) (by decide) (hA.ok hok) (hA.inS hS) rfl rfl rfl rfl ?_
  intro w127 h127 s127 a127
  have ha0o := ha0
  have b114o := b114
  have s116o := s116
  have s117o := s117
  have s121o := s121
  have s123o := s123
  have rg120 : Goes h117 S h117 S := Goes.refl
  have ra120 := After.refl h117
  have ok128 := hA.ok hok
  have gg128 : Goes h117 S h127 S := a127.nx ok128
  replace hA := hA.trans a127
  replace ha0 := ha0.nx gg128
  replace b114 := b114.nx gg128
  replace s116 := s116.nx gg128
  replace s117 := s117.nx gg128
  replace s121 := s121.nx gg128
  replace s123 := s123.nx gg128
  replace rg120 := rg120.trans gg128
  have ra120_127 := ra120.trans a127
  refine XD.callV (bb := 262143) ra120_127 (SegsOk.cons (ra120).next (SegsOk.cons ((After.refl _)).next (SegsOk.cons ((After.refl _)).next (SegsOk.cons ((After.refl _)).next (SegsOk.cons ((After.refl _)).next (SegsOk.cons ((After.refl _)).next (SegsOk.cons ((After.refl _)).next (SegsOk.cons ((After.refl _)).next (SegsOk.cons ((After.refl _)).next (SegsOk.cons ((After.refl _)).next (SegsOk.cons ((After.refl _)).next SegsOk.nil))))))))))) rfl rfl rfl rfl rfl rfl ?_
  intro M129 aM129 oM129
  obtain rfl := oM129 rfl
  refine EvF.mono (sFirst_ok (hA.ok hok) (hA.inS hS) (s127).entry (by simp)) ?_
  rintro _ _ ⟨rfl, hh⟩
  refine ⟨hh, ?_⟩
  clear hh
  refine XD.c (b := 524287) (.assign rfl) rfl rfl rfl ?_
  refine XD.nil (thenC.go ?_)
  refine XC.ret fun tf htf => ?_
  refine endF.one rfl rfl (htf 2 _ rfl) ?_
  exact ⟨congrArg (Value.int .i64) (by rfl), hA.leftAf rfl⟩
theorem tapsE_drop {l : List Int} {j : Nat} (hj : j < l.length) : tapsE (l.drop j) = if rangeE l[j] (-64) 64 = 0 then tapsE (l.drop (j + 1)) else rangeE l[j] (-64) 64 := by
  rw [tapsE, List.drop_eq_getElem_cons hj]; rfl
theorem tapsE_end {l : List Int} {j : Nat} (hj : l.length ≤ j) : tapsE (l.drop j) = 0 := by rw [List.drop_eq_nil_of_le hj]; rfl
theorem rangeE_or (n lo hi : Int) : rangeE n lo hi = 0 ∨ rangeE n lo hi = 3 := by unfold rangeE; split <;> simp
theorem tapsE_or (l : List Int) : tapsE l = 0 ∨ tapsE l = 3 := by
  unfold tapsE
  induction l with
  | nil => exact .inl rfl
  | cons x l ih => simp only [List.map_cons, firstE]; split
                   · exact ih
                   · exact rangeE_or ..
theorem rCheckTransfer_ok {h : Heap} {S : List Nat} {v0 : Value} {t : (List Int) × Int × Int} (hok : HOk h) (hS : ∀ b ∈ S, b < h.next) (ha0 : RepV h S (.pair (.sl (.int .i64)) (.pair (.int .i64) (.int .i64))) v0 t) (hl : t.1.length < 100000) : EvF Tryz.prog OA 20 [v0] h fun r h' => r = .int .i64 (transferE t) ∧ h' = h := by
  refine XF.enter Tryz.func20 rfl rfl rfl ?_
  have hok : HOk (entry h) := hok
  have hA := After.refl (entry h)
  replace ha0 := ha0.entry
  show XC Tryz.prog OA none _ _ [] [(0, v0)] (entry h) _
  refine XC.seq ?_
  refine XC.text ?_
  refine XO.boxR rfl ha0 (hA.ok hok) (hA.inS hS) rfl rfl ?_
  intro p130 h130 b130 a130
  have ok131 := hA.ok hok
  have gg131 : Goes (entry h) S h130 S := a130.nx ok131
  replace hA := hA.trans a130
  replace ha0 := ha0.nx gg131
  refine XO.c (.assign rfl) rfl rfl ?_
  refine XO.nil (thenC.go ?_)
  refine XC.seq ?_
  refine XC.seq ?_
  refine XC.text ?_
  refine XO.c (.fieldAddr rfl ((b130).fa (f := 0) (k := 0) (by kernel_rfl))) rfl rfl ?_
  obtain ⟨u132, e132, s132⟩ := ((b130).base.fst').ldSl vt22
  refine XO.r (.load rfl (e132)) rfl rfl ?_
  refine XO.a (.len rfl (s132.len el22)) rfl rfl ?_
  refine XO.c (.eql rfl rfl) rfl rfl ?_
  refine XO.nil (thenC.go ?_)
  refine XC.condD rfl (fun c1 => ?_) (fun c1 => ?_)
  · refine XC.seq ?_
    refine XC.text ?_
    refine XO.c (.assign rfl) rfl rfl ?_
    refine XO.nil (thenC.go ?_)
    refine XC.ret fun tf htf => ?_
    refine thenC_ret ?_
    refine endF.one rfl rfl (htf 2 _ rfl) ?_
    exact ⟨congrArg (Value.int .i64) (by simp only [transferE, whenE_t c1]; simp [firstE]), hA.leftAf rfl⟩
  · refine XC.skip (thenC.go ?_)
    refine XC.seq ?_
    refine XC.seq ?_
    refine XC.text ?_
    refine XO.c (.fieldAddr rfl ((b130).fa (f := 0) (k := 0) (by kernel_rfl))) rfl rfl ?_
    obtain ⟨u133, e133, s133⟩ := ((b130).base.fst').ldSl vt22
    refine XO.r (.load rfl (e133)) rfl rfl ?_
    refine XO.a (.len rfl (s133.len el22)) rfl rfl ?_
    refine XO.c (.gtr rfl rfl) rfl rfl ?_
    refine XO.nil (thenC.go ?_)
    refine XC.condD rfl (fun c3 => ?_) (fun c3 => ?_)
    · refine XC.seq ?_
      refine XC.text ?_
      refine XO.c (.assign rfl) rfl rfl ?_
      refine XO.nil (thenC.go ?_)
      refine XC.ret fun tf htf => ?_
      refine thenC_ret ?_
      refine endF.one rfl rfl (htf 2 _ rfl) ?_
      exact ⟨congrArg (Value.int .i64) (by simp only [transferE, whenE_f c1, whenE_t c3]; simp [firstE]), hA.leftAf rfl⟩
    · refine XC.skip (thenC.go ?_)
      refine XC.seq ?_
      refine XC.seq ?_
      refine XC.text ?_
      refine XO.c (.assign rfl) rfl rfl ?_
      refine XO.nil (thenC.go ?_)
      refine XC.block ?_
      have hAL134 := hA
      have hkL134 := hA.ok hok
      have hSL134 := (hA.inS hS)
      refine XC.keep [(1, p130), (3, .int .i64 ((0 : Nat) : Int))] ⟨rfl, rfl, trivial⟩ ?_
      refine XC.loopI (I := fun (kk : Nat) (ff : FL) (hh : Heap) => ∃ (j : Nat), kk = t.1.length - j ∧ ff = [(1, p130), (3, .int .i64 ((j : Nat) : Int))] ∧ After (entry h) hh ∧ After h130 hh ∧ Goes h130 S hh S ∧ (j ≤ t.1.length) ∧ (tapsE t.1 = tapsE (t.1.drop j))) ?_ _ _ _ ⟨0, rfl, rfl, hA, After.refl _, Goes.refl, (by omega), (by rfl)⟩
      clear hA
      rintro kk ff hh134 ⟨j, hk134, rfl, hA, aL134, nL134, hj, hf⟩
      replace ha0 := ha0.nx nL134
      replace b130 := b130.nx nL134
      replace s132 := s132.nx nL134
      replace s133 := s133.nx nL134
      refine XC.seq ?_
      refine XC.seq ?_
      refine XC.text ?_
      refine XO.c (.move rfl) rfl rfl ?_
      refine XO.c (.fieldAddr rfl ((b130).fa (f := 0) (k := 0) (by kernel_rfl))) rfl rfl ?_
      obtain ⟨u135, e135, s135⟩ := ((b130).base.fst').ldSl vt22
      refine XO.r (.load rfl (e135)) rfl rfl ?_
      refine XO.a (.len rfl (s135.len el22)) rfl rfl ?_
      refine XO.c (.lss rfl rfl) rfl rfl ?_
      refine XO.nil (thenC.go ?_)
      refine XC.condD rfl (fun c6 => ?_) (fun c6 => ?_)
      · refine XC.skip (thenC.go ?_)
        refine XC.seq ?_
        refine XC.block ?_
        refine XC.seq ?_
        refine XC.text ?_
        refine XO.c (.fieldAddr rfl ((b130).fa (f := 0) (k := 0) (by kernel_rfl))) rfl rfl ?_
        obtain ⟨u136, e136, s136⟩ := ((b130).base.fst').ldSl vt22
        refine XO.r (.load rfl (e136)) rfl rfl ?_
        refine XO.c (.move rfl) rfl rfl ?_
        refine XO.c (.indexAddr rfl rfl rfl (s136.ix (j := j) el22 (by omega))) rfl rfl ?_
        refine XO.r (.load rfl (((s136.at (j := j) (by omega))).ldInt vt3)) rfl rfl ?_
        refine XO.call rfl rfl rfl rfl ?_
        refine EvF.mono (rCheckRange_ok (hA.ok hok) (hA.inS hS)  ) ?_
        rintro _ _ ⟨rfl, hh⟩
        obtain rfl := hh.symm
        clear hh
        refine XO.c (.assign rfl) rfl rfl ?_
        refine XO.nil (thenC.go ?_)
        refine XC.seq ?_
        refine XC.text ?_
        refine XO.c (.move rfl) rfl rfl ?_
        refine XO.c (.neq rfl rfl) rfl rfl ?_
        refine XO.nil (thenC.go ?_)
        refine XC.condD rfl (fun c9 => ?_) (fun c9 => ?_)
        · refine XC.seq ?_
          refine XC.text ?_
          refine XO.c (.move rfl) rfl rfl ?_
          refine XO.c (.assign rfl) rfl rfl ?_
          refine XO.nil (thenC.go ?_)
          refine XC.ret fun tf htf => ?_
          refine inBlock_ret ?_
          refine thenC_ret ?_
          refine loopQ_ret ?_
          refine inBlock_ret ?_
          refine thenC_ret ?_
          refine endF.one rfl rfl (htf 2 _ rfl) ?_
          exact ⟨congrArg (Value.int .i64) (by have h9 := hf; rw [tapsE_drop (by omega), if_neg c9] at h9; simp only [transferE, whenE_f c1, whenE_f c3]; simp [firstE, h9, c9]), hA.leftAf rfl⟩
        · refine XC.skip ?_
          intro tf htf
          refine inBlock_nrm ?_
          refine thenC.go ?_ tf htf
          refine XC.text ?_
          refine XO.c (.move rfl) rfl rfl ?_
          refine XO.c (.add rfl rfl (by omega)) rfl rfl ?_
          refine XO.c (.assign rfl) rfl rfl ?_
          refine XO.nil ?_
          intro tf htf
          refine ⟨rfl, rfl, _, [(1, p130), (3, .int .i64 (((j + 1) : Nat) : Int))], ?_, htf.keep _ ⟨rfl, rfl, trivial⟩, (j + 1), rfl, rfl, hA, aL134, nL134, (by omega), (by rw [hf, tapsE_drop (by omega), if_pos (by simpa using c9)])⟩
          omega
      · refine XC.exit ?_
        intro tf htf
        refine thenC_exit ?_
        refine loopQ_exit ?_
        refine inBlock_eq ?_
        refine thenC.go ?_ tf htf
        refine XC.seq ?_
        refine XC.drawn ?_
        have hkr138 := hA.ok hok
        have hSr138 := (hA.inS hS)
        refine XD.c (b := 0) (.fieldAddr rfl ((b130).fa (f := 1) (k := 1) (by kernel_rfl))) rfl rfl rfl ?_
        refine XD.ld (b := 1) (After.refl _) SegsOk.nil hkr138 rfl ((((b130).base.snd' (m := 1) rfl (b130).isP).fst').ldInt vt3) rfl rfl rfl rfl ?_
        refine XD.callV (bb := 3) (After.refl _) (SegsOk.cons ((After.refl _)).next SegsOk.nil) rfl rfl rfl rfl rfl rfl ?_
        intro M139 aM139 oM139
        refine EvF.mono (rCheckRange_ok (aM139.ok hkr138) (aM139.inS hSr138)  ) ?_
        rintro _ _ ⟨rfl, hh⟩
        refine ⟨hh, ?_⟩
        clear hh
        refine XD.c (b := 0) (.fieldAddr rfl ((b130).fa (f := 2) (k := 2) (by kernel_rfl))) rfl rfl rfl ?_
        refine XD.ld (b := 8) (After.refl _) (SegsOk.cons ((After.refl _)).next (SegsOk.cons ((After.refl _)).next SegsOk.nil)) hkr138 rfl (((((b130).base.snd' (m := 1) rfl (b130).isP).snd' (m := 2) rfl (b130).isP)).ldInt vt3) rfl rfl rfl rfl ?_
        refine XD.callV (bb := 31) (After.refl _) (SegsOk.cons ((After.refl _)).next (SegsOk.cons ((After.refl _)).next (SegsOk.cons ((After.refl _)).next SegsOk.nil))) rfl rfl rfl rfl rfl rfl ?_
        intro M140 aM140 oM140
        refine EvF.mono (rCheckRange_ok (aM140.ok hkr138) (aM140.inS hSr138)  ) ?_
        rintro _ _ ⟨rfl, hh⟩
        refine ⟨hh, ?_⟩
        clear hh
        refine XD.lit (b := 63) (h := hh134) (S := S) (τ := (.int .i64)) (vsC (RepV.ofInt .i64 _) (vs1 (RepV.ofInt .i64 _))) el22 rfl rfl rfl (by simp) (by simp) (by decide) (hA.ok hok) (hA.inS hS) rfl rfl rfl rfl ?_
        intro w141 h141 s141 a141
        have ha0o := ha0
        have b130o := b130
        have s132o := s132
        have s133o := s133
        have s135o := s135
        have rg138 : Goes hh134 S hh134 S := Goes.refl
        have ra138 := After.refl hh134
        have ok142 := hA.ok hok
        have gg142 : Goes hh134 S h141 S := a141.nx ok142
        replace hA := hA.trans a141
        replace ha0 := ha0.nx gg142
        replace b130 := b130.nx gg142
        replace s132 := s132.nx gg142
        replace s133 := s133.nx gg142
        replace s135 := s135.nx gg142
        replace rg138 := rg138.trans gg142
        have ra138_141 := ra138.trans a141
        refine XD.callV (bb := 127) ra138_141 (SegsOk.cons (ra138).next (SegsOk.cons ((After.refl _)).next (SegsOk.cons ((After.refl _)).next (SegsOk.cons ((After.refl _)).next (SegsOk.cons ((After.refl _)).next SegsOk.nil))))) rfl rfl rfl rfl rfl rfl ?_
        intro M143 aM143 oM143
        obtain rfl := oM143 rfl
        refine EvF.mono (rFirst_ok (hA.ok hok) (hA.inS hS) (s141).entry (by simp)) ?_
        rintro _ _ ⟨rfl, hh⟩
        refine ⟨hh, ?_⟩
        clear hh
        refine XD.c (b := 255) (.assign rfl) rfl rfl rfl ?_
        refine XD.nil (thenC.go ?_)
        refine XC.ret fun tf htf => ?_
        refine endF.one rfl rfl (htf 2 _ rfl) ?_
        exact ⟨congrArg (Value.int .i64) (by have h9 := hf; rw [tapsE_end (by omega)] at h9; simp only [transferE, whenE_f c1, whenE_f c3]; simp [firstE, h9]), hA.leftAf rfl⟩

/-! ## Transfers, applied -/
def tapSum (a l : List Int) (i : Nat) : Nat → Int
  | 0 => 0
  | k + 1 => tapSum a l i k + a.getD k 0 * l.getD (max 0 ((i : Int) - k)).toNat 0
def applyE (t : List Int × Int × Int) (l : List Int) : List Int := (List.range l.length).map fun i => (tapSum t.1 l i t.1.length).fdiv (2 ^ t.2.1.toNat) + t.2.2
structure OkT (t : List Int × Int × Int) : Prop where
  taps : ∀ x ∈ t.1, -64 ≤ x ∧ x ≤ 64
  len : t.1.length ≤ 8
  shift : 0 ≤ t.2.1 ∧ t.2.1 ≤ 8
  off : -1024 ≤ t.2.2 ∧ t.2.2 ≤ 1024
structure OkL (l : List Int) : Prop where
  all : ∀ x ∈ l, -1048576 ≤ x ∧ x ≤ 1048576
  len : l.length ≤ 96
theorem getD_mem_or {l : List Int} (i : Nat) : l.getD i 0 = 0 ∨ l.getD i 0 ∈ l := by
  by_cases h : i < l.length
  · right; simp [List.getD, h]
  · left; simp [List.getD, List.getElem?_eq_none (by omega : l.length ≤ i)]
theorem mul_bound {a b A B : Int} (h1 : -A ≤ a ∧ a ≤ A) (h2 : -B ≤ b ∧ b ≤ B) : -(A * B) ≤ a * b ∧ a * b ≤ A * B := by
  have hA : 0 ≤ A := by omega
  have hB : 0 ≤ B := by omega
  have e1 : 0 ≤ (A - a) * (B + b) := Int.mul_nonneg (by omega) (by omega)
  have e2 : 0 ≤ (A + a) * (B - b) := Int.mul_nonneg (by omega) (by omega)
  have e3 : 0 ≤ (A - a) * (B - b) := Int.mul_nonneg (by omega) (by omega)
  have e4 : 0 ≤ (A + a) * (B + b) := Int.mul_nonneg (by omega) (by omega)
  simp only [Int.sub_mul, Int.add_mul, Int.mul_sub, Int.mul_add] at e1 e2 e3 e4
  constructor <;> omega
theorem tap_bound {a l : List Int} (ha : ∀ x ∈ a, -64 ≤ x ∧ x ≤ 64) (hl : ∀ x ∈ l, -1048576 ≤ x ∧ x ≤ 1048576) (i j : Nat) : -67108864 ≤ a.getD i 0 * l.getD j 0 ∧ a.getD i 0 * l.getD j 0 ≤ 67108864 := by
  have h1 : -64 ≤ a.getD i 0 ∧ a.getD i 0 ≤ 64 := by
    rcases getD_mem_or (l := a) i with h | h
    · rw [h]; decide
    · exact ha _ h
  have h2 : -1048576 ≤ l.getD j 0 ∧ l.getD j 0 ≤ 1048576 := by
    rcases getD_mem_or (l := l) j with h | h
    · rw [h]; decide
    · exact hl _ h
  exact mul_bound (A := 64) (B := 1048576) h1 h2
theorem tapSum_bound {a l : List Int} (ha : ∀ x ∈ a, -64 ≤ x ∧ x ≤ 64) (hl : ∀ x ∈ l, -1048576 ≤ x ∧ x ≤ 1048576) (i : Nat) : ∀ k : Nat, -(67108864 * (k : Int)) ≤ tapSum a l i k ∧ tapSum a l i k ≤ 67108864 * (k : Int)
  | 0 => by simp [tapSum]
  | k + 1 => by
    have h1 := tapSum_bound ha hl i k
    have h2 := tap_bound ha hl k (max 0 ((i : Int) - k)).toNat
    simp only [tapSum]
    constructor <;> (push_cast; omega)
theorem getD_eq {l : List Int} {i : Nat} (h : i < l.length) : l[i] = l.getD i 0 := by simp [List.getD, h]
theorem fdiv_bound {n : Int} {s : Nat} (h : -1000000000 ≤ n ∧ n ≤ 1000000000) : -1000000000 ≤ n.fdiv (2 ^ s) ∧ n.fdiv (2 ^ s) ≤ 1000000000 := by
  have hp : (0 : Int) < 2 ^ s := Int.pow_pos (by decide)
  rw [Int.fdiv_eq_ediv_of_nonneg _ (Int.le_of_lt hp)]
  have h1 : (1 : Int) ≤ 2 ^ s := hp
  constructor
  · have : -1000000000 * 2 ^ s ≤ n := by
      have : (-1000000000 : Int) * 2 ^ s ≤ -1000000000 * 1 := Int.mul_le_mul_of_nonpos_left (by decide) h1
      omega
    exact (Int.le_ediv_iff_mul_le hp).2 this
  · refine Int.ediv_le_of_le_mul hp ?_
    have : (1000000000 : Int) * 1 ≤ 1000000000 * 2 ^ s := Int.mul_le_mul_of_nonneg_left h1 (by decide)
    omega
theorem sApplyT_ok {h : Heap} {S : List Nat} {v0 : Value} {t : (List Int) × Int × Int} {v1 : Value} {l : List Int} (hok : HOk h) (hS : ∀ b ∈ S, b < h.next) (ha0 : RepV h S (.pair (.sl (.int .i64)) (.pair (.int .i64) (.int .i64))) v0 t) (ha1 : SlV h S (.int .i64) v1 l) (ht : OkT t) (hl : OkL l) : EvF Tryz.prog OA 95 [v0, v1] h fun r h' => After h h' ∧ SlV h' S (.int .i64) r (applyE t l) := by
  refine XF.enter Tryz.func95 rfl rfl rfl ?_
  have hok : HOk (entry h) := hok
  have hA := After.refl (entry h)
  replace ha0 := ha0.entry
  replace ha1 := ha1.entry
  show XC Tryz.prog OA none _ _ [] [(0, v0), (1, v1)] (entry h) _
  refine XC.seq ?_
  refine XC.text ?_
  refine XO.boxR rfl ha0 (hA.ok hok) (hA.inS hS) rfl rfl ?_
  intro p144 h144 b144 a144
  have ok145 := hA.ok hok
  have gg145 : Goes (entry h) S h144 S := a144.nx ok145
  replace hA := hA.trans a144
  replace ha0 := ha0.nx gg145
  replace ha1 := ha1.nx gg145
  refine XO.c (.assign rfl) rfl rfl ?_
  refine XO.nil (thenC.go ?_)
  refine XC.seq ?_
  refine XC.text ?_
  refine XO.c (.assign rfl) rfl rfl ?_
  refine XO.nil (thenC.go ?_)
  refine XC.seq ?_
  refine XC.seq ?_
  refine XC.text ?_
  refine XO.c (.move rfl) rfl rfl ?_
  refine XO.a (.len rfl (ha1.len el22)) rfl rfl ?_
  refine XO.c (.move rfl) rfl rfl ?_
  refine XO.nil (thenC.go ?_)
  refine XC.block ?_
  have hAL146 := hA
  have hkL146 := hA.ok hok
  have hSL146 := (hA.inS hS)
  refine XC.keep [(1, v1), (2, p144), (5, .slice none 0 0), (11, .int .i64 ((l.length : Nat) : Int)), (12, .int .i64 ((0 : Nat) : Int))] ⟨rfl, rfl, rfl, rfl, rfl, trivial⟩ ?_
  refine XC.loopI (I := fun (kk : Nat) (ff : FL) (hh : Heap) => ∃ (j : Nat) (out : Value), kk = l.length - j ∧ ff = [(1, v1), (2, p144), (5, out), (11, .int .i64 ((l.length : Nat) : Int)), (12, .int .i64 ((j : Nat) : Int))] ∧ After (entry h) hh ∧ After h144 hh ∧ Goes h144 S hh (ownB out ++ S) ∧ GrowR hh (ownB out ++ S) h144.next 3 true (.int .i64) out ((List.range j).map fun i => (tapSum t.1 l i t.1.length).fdiv (2 ^ t.2.1.toNat) + t.2.2) ∧ (j ≤ l.length)) ?_ _ _ _ ⟨0, .slice none 0 0, rfl, rfl, hA, After.refl _, Goes.refl, (GrowR.nil), (by omega)⟩
  clear hA
  rintro kk ff hh146 ⟨j, out, hk146, rfl, hA, aL146, nL146, g_out146, hj⟩
  replace ha0 := ha0.nx nL146
  replace ha1 := ha1.nx nL146
  replace b144 := b144.nx nL146
  have h8 := hl.len
  have h9 := ht.len
  have h10 := ht.shift
  have h11 := ht.off
  refine XC.seq ?_
  refine XC.text ?_
  refine XO.c (.lss rfl rfl) rfl rfl ?_
  refine XO.nil (thenC.go ?_)
  refine XC.seq ?_
  refine XC.condD rfl (fun c3 => ?_) (fun c3 => ?_)
  · refine XC.skip (thenC.go ?_)
    refine XC.seq ?_
    refine XC.block ?_
    refine XC.seq ?_
    refine XC.text ?_
    refine XO.c (.move rfl) rfl rfl ?_
    refine XO.c (.assign rfl) rfl rfl ?_
    refine XO.nil (thenC.go ?_)
    refine XC.seq ?_
    refine XC.text ?_
    refine XO.c (.assign rfl) rfl rfl ?_
    refine XO.nil (thenC.go ?_)
    refine XC.seq ?_
    refine XC.seq ?_
    refine XC.text ?_
    refine XO.c (.fieldAddr rfl ((b144).fa (f := 0) (k := 0) (by kernel_rfl))) rfl rfl ?_
    obtain ⟨u147, e147, s147⟩ := ((b144).base.fst').ldSl vt22
    refine XO.r (.load rfl (e147)) rfl rfl ?_
    refine XO.a (.len rfl (s147.len el22)) rfl rfl ?_
    refine XO.c (.move rfl) rfl rfl ?_
    refine XO.nil (thenC.go ?_)
    refine XC.block ?_
    have hAL148 := hA
    have hkL148 := hA.ok hok
    have hSL148 := (g_out146.inS (hA.ok hok) (hA.inS hS))
    have g_out146L148 := g_out146
    have aL146o148 := aL146
    refine XC.keep [(1, v1), (2, p144), (5, out), (6, .int .i64 ((j : Nat) : Int)), (7, .int .i64 (tapSum t.1 l j 0)), (11, .int .i64 ((l.length : Nat) : Int)), (12, .int .i64 ((j : Nat) : Int)), (16, u147), (17, .int .i64 ((t.1.length : Nat) : Int)), (18, .int .i64 ((0 : Nat) : Int))] ⟨rfl, rfl, rfl, rfl, rfl, rfl, rfl, rfl, rfl, rfl, trivial⟩ ?_
    refine XC.loopI (I := fun (kk : Nat) (ff : FL) (hh : Heap) => ∃ (q : Nat), kk = t.1.length - q ∧ ff = [(1, v1), (2, p144), (5, out), (6, .int .i64 ((j : Nat) : Int)), (7, .int .i64 (tapSum t.1 l j q)), (11, .int .i64 ((l.length : Nat) : Int)), (12, .int .i64 ((j : Nat) : Int)), (16, u147), (17, .int .i64 ((t.1.length : Nat) : Int)), (18, .int .i64 ((q : Nat) : Int))] ∧ After (entry h) hh ∧ After hh146 hh ∧ Goes hh146 (ownB out ++ S) hh (ownB out ++ S) ∧ (q ≤ t.1.length)) ?_ _ _ _ ⟨0, rfl, rfl, hA, After.refl _, Goes.refl, (by omega)⟩
    clear hA
    rintro kk ff hh148 ⟨q, hk148, rfl, hA, aL148, nL148, hq⟩
    replace aL146 := aL146.trans aL148
    replace nL146 := nL146.trans nL148
    replace ha0 := ha0.nx nL148
    replace ha1 := ha1.nx nL148
    replace b144 := b144.nx nL148
    replace s147 := s147.nx nL148
    replace g_out146 := g_out146.keep aL148 hkL148
    refine XC.seq ?_
    refine XC.text ?_
    refine XO.c (.lss rfl rfl) rfl rfl ?_
    refine XO.nil (thenC.go ?_)
    refine XC.seq ?_
    refine XC.condD rfl (fun c7 => ?_) (fun c7 => ?_)
    · refine XC.skip (thenC.go ?_)
      refine XC.seq ?_
      refine XC.block ?_
      refine XC.seq ?_
      refine XC.text ?_
      refine XO.c (.move rfl) rfl rfl ?_
      refine XO.c (.indexAddr rfl rfl rfl (s147.ix (j := q) el22 (by omega))) rfl rfl ?_
      refine XO.r (.load rfl (((s147.at (j := q) (by omega))).ldInt vt3)) rfl rfl ?_
      refine XO.c (.assign rfl) rfl rfl ?_
      refine XO.c (.assign rfl) rfl rfl ?_
      refine XO.nil (thenC.go ?_)
      refine XC.text ?_
      refine XO.c (.move rfl) rfl rfl ?_
      refine XO.c (.move rfl) rfl rfl ?_
      refine XO.c (.move rfl) rfl rfl ?_
      refine XO.c (.move rfl) rfl rfl ?_
      refine XO.c (.move rfl) rfl rfl ?_
      refine XO.c (.sub rfl rfl (by omega)) rfl rfl ?_
      refine XO.a (.max rfl rfl) rfl rfl ?_
      refine XO.c (.indexAddr rfl rfl rfl (ha1.ixZ (n := (max (0 : Int) (((j : Nat) : Int) - ((q : Nat) : Int)))) el22 (by omega) (by omega))) rfl rfl ?_
      refine XO.r (.load rfl (((ha1.at (j := Int.toNat (max (0 : Int) (((j : Nat) : Int) - ((q : Nat) : Int)))) (by omega))).ldInt vt3)) rfl rfl ?_
      have b1 := tapSum_bound ht.taps hl.all j q
      have b2 : -67108864 ≤ t.1[q] * l[Int.toNat (max (0 : Int) (((j : Nat) : Int) - ((q : Nat) : Int)))] ∧ t.1[q] * l[Int.toNat (max (0 : Int) (((j : Nat) : Int) - ((q : Nat) : Int)))] ≤ 67108864 := by rw [getD_eq, getD_eq]; exact tap_bound ht.taps hl.all _ _
      refine XO.c (.mul rfl rfl (by omega)) rfl rfl ?_
      refine XO.c (.add rfl rfl (by omega)) rfl rfl ?_
      refine XO.c (.assign rfl) rfl rfl ?_
      refine XO.nil ?_
      intro tf htf
      refine inBlock_nrm ?_
      refine thenC.go ?_ tf htf
      refine XC.text ?_
      refine XO.c (.add rfl rfl (by omega)) rfl rfl ?_
      refine XO.c (.move rfl) rfl rfl ?_
      refine XO.nil ?_
      intro tf htf
      have eT : tapSum t.1 l j (q + 1) = tapSum t.1 l j q + t.1[q] * l[Int.toNat (max (0 : Int) (((j : Nat) : Int) - ((q : Nat) : Int)))] := by rw [tapSum, getD_eq, getD_eq]
      
      refine ⟨rfl, rfl, _, [(1, v1), (2, p144), (5, out), (6, .int .i64 ((j : Nat) : Int)), (7, .int .i64 (tapSum t.1 l j (q + 1))), (11, .int .i64 ((l.length : Nat) : Int)), (12, .int .i64 ((j : Nat) : Int)), (16, u147), (17, .int .i64 ((t.1.length : Nat) : Int)), (18, .int .i64 (((q + 1) : Nat) : Int))], ?_, htf.keep _ ⟨rfl, rfl, rfl, rfl, (congrArg (fun z => some z) (by exact congrArg _ eT.symm)), rfl, rfl, rfl, rfl, rfl, trivial⟩, (q + 1), rfl, rfl, hA, aL148, nL148, (by omega)⟩
      omega
    · refine XC.exit ?_
      intro tf htf
      refine thenC_exit ?_
      refine loopQ_exit ?_
      refine inBlock_eq ?_
      refine thenC.go ?_ tf htf
      refine XC.drawn ?_
      have hkr149 := hA.ok hok
      have hSr149 := (g_out146.inS (hA.ok hok) (hA.inS hS))
      refine XD.c (b := 0) (.move rfl) rfl rfl rfl ?_
      refine XD.c (b := 0) (.move rfl) rfl rfl rfl ?_
      refine XD.c (b := 0) (.fieldAddr rfl ((b144).fa (f := 1) (k := 1) (by kernel_rfl))) rfl rfl rfl ?_
      refine XD.ld (b := 4) (After.refl _) SegsOk.nil hkr149 rfl ((((b144).base.snd' (m := 1) rfl (b144).isP).fst').ldInt vt3) rfl rfl rfl rfl ?_
      have b3 := tapSum_bound ht.taps hl.all j q
      have b4 := fdiv_bound (n := tapSum t.1 l j q) (s := t.2.1.toNat) (by omega)
      refine XD.c (b := 14) (.shr rfl rfl (by omega)) rfl rfl rfl ?_
      refine XD.c (b := 0) (.fieldAddr rfl ((b144).fa (f := 2) (k := 2) (by kernel_rfl))) rfl rfl rfl ?_
      refine XD.ld (b := 32) (After.refl _) (SegsOk.cons ((After.refl _)).next SegsOk.nil) hkr149 rfl (((((b144).base.snd' (m := 1) rfl (b144).isP).snd' (m := 2) rfl (b144).isP)).ldInt vt3) rfl rfl rfl rfl ?_
      refine XD.c (b := 126) (.add rfl rfl (by omega)) rfl rfl rfl ?_
      refine XD.pushR (b := 254) (b2 := 511) (S0 := S) (h0 := h144) el22 el22 rfl (fun _ => rfl) g_out146 (RepV.ofInt .i64 _) aL146 hkL146 (hA.inS hS) (by simp; omega) (by decide) rfl rfl rfl rfl rfl rfl rfl ?_
      intro out150 h150 t150 g150 a150 n150 l150 w150 k150
      have ok151 := hA.ok hok
      have gg151 : Goes hh148 (ownB out ++ S) h150 (ownB out150 ++ S) := n150
      replace hA := hAL146.trans a150
      replace aL146 := a150
      replace nL146 := nL146.trans gg151
      replace ha0 := ha0.nx gg151
      replace ha1 := ha1.nx gg151
      replace b144 := b144.nx gg151
      replace s147 := s147.nx gg151
      refine XD.c (b := 1023) (.assign rfl) rfl rfl rfl ?_
      refine XD.nil ?_
      intro tf htf
      refine inBlock_nrm ?_
      refine thenC.go ?_ tf htf
      refine XC.text ?_
      refine XO.c (.add rfl rfl (by omega)) rfl rfl ?_
      refine XO.c (.move rfl) rfl rfl ?_
      refine XO.nil ?_
      intro tf htf
      refine ⟨rfl, rfl, _, [(1, v1), (2, p144), (5, out150), (11, .int .i64 ((l.length : Nat) : Int)), (12, .int .i64 (((j + 1) : Nat) : Int))], ?_, htf.keep _ ⟨rfl, rfl, rfl, rfl, rfl, trivial⟩, (j + 1), out150, rfl, rfl, hA, aL146, nL146, (by obtain rfl : q = t.1.length := (by omega); rw [List.range_succ, List.map_append]; exact g150), (by omega)⟩
      omega
  · refine XC.exit ?_
    intro tf htf
    refine thenC_exit ?_
    refine loopQ_exit ?_
    refine inBlock_eq ?_
    refine thenC.go ?_ tf htf
    refine XC.seq ?_
    refine XC.text ?_
    refine XO.c (.move rfl) rfl rfl ?_
    refine XO.c (.assign rfl) rfl rfl ?_
    refine XO.nil (thenC.go ?_)
    refine XC.ret fun tf htf => ?_
    have s152 := g_out146.shut hSL146
    have gg152 : Goes hh146 (ownB out ++ S) hh146 S := nx_own
    replace ha0 := ha0.nx gg152
    replace ha1 := ha1.nx gg152
    replace b144 := b144.nx gg152
    refine endF.one rfl rfl (htf 4 _ rfl) ?_
    refine ⟨hA.left _, ?_⟩
    have hw := (s152).ret hA
    rw [show j = l.length by omega] at hw; exact hw
end Go.Proofs
namespace Go.Proofs
open Go.Fs
set_option linter.unusedVariables false
theorem vt29 : ValT Tryz.prog 29 (.pair (.sl (.int .i64)) (.pair (.int .i64) (.int .i64))) := valT_of (by kernel_rfl)
theorem tdiv_fact (n d : Int) (h : 0 < d) : ∃ r, n.tdiv d * d + r = n ∧ -d < r ∧ r < d ∧ (0 ≤ n → 0 ≤ r) ∧ (n ≤ 0 → r ≤ 0) := by
  refine ⟨n.tmod d, ?_, ?_, ?_, ?_, ?_⟩
  · have := Int.tmod_add_mul_tdiv n d; rw [Int.mul_comm] at this; omega
  · exact Int.lt_tmod_of_pos n h
  · exact Int.tmod_lt_of_pos n h
  · exact fun hn => Int.tmod_nonneg d hn
  · intro hn
    have e : n = -(-n) := by omega
    rw [e, Int.neg_tmod]; have := Int.tmod_nonneg d (show 0 ≤ -n by omega); omega
theorem tdiv_bound {n d : Int} (h : 0 < d) {B : Int} (hB : -B ≤ n ∧ n ≤ B) : -B ≤ n.tdiv d ∧ n.tdiv d ≤ B := by
  by_cases hn : 0 ≤ n
  · rw [Int.tdiv_eq_ediv_of_nonneg hn]
    have h1 := Int.ediv_nonneg hn (Int.le_of_lt h)
    have h2 := Int.ediv_le_self d hn
    omega
  · have e : n = -(-n) := by omega
    rw [e, Int.neg_tdiv, Int.tdiv_eq_ediv_of_nonneg (show 0 ≤ -n by omega)]
    have h1 := Int.ediv_nonneg (show 0 ≤ -n by omega) (Int.le_of_lt h)
    have h2 := Int.ediv_le_self d (show 0 ≤ -n by omega)
    omega
theorem tdivm_bound {n d : Int} (h : 0 < d) {B : Int} (hB : -B ≤ n ∧ n ≤ B) : -(B + d) ≤ n.tdiv d * d ∧ n.tdiv d * d ≤ B + d := by
  obtain ⟨r, h1, h2, h3, _⟩ := tdiv_fact n d h
  omega
theorem floor_eq {n d : Int} (h : 0 < d) : n.fdiv d = if n < n.tdiv d * d then n.tdiv d - 1 else n.tdiv d := by
  obtain ⟨r, h1, h2, h3, h4, h5⟩ := tdiv_fact n d h
  rw [Int.fdiv_eq_ediv_of_nonneg _ (Int.le_of_lt h)]
  split
  · exact ((Int.ediv_emod_unique (r := r + d) h).2 ⟨by rw [Int.mul_sub, Int.mul_comm d]; omega, by omega, by omega⟩).1
  · exact ((Int.ediv_emod_unique (r := r) h).2 ⟨by rw [Int.mul_comm d]; omega, by omega, by omega⟩).1
theorem rFloor_ok {h : Heap} {S : List Nat} {num : Int} {den : Int} (hok : HOk h) (hS : ∀ b ∈ S, b < h.next) (hd : 0 < den ∧ den ≤ 1048576) (hn : -1000000000000 ≤ num ∧ num ≤ 1000000000000) : EvF Tryz.prog OA 98 [.int .i64 num, .int .i64 den] h fun r h' => r = .int .i64 (num.fdiv den) ∧ h' = h := by
  refine XF.enter Tryz.func98 rfl rfl rfl ?_
  have hok : HOk (entry h) := hok
  have hA := After.refl (entry h)
  show XC Tryz.prog OA none _ _ [] [(0, .int .i64 num), (1, .int .i64 den)] (entry h) _
  refine XC.seq ?_
  refine XC.text ?_
  refine XO.c (.assign rfl) rfl rfl ?_
  refine XO.nil (thenC.go ?_)
  refine XC.seq ?_
  refine XC.text ?_
  refine XO.c (.move rfl) rfl rfl ?_
  refine XO.c (.move rfl) rfl rfl ?_
  have b1 := tdiv_bound (n := num) (d := den) (by omega) (B := 1000000000000) hn
  refine XO.c (.quo rfl rfl (by omega) (by omega)) rfl rfl ?_
  refine XO.c (.assign rfl) rfl rfl ?_
  refine XO.nil (thenC.go ?_)
  refine XC.seq ?_
  refine XC.seq ?_
  refine XC.text ?_
  refine XO.c (.move rfl) rfl rfl ?_
  refine XO.c (.move rfl) rfl rfl ?_
  have b2 := tdivm_bound (n := num) (d := den) (by omega) (B := 1000000000000) hn
  refine XO.c (.mul rfl rfl (by omega)) rfl rfl ?_
  refine XO.c (.move rfl) rfl rfl ?_
  refine XO.c (.gtr rfl rfl) rfl rfl ?_
  refine XO.nil (thenC.go ?_)
  refine XC.condD rfl (fun c2 => ?_) (fun c2 => ?_)
  · refine XC.text ?_
    refine XO.c (.move rfl) rfl rfl ?_
    refine XO.c (.sub rfl rfl (by omega)) rfl rfl ?_
    refine XO.c (.assign rfl) rfl rfl ?_
    refine XO.nil (thenC.go ?_)
    refine XC.seq ?_
    refine XC.text ?_
    refine XO.c (.move rfl) rfl rfl ?_
    refine XO.c (.assign rfl) rfl rfl ?_
    refine XO.nil (thenC.go ?_)
    refine XC.ret fun tf htf => ?_
    refine endF.one rfl rfl (htf 4 _ rfl) ?_
    exact ⟨congrArg (Value.int .i64) (by rw [floor_eq (by omega)]; simp [c2]), hA.leftAf rfl⟩
  · refine XC.skip (thenC.go ?_)
    refine XC.seq ?_
    refine XC.text ?_
    refine XO.c (.move rfl) rfl rfl ?_
    refine XO.c (.assign rfl) rfl rfl ?_
    refine XO.nil (thenC.go ?_)
    refine XC.ret fun tf htf => ?_
    refine endF.one rfl rfl (htf 4 _ rfl) ?_
    exact ⟨congrArg (Value.int .i64) (by rw [floor_eq (by omega)]; simp [c2]), hA.leftAf rfl⟩
theorem pow_bound {q : Nat} (hq : q ≤ 8) : (1 : Int) ≤ 2 ^ q ∧ (2 : Int) ^ q ≤ 256 := by
  rcases (by omega : q = 0 ∨ q = 1 ∨ q = 2 ∨ q = 3 ∨ q = 4 ∨ q = 5 ∨ q = 6 ∨ q = 7 ∨ q = 8) with rfl | rfl | rfl | rfl | rfl | rfl | rfl | rfl | rfl <;> decide
theorem rApply_ok {h : Heap} {S : List Nat} {v0 : Value} {t : (List Int) × Int × Int} {v1 : Value} {l : List Int} (hok : HOk h) (hS : ∀ b ∈ S, b < h.next) (ha0 : RepV h S (.pair (.sl (.int .i64)) (.pair (.int .i64) (.int .i64))) v0 t) (ha1 : SlV h S (.int .i64) v1 l) (ht : OkT t) (hl : OkL l) : EvF Tryz.prog OA 23 [v0, v1] h fun r h' => After h h' ∧ SlV h' S (.int .i64) r (applyE t l) := by
  refine XF.enter Tryz.func23 rfl rfl rfl ?_
  have hok : HOk (entry h) := hok
  have hA := After.refl (entry h)
  replace ha0 := ha0.entry
  replace ha1 := ha1.entry
  have h8 := hl.len
  have h9 := ht.len
  have h10 := ht.shift
  have h11 := ht.off
  show XC Tryz.prog OA none _ _ [] [(0, v0), (1, v1)] (entry h) _
  refine XC.seq ?_
  refine XC.text ?_
  refine XO.boxR rfl ha0 (hA.ok hok) (hA.inS hS) rfl rfl ?_
  intro p101 h101 b101 a101
  have ok102 := hA.ok hok
  have gg102 : Goes (entry h) S h101 S := a101.nx ok102
  replace hA := hA.trans a101
  replace ha0 := ha0.nx gg102
  replace ha1 := ha1.nx gg102
  refine XO.c (.assign rfl) rfl rfl ?_
  refine XO.nil (thenC.go ?_)
  refine XC.seq ?_
  refine XC.text ?_
  refine XO.c (.assign rfl) rfl rfl ?_
  refine XO.nil (thenC.go ?_)
  refine XC.seq ?_
  refine XC.text ?_
  refine XO.c (.assign rfl) rfl rfl ?_
  refine XO.nil (thenC.go ?_)
  refine XC.seq ?_
  refine XC.seq ?_
  refine XC.text ?_
  refine XO.c (.assign rfl) rfl rfl ?_
  refine XO.nil (thenC.go ?_)
  refine XC.block ?_
  have hAL103 := hA
  have hkL103 := hA.ok hok
  have hSL103 := (hA.inS hS)
  refine XC.keep [(1, v1), (2, p101), (5, .slice none 0 0), (6, .int .i64 ((2 : Int) ^ 0)), (7, .int .i64 ((0 : Nat) : Int))] ⟨rfl, rfl, rfl, (congrArg (fun z => some z) (by rfl)), rfl, trivial⟩ ?_
  refine XC.loopI (I := fun (kk : Nat) (ff : FL) (hh : Heap) => ∃ (q : Nat), kk = t.2.1.toNat - q ∧ ff = [(1, v1), (2, p101), (5, .slice none 0 0), (6, .int .i64 ((2 : Int) ^ q)), (7, .int .i64 ((q : Nat) : Int))] ∧ After (entry h) hh ∧ After h101 hh ∧ Goes h101 S hh S ∧ (q ≤ t.2.1.toNat)) ?_ _ _ _ ⟨0, rfl, rfl, hA, After.refl _, Goes.refl, (by omega)⟩
  clear hA
  rintro kk ff hh103 ⟨q, hk103, rfl, hA, aL103, nL103, hq⟩
  replace ha0 := ha0.nx nL103
  replace ha1 := ha1.nx nL103
  replace b101 := b101.nx nL103
  refine XC.seq ?_
  refine XC.seq ?_
  refine XC.text ?_
  refine XO.c (.move rfl) rfl rfl ?_
  refine XO.c (.fieldAddr rfl ((b101).fa (f := 1) (k := 1) (by kernel_rfl))) rfl rfl ?_
  refine XO.r (.load rfl ((((b101).base.snd' (m := 1) rfl (b101).isP).fst').ldInt vt3)) rfl rfl ?_
  refine XO.c (.lss rfl rfl) rfl rfl ?_
  refine XO.nil (thenC.go ?_)
  refine XC.condD rfl (fun c4 => ?_) (fun c4 => ?_)
  · refine XC.skip (thenC.go ?_)
    refine XC.seq ?_
    refine XC.block ?_
    refine XC.text ?_
    refine XO.c (.move rfl) rfl rfl ?_
    have b0 := pow_bound (q := q) (by omega)
    refine XO.c (.mul rfl rfl (by omega)) rfl rfl ?_
    refine XO.c (.assign rfl) rfl rfl ?_
    refine XO.nil ?_
    intro tf htf
    refine inBlock_nrm ?_
    refine thenC.go ?_ tf htf
    refine XC.text ?_
    refine XO.c (.move rfl) rfl rfl ?_
    refine XO.c (.add rfl rfl (by omega)) rfl rfl ?_
    refine XO.c (.assign rfl) rfl rfl ?_
    refine XO.nil ?_
    intro tf htf
    refine ⟨rfl, rfl, _, [(1, v1), (2, p101), (5, .slice none 0 0), (6, .int .i64 ((2 : Int) ^ (q + 1))), (7, .int .i64 (((q + 1) : Nat) : Int))], ?_, htf.keep _ ⟨rfl, rfl, rfl, (congrArg (fun z => some z) (by rw [Int.pow_succ, Int.mul_comm])), rfl, trivial⟩, (q + 1), rfl, rfl, hA, aL103, nL103, (by omega)⟩
    omega
  · refine XC.exit ?_
    intro tf htf
    refine thenC_exit ?_
    refine loopQ_exit ?_
    refine inBlock_eq ?_
    refine thenC.go ?_ tf htf
    refine XC.seq ?_
    refine XC.seq ?_
    refine XC.text ?_
    refine XO.c (.assign rfl) rfl rfl ?_
    refine XO.nil (thenC.go ?_)
    refine XC.block ?_
    have hAL104 := hA
    have hkL104 := hA.ok hok
    have hSL104 := (hA.inS hS)
    refine XC.keep [(1, v1), (2, p101), (5, .slice none 0 0), (6, .int .i64 ((2 : Int) ^ q)), (8, .int .i64 ((0 : Nat) : Int))] ⟨rfl, rfl, rfl, rfl, rfl, trivial⟩ ?_
    refine XC.loopI (I := fun (kk : Nat) (ff : FL) (hh : Heap) => ∃ (j : Nat) (out : Value), kk = l.length - j ∧ ff = [(1, v1), (2, p101), (5, out), (6, .int .i64 ((2 : Int) ^ q)), (8, .int .i64 ((j : Nat) : Int))] ∧ After (entry h) hh ∧ After hh103 hh ∧ Goes hh103 S hh (ownB out ++ S) ∧ GrowR hh (ownB out ++ S) hh103.next 3 true (.int .i64) out ((List.range j).map fun i => (tapSum t.1 l i t.1.length).fdiv (2 ^ t.2.1.toNat) + t.2.2) ∧ (j ≤ l.length)) ?_ _ _ _ ⟨0, .slice none 0 0, rfl, rfl, hA, After.refl _, Goes.refl, (GrowR.nil), (by omega)⟩
    clear hA
    rintro kk ff hh104 ⟨j, out, hk104, rfl, hA, aL104, nL104, g_out104, hj⟩
    replace ha0 := ha0.nx nL104
    replace ha1 := ha1.nx nL104
    replace b101 := b101.nx nL104
    refine XC.seq ?_
    refine XC.seq ?_
    refine XC.text ?_
    refine XO.c (.move rfl) rfl rfl ?_
    refine XO.c (.move rfl) rfl rfl ?_
    refine XO.a (.len rfl (ha1.len el22)) rfl rfl ?_
    refine XO.c (.lss rfl rfl) rfl rfl ?_
    refine XO.nil (thenC.go ?_)
    refine XC.condD rfl (fun c8 => ?_) (fun c8 => ?_)
    · refine XC.skip (thenC.go ?_)
      refine XC.seq ?_
      refine XC.block ?_
      refine XC.seq ?_
      refine XC.text ?_
      refine XO.c (.assign rfl) rfl rfl ?_
      refine XO.nil (thenC.go ?_)
      refine XC.seq ?_
      refine XC.seq ?_
      refine XC.text ?_
      refine XO.c (.assign rfl) rfl rfl ?_
      refine XO.nil (thenC.go ?_)
      refine XC.block ?_
      have hAL105 := hA
      have hkL105 := hA.ok hok
      have hSL105 := (g_out104.inS (hA.ok hok) (hA.inS hS))
      have g_out104L105 := g_out104
      have aL104o105 := aL104
      refine XC.keep [(1, v1), (2, p101), (5, out), (6, .int .i64 ((2 : Int) ^ q)), (8, .int .i64 ((j : Nat) : Int)), (9, .int .i64 (tapSum t.1 l j 0)), (10, .int .i64 ((0 : Nat) : Int))] ⟨rfl, rfl, rfl, rfl, rfl, rfl, rfl, trivial⟩ ?_
      refine XC.loopI (I := fun (kk : Nat) (ff : FL) (hh : Heap) => ∃ (k : Nat), kk = t.1.length - k ∧ ff = [(1, v1), (2, p101), (5, out), (6, .int .i64 ((2 : Int) ^ q)), (8, .int .i64 ((j : Nat) : Int)), (9, .int .i64 (tapSum t.1 l j k)), (10, .int .i64 ((k : Nat) : Int))] ∧ After (entry h) hh ∧ After hh104 hh ∧ Goes hh104 (ownB out ++ S) hh (ownB out ++ S) ∧ (k ≤ t.1.length)) ?_ _ _ _ ⟨0, rfl, rfl, hA, After.refl _, Goes.refl, (by omega)⟩
      clear hA
      rintro kk ff hh105 ⟨k, hk105, rfl, hA, aL105, nL105, hk⟩
      replace aL104 := aL104.trans aL105
      replace nL104 := nL104.trans nL105
      replace ha0 := ha0.nx nL105
      replace ha1 := ha1.nx nL105
      replace b101 := b101.nx nL105
      replace g_out104 := g_out104.keep aL105 hkL105
      refine XC.seq ?_
      refine XC.seq ?_
      refine XC.text ?_
      refine XO.c (.move rfl) rfl rfl ?_
      refine XO.c (.fieldAddr rfl ((b101).fa (f := 0) (k := 0) (by kernel_rfl))) rfl rfl ?_
      obtain ⟨u106, e106, s106⟩ := ((b101).base.fst').ldSl vt22
      refine XO.r (.load rfl (e106)) rfl rfl ?_
      refine XO.a (.len rfl (s106.len el22)) rfl rfl ?_
      refine XO.c (.lss rfl rfl) rfl rfl ?_
      refine XO.nil (thenC.go ?_)
      refine XC.condD rfl (fun c12 => ?_) (fun c12 => ?_)
      · refine XC.skip (thenC.go ?_)
        refine XC.seq ?_
        refine XC.block ?_
        refine XC.drawn ?_
        have hkr107 := hA.ok hok
        have hSr107 := (g_out104.inS (hA.ok hok) (hA.inS hS))
        refine XD.c (b := 0) (.move rfl) rfl rfl rfl ?_
        refine XD.c (b := 0) (.fieldAddr rfl ((b101).fa (f := 0) (k := 0) (by kernel_rfl))) rfl rfl rfl ?_
        obtain ⟨u108, e108, s108⟩ := ((b101).base.fst').ldSl vt22
        refine XD.ld (b := 2) (After.refl _) SegsOk.nil hkr107 rfl (e108) rfl rfl rfl rfl ?_
        refine XD.c (b := 0) (.move rfl) rfl rfl rfl ?_
        refine XD.c (b := 14) (.indexAddr rfl rfl rfl (s108.ix (j := k) el22 (by omega))) rfl rfl rfl ?_
        refine XD.ld (b := 30) (After.refl _) (SegsOk.cons ((After.refl _)).next SegsOk.nil) hkr107 rfl (((s108.at (j := k) (by omega))).ldInt vt3) rfl rfl rfl rfl ?_
        refine XD.c (b := 0) (.move rfl) rfl rfl rfl ?_
        refine XD.c (b := 0) (.move rfl) rfl rfl rfl ?_
        refine XD.c (b := 0) (.move rfl) rfl rfl rfl ?_
        refine XD.c (b := 384) (.sub rfl rfl (by omega)) rfl rfl rfl ?_
        refine XD.a (b := 896) rfl (.max rfl rfl) rfl rfl rfl rfl ?_
        refine XD.c (b := 1984) (.indexAddr rfl rfl rfl (ha1.ixZ (n := (max (0 : Int) (((j : Nat) : Int) - ((k : Nat) : Int)))) el22 (by omega) (by omega))) rfl rfl rfl ?_
        refine XD.ld (b := 4032) (After.refl _) (SegsOk.cons ((After.refl _)).next (SegsOk.cons ((After.refl _)).next (SegsOk.cons ((After.refl _)).next SegsOk.nil))) hkr107 rfl (((ha1.at (j := Int.toNat (max (0 : Int) (((j : Nat) : Int) - ((k : Nat) : Int)))) (by omega))).ldInt vt3) rfl rfl rfl rfl ?_
        have b1 := tapSum_bound ht.taps hl.all j k
        have b2 : -67108864 ≤ t.1[k] * l[Int.toNat (max (0 : Int) (((j : Nat) : Int) - ((k : Nat) : Int)))] ∧ t.1[k] * l[Int.toNat (max (0 : Int) (((j : Nat) : Int) - ((k : Nat) : Int)))] ≤ 67108864 := by rw [getD_eq, getD_eq]; exact tap_bound ht.taps hl.all _ _
        refine XD.c (b := 8190) (.mul rfl rfl (by omega)) rfl rfl rfl ?_
        refine XD.c (b := 16383) (.add rfl rfl (by omega)) rfl rfl rfl ?_
        refine XD.c (b := 32767) (.assign rfl) rfl rfl rfl ?_
        refine XD.nil ?_
        intro tf htf
        refine inBlock_nrm ?_
        refine thenC.go ?_ tf htf
        refine XC.text ?_
        refine XO.c (.move rfl) rfl rfl ?_
        refine XO.c (.add rfl rfl (by omega)) rfl rfl ?_
        refine XO.c (.assign rfl) rfl rfl ?_
        refine XO.nil ?_
        intro tf htf
        have eT : tapSum t.1 l j (k + 1) = tapSum t.1 l j k + t.1[k] * l[Int.toNat (max (0 : Int) (((j : Nat) : Int) - ((k : Nat) : Int)))] := by rw [tapSum, getD_eq, getD_eq]
        refine ⟨rfl, rfl, _, [(1, v1), (2, p101), (5, out), (6, .int .i64 ((2 : Int) ^ q)), (8, .int .i64 ((j : Nat) : Int)), (9, .int .i64 (tapSum t.1 l j (k + 1))), (10, .int .i64 (((k + 1) : Nat) : Int))], ?_, htf.keep _ ⟨rfl, rfl, rfl, rfl, rfl, (congrArg (fun z => some z) (by exact congrArg _ eT.symm)), rfl, trivial⟩, (k + 1), rfl, rfl, hA, aL105, nL105, (by omega)⟩
        omega
      · refine XC.exit ?_
        intro tf htf
        refine thenC_exit ?_
        refine loopQ_exit ?_
        refine inBlock_eq ?_
        refine thenC.go ?_ tf htf
        refine XC.drawn ?_
        have hkr109 := hA.ok hok
        have hSr109 := (g_out104.inS (hA.ok hok) (hA.inS hS))
        refine XD.c (b := 0) (.move rfl) rfl rfl rfl ?_
        refine XD.c (b := 0) (.move rfl) rfl rfl rfl ?_
        refine XD.c (b := 0) (.move rfl) rfl rfl rfl ?_
        have hk2 : k = t.1.length := by omega
        have hq2 : q = t.2.1.toNat := by omega
        have b3 := tapSum_bound ht.taps hl.all j k
        have b5 := pow_bound (q := q) (by omega)
        have b4 := fdiv_bound (n := tapSum t.1 l j k) (s := q) (by omega)
        refine XD.callV (bb := 6) (After.refl _) SegsOk.nil rfl rfl rfl rfl rfl rfl ?_
        intro M110 aM110 oM110
        refine EvF.mono (rFloor_ok (aM110.ok hkr109) (aM110.inS hSr109)  (by first | assumption | omega) (by first | assumption | omega)) ?_
        rintro _ _ ⟨rfl, hh⟩
        refine ⟨hh, ?_⟩
        clear hh
        refine XD.c (b := 0) (.fieldAddr rfl ((b101).fa (f := 2) (k := 2) (by kernel_rfl))) rfl rfl rfl ?_
        refine XD.ld (b := 16) (After.refl _) (SegsOk.cons ((After.refl _)).next SegsOk.nil) hkr109 rfl (((((b101).base.snd' (m := 1) rfl (b101).isP).snd' (m := 2) rfl (b101).isP)).ldInt vt3) rfl rfl rfl rfl ?_
        refine XD.c (b := 62) (.add rfl rfl (by omega)) rfl rfl rfl ?_
        refine XD.pushR (b := 126) (b2 := 255) (S0 := S) (h0 := hh103) el22 el22 rfl (fun _ => rfl) g_out104 (RepV.ofInt .i64 _) aL104 hkL104 (hA.inS hS) (by simp; omega) (by decide) rfl rfl rfl rfl rfl rfl rfl ?_
        intro out111 h111 t111 g111 a111 n111 l111 w111 k111
        have ok112 := hA.ok hok
        have gg112 : Goes hh105 (ownB out ++ S) h111 (ownB out111 ++ S) := n111
        replace hA := hAL104.trans a111
        replace aL104 := a111
        replace nL104 := nL104.trans gg112
        replace ha0 := ha0.nx gg112
        replace ha1 := ha1.nx gg112
        replace b101 := b101.nx gg112
        replace s106 := s106.nx gg112
        refine XD.c (b := 511) (.assign rfl) rfl rfl rfl ?_
        refine XD.nil ?_
        intro tf htf
        refine inBlock_nrm ?_
        refine thenC.go ?_ tf htf
        refine XC.text ?_
        refine XO.c (.move rfl) rfl rfl ?_
        refine XO.c (.add rfl rfl (by omega)) rfl rfl ?_
        refine XO.c (.assign rfl) rfl rfl ?_
        refine XO.nil ?_
        intro tf htf
        refine ⟨rfl, rfl, _, [(1, v1), (2, p101), (5, out111), (6, .int .i64 ((2 : Int) ^ q)), (8, .int .i64 (((j + 1) : Nat) : Int))], ?_, htf.keep _ ⟨rfl, rfl, rfl, rfl, rfl, trivial⟩, (j + 1), out111, rfl, rfl, hA, aL104, nL104, (by have h7 := g111; rw [hk2, hq2] at h7; rw [List.range_succ, List.map_append]; exact h7), (by omega)⟩
        omega
    · refine XC.exit ?_
      intro tf htf
      refine thenC_exit ?_
      refine loopQ_exit ?_
      refine inBlock_eq ?_
      refine thenC.go ?_ tf htf
      refine XC.seq ?_
      refine XC.text ?_
      refine XO.c (.move rfl) rfl rfl ?_
      refine XO.c (.assign rfl) rfl rfl ?_
      refine XO.nil (thenC.go ?_)
      refine XC.ret fun tf htf => ?_
      have s113 := g_out104.shut hSL104
      have gg113 : Goes hh104 (ownB out ++ S) hh104 S := nx_own
      replace ha0 := ha0.nx gg113
      replace ha1 := ha1.nx gg113
      replace b101 := b101.nx gg113
      refine endF.one rfl rfl (htf 4 _ rfl) ?_
      refine ⟨hA.left _, ?_⟩
      have hw := (s113).ret hA
      rw [show j = l.length by omega] at hw; exact hw
theorem firstE_zero {l : List Int} : firstE l = 0 ↔ ∀ x ∈ l, x = 0 := by
  induction l with
  | nil => simp [firstE]
  | cons x l ih => by_cases h : x = 0 <;> simp [firstE, h, ih]
theorem rangeE_zero {n lo hi : Int} : rangeE n lo hi = 0 ↔ lo ≤ n ∧ n ≤ hi := by
  unfold rangeE; split <;> simp <;> omega
theorem transferE_ok {t : List Int × Int × Int} (h : transferE t = 0) : OkT t := by
  rw [transferE, firstE_zero] at h
  simp only [List.mem_cons, List.not_mem_nil, or_false, forall_eq_or_imp, forall_eq] at h
  obtain ⟨h1, h2, h3, h4, h5⟩ := h
  refine ⟨fun x hx => ?_, ?_, rangeE_zero.1 h4, rangeE_zero.1 h5⟩
  · rw [tapsE, firstE_zero] at h3
    exact rangeE_zero.1 (h3 _ (List.mem_map_of_mem hx))
  · by_cases hc : (8 : Int) < t.1.length
    · rw [whenE_t hc] at h2; simp at h2
    · omega
theorem heightsE_ok {l : List Int} (h : heightsE l = 0) : ∀ x ∈ l, -1048576 ≤ x ∧ x ≤ 1048576 := fun x hx => by
  rw [heightsE, firstE_zero] at h
  exact rangeE_zero.1 (h _ (List.mem_map_of_mem hx))
theorem numbersE_eq (l : List Int) : numbersE l = firstE [whenE (decide ((96 : Int) < l.length)) 5, heightsE l] := by
  unfold numbersE
  by_cases h : (96 : Int) < l.length
  · rw [if_pos h, whenE_t h]; simp [firstE]
  · rw [if_neg h, whenE_f h]; simp only [firstE, if_true]; split <;> simp [*]
theorem numbersE_ok {l : List Int} (h : numbersE l = 0) : OkL l := by
  unfold numbersE at h
  by_cases hc : (96 : Int) < l.length
  · rw [if_pos hc] at h; simp at h
  · rw [if_neg hc] at h; exact ⟨heightsE_ok h, by omega⟩
def applyB (t : List Int × Int × Int) (l : List Int) : Int := firstE [transferE t, numbersE l]
theorem firstE_app (a b : List Int) : firstE (a ++ b) = if firstE a = 0 then firstE b else firstE a := by
  induction a with
  | nil => simp [firstE]
  | cons x a ih => by_cases h : x = 0 <;> simp [firstE, h, ih]
theorem applyB_eq (t : List Int × Int × Int) (l : List Int) : firstE [transferE t, whenE (decide ((96 : Int) < l.length)) 5, heightsE l] = applyB t l := by
  rw [applyB, numbersE_eq]
  simp only [firstE]
  by_cases h1 : transferE t = 0 <;> simp [h1]
  by_cases h2 : whenE (decide ((96 : Int) < l.length)) 5 = 0 <;> simp [h2]
theorem applyB_ok {t : List Int × Int × Int} {l : List Int} (h : applyB t l = 0) : OkT t ∧ OkL l := by
  rw [applyB, firstE_zero] at h
  exact ⟨transferE_ok (h _ (by simp)), numbersE_ok (h _ (by simp))⟩
theorem sApply_ok {h : Heap} {S : List Nat} {v0 : Value} {t : (List Int) × Int × Int} {v1 : Value} {l : List Int} (hok : HOk h) (hS : ∀ b ∈ S, b < h.next) (ha0 : RepV h S (.pair (.sl (.int .i64)) (.pair (.int .i64) (.int .i64))) v0 t) (ha1 : SlV h S (.int .i64) v1 l) (hlt : t.1.length < 100000) (hll : l.length < 100000) : EvF Tryz.prog OA 17 [v0, v1] h fun r h' => After h h' ∧ ∃ r0, r = .tuple #[r0, .int .i64 (applyB t l)] ∧ SlV h' S (.int .i64) r0 (if applyB t l = 0 then applyE t l else []) := by
  refine XF.enter Tryz.func17 rfl rfl rfl ?_
  have hok : HOk (entry h) := hok
  have hA := After.refl (entry h)
  replace ha0 := ha0.entry
  replace ha1 := ha1.entry
  show XC Tryz.prog OA none _ _ [] [(0, v0), (1, v1)] (entry h) _
  refine XC.seq ?_
  refine XC.text ?_
  refine XO.boxR rfl ha0 (hA.ok hok) (hA.inS hS) rfl rfl ?_
  intro p114 h114 b114 a114
  have ok115 := hA.ok hok
  have gg115 : Goes (entry h) S h114 S := a114.nx ok115
  replace hA := hA.trans a114
  replace ha0 := ha0.nx gg115
  replace ha1 := ha1.nx gg115
  refine XO.c (.assign rfl) rfl rfl ?_
  refine XO.c (.assign rfl) rfl rfl ?_
  refine XO.nil (thenC.go ?_)
  refine XC.seq ?_
  refine XC.seq ?_
  refine XC.text ?_
  obtain ⟨u116, e116, r116⟩ := (b114).ldV vt29
  obtain ⟨c117_0, c117_1, c117_2, rfl, r117_0, r117_1, r117_2⟩ := r116.st3 rfl rfl rfl
  replace r117_0 := r117_0.sl
  obtain rfl := r117_1.int
  obtain rfl := r117_2.int
  refine XO.r (.load rfl (e116)) rfl rfl ?_
  refine XO.call rfl rfl rfl rfl ?_
  refine EvF.mono (sCheckTransfer_ok (hA.ok hok) (hA.inS hS) (RepV.mk3 (a := (.sl (.int .i64))) (b := (.int .i64)) (c := (.int .i64)) (x := t) (r117_0).rep (RepV.ofInt .i64 _) (RepV.ofInt .i64 _) rfl rfl rfl) (by first | assumption | omega)) ?_
  rintro _ _ ⟨rfl, hh⟩
  obtain rfl := hh.symm
  clear hh
  refine XO.c (.move rfl) rfl rfl ?_
  refine XO.a (.len rfl (ha1.len el22)) rfl rfl ?_
  refine XO.c (.gtr rfl rfl) rfl rfl ?_
  refine XO.call rfl rfl rfl rfl ?_
  refine EvF.mono (sWhen_ok (hA.ok hok) (hA.inS hS)  ) ?_
  rintro _ _ ⟨rfl, hh⟩
  obtain rfl := hh.symm
  clear hh
  refine XO.c (.move rfl) rfl rfl ?_
  refine XO.call rfl rfl rfl rfl ?_
  refine EvF.mono (sHeights_ok (hA.ok hok) (hA.inS hS) ha1 (by first | assumption | omega)) ?_
  rintro _ _ ⟨rfl, hh⟩
  obtain rfl := hh.symm
  clear hh
  refine XO.lit (h := h114) (S := S) (τ := (.int .i64)) (vsC (RepV.ofInt .i64 _) (vsC (RepV.ofInt .i64 _) (vs1 (RepV.ofInt .i64 _)))) el179 rfl rfl rfl (by simp) (by simp) (by decide) (hA.ok hok) (hA.inS hS) rfl rfl ?_
  intro w121 h121 s121 a121
  have ok122 := hA.ok hok
  have gg122 : Goes h114 S h121 S := a121.nx ok122
  replace hA := hA.trans a121
  replace ha0 := ha0.nx gg122
  replace ha1 := ha1.nx gg122
  replace b114 := b114.nx gg122
  replace r117_0 := r117_0.nx gg122
  refine XO.call rfl rfl rfl rfl ?_
  refine EvF.mono (sFirst_ok (hA.ok hok) (hA.inS hS) s121 (by simp)) ?_
  rintro _ _ ⟨rfl, hh⟩
  obtain rfl := hh.symm
  clear hh
  refine XO.c (.assign rfl) rfl rfl ?_
  refine XO.nil (thenC.go ?_)
  refine XC.seq ?_
  refine XC.text ?_
  refine XO.c (.move rfl) rfl rfl ?_
  refine XO.c (.neq rfl rfl) rfl rfl ?_
  refine XO.nil (thenC.go ?_)
  refine XC.condD rfl (fun c2 => ?_) (fun c2 => ?_)
  · rw [applyB_eq] at c2
    refine XC.seq ?_
    refine XC.text ?_
    refine XO.c (.move rfl) rfl rfl ?_
    refine XO.c (.assign rfl) rfl rfl ?_
    refine XO.c (.assign rfl) rfl rfl ?_
    refine XO.nil (thenC.go ?_)
    refine XC.ret fun tf htf => ?_
    refine thenC_ret ?_
    refine endF.two rfl rfl (htf 4 _ rfl) (htf 5 _ rfl) ?_
    have hw0 := ((SlV.nil (h := h121) (S := S) (τ := (.int .i64)))).retT (vs := #[(.slice none 0 0), (.int .i64 (firstE ([transferE t, whenE (decide ((96 : Int) < ((l.length : Nat) : Int))) (5 : Int), heightsE l])))]) hA (by simp)
    refine ⟨hA.left _, (.slice none 0 0), ?_, ?_⟩
    · refine congrArg Value.tuple ?_
      refine tup2 rfl (congrArg (Value.int .i64) (by exact applyB_eq t l))
    · exact if_neg c2 ▸ hw0
  · rw [applyB_eq] at c2
    have hB : applyB t l = 0 := by omega
    refine XC.skip (thenC.go ?_)
    refine XC.seq ?_
    refine XC.text ?_
    obtain ⟨u124, e124, r124⟩ := (b114).ldV vt29
    obtain ⟨c125_0, c125_1, c125_2, rfl, r125_0, r125_1, r125_2⟩ := r124.st3 rfl rfl rfl
    replace r125_0 := r125_0.sl
    obtain rfl := r125_1.int
    obtain rfl := r125_2.int
    refine XO.r (.load rfl (e124)) rfl rfl ?_
    refine XO.c (.move rfl) rfl rfl ?_
    refine XO.call rfl rfl rfl rfl ?_
    refine EvF.mono (sApplyT_ok (hA.ok hok) (hA.inS hS) (RepV.mk3 (a := (.sl (.int .i64))) (b := (.int .i64)) (c := (.int .i64)) (x := t) (r125_0).rep (RepV.ofInt .i64 _) (RepV.ofInt .i64 _) rfl rfl rfl) ha1 (applyB_ok hB).1 (applyB_ok hB).2) ?_
    rintro u126 h126 ⟨a126, s126⟩
    have ok127 := hA.ok hok
    have gg127 : Goes h121 S h126 S := a126.nx ok127
    replace hA := hA.trans a126
    replace ha0 := ha0.nx gg127
    replace ha1 := ha1.nx gg127
    replace b114 := b114.nx gg127
    replace r117_0 := r117_0.nx gg127
    replace s121 := s121.nx gg127
    replace r125_0 := r125_0.nx gg127
    refine XO.c (.assign rfl) rfl rfl ?_
    refine XO.c (.assign rfl) rfl rfl ?_
    refine XO.nil (thenC.go ?_)
    refine XC.ret fun tf htf => ?_
    refine endF.two rfl rfl (htf 4 _ rfl) (htf 5 _ rfl) ?_
    have hw0 := (s126).retT (vs := #[u126, (.int .i64 (0 : Int))]) hA (by simp)
    refine ⟨hA.left _, u126, ?_, ?_⟩
    · refine congrArg Value.tuple ?_
      refine tup2 rfl (congrArg (Value.int .i64) (by exact hB.symm))
    · exact if_pos hB ▸ hw0
theorem lTransfer_ok {h : Heap} {S : List Nat} {v0 : Value} {t : (List Int) × Int × Int} (hok : HOk h) (hS : ∀ b ∈ S, b < h.next) (ha0 : RepV h S (.pair (.sl (.int .i64)) (.pair (.int .i64) (.int .i64))) v0 t) (hl : t.1.length < 1000000) : EvF Tryz.prog OA 18 [v0] h fun r h' => After h h' ∧ RepV h' S (.pair (.sl (.int .i64)) (.pair (.int .i64) (.int .i64))) r t := by
  refine XF.enter Tryz.func18 rfl rfl rfl ?_
  have hok : HOk (entry h) := hok
  have hA := After.refl (entry h)
  replace ha0 := ha0.entry
  show XC Tryz.prog OA none _ _ [] [(0, v0)] (entry h) _
  refine XC.seq ?_
  refine XC.text ?_
  refine XO.boxR rfl ha0 (hA.ok hok) (hA.inS hS) rfl rfl ?_
  intro p128 h128 b128 a128
  have ok129 := hA.ok hok
  have gg129 : Goes (entry h) S h128 S := a128.nx ok129
  replace hA := hA.trans a128
  replace ha0 := ha0.nx gg129
  refine XO.allocB (z := .agg #[.slice none 0 0, .int .i64 0, .int .i64 0]) (by kernel_rfl) rfl rfl hA hok rfl rfl ?_
  intro p130 h130 b130 a130 gs130
  have ok131 := hA.ok hok
  have gg131 : Goes h128 S h130 (ownP p130 ++ S) := gs130 _
  replace hA := hA.trans a130
  replace ha0 := ha0.nx gg131
  replace b128 := b128.nx gg131
  refine XO.nil (thenC.go ?_)
  refine XC.seq ?_
  refine XC.drawn ?_
  have hkr132 := hA.ok hok
  have hSr132 := (b130.inS (hA.ok hok) (hA.inS hS))
  refine XD.c (b := 0) (.fieldAddr rfl ((b128).fa (f := 0) (k := 0) (by kernel_rfl))) rfl rfl rfl ?_
  obtain ⟨u133, e133, s133⟩ := ((b128).base.fst').ldSl vt22
  refine XD.ld (b := 1) (After.refl _) SegsOk.nil hkr132 rfl (e133) rfl rfl rfl rfl ?_
  refine XD.callU (bb := 3) (After.refl _) (SegsOk.cons ((After.refl _)).next SegsOk.nil) hkr132 rfl rfl rfl rfl rfl rfl ?_
  intro M134 aM134 kM134 nM134 sM134 oM134
  refine EvF.mono (lInts_ok kM134 (by first | exact aM134.inS hSr132 | exact (b130.inS (hA.ok hok) (hA.inS hS))) (s133.nx (aM134.nx hkr132)) (by first | assumption | omega)) ?_
  rintro u134 hM134 ⟨a134, s134⟩
  refine ⟨a134, ?_⟩
  clear a134
  intro h134 a134 gM134
  replace s134 := s134.nx (gM134 _)
  have ha0o := ha0
  have b128o := b128
  have s133o := s133
  have rg132 : Goes h130 (ownP p130 ++ S) h130 (ownP p130 ++ S) := Goes.refl
  have ra132 := After.refl h130
  have ok135 := hA.ok hok
  have gg135 : Goes h130 (ownP p130 ++ S) h134 (ownP p130 ++ S) := a134.nx ok135
  replace hA := hA.trans a134
  replace ha0 := ha0.nx gg135
  replace b128 := b128.nx gg135
  replace s133 := s133.nx gg135
  replace b130 := b130.keep a134 ok135
  replace rg132 := rg132.trans gg135
  have ra132_134 := ra132.trans a134
  refine XD.c (b := 0) (.fieldAddr rfl ((b128).fa (f := 1) (k := 1) (by kernel_rfl))) rfl rfl rfl ?_
  refine XD.ld (b := 8) ra132_134 (SegsOk.cons (ra132).next (SegsOk.cons ((After.refl _)).next SegsOk.nil)) hkr132 rfl ((((b128o).base.snd' (m := 1) rfl (b128o).isP).fst').ldInt vt3) rfl rfl rfl rfl ?_
  refine XD.c (b := 0) (.fieldAddr rfl ((b128).fa (f := 2) (k := 2) (by kernel_rfl))) rfl rfl rfl ?_
  refine XD.ld (b := 32) ra132_134 (SegsOk.cons (ra132_134).next (SegsOk.cons (ra132).next (SegsOk.cons ((After.refl _)).next SegsOk.nil))) hkr132 rfl (((((b128o).base.snd' (m := 1) rfl (b128o).isP).snd' (m := 2) rfl (b128o).isP)).ldInt vt3) rfl rfl rfl rfl ?_
  refine XD.c (b := 127) (.buildS (vs := [u134, .int .i64 t.2.1, .int .i64 t.2.2]) ⟨(s134).one, ⟨⟨rfl, rfl⟩, ⟨⟨rfl, rfl⟩, trivial⟩⟩⟩ (by kernel_rfl) rfl) rfl rfl rfl ?_
  obtain ⟨h136, e136, b136, a136, n136, nn136, fr136, lw136⟩ := (b130.objs (h' := (entry h134)) fun _ => rfl).st0 (S := S) (h0 := entry h) (u := .agg #[u134, .int .i64 t.2.1, .int .i64 t.2.2]) vt29 rfl rfl (by decide) (One.oneAll ⟨(s134).one, ⟨⟨rfl, rfl⟩, ⟨⟨rfl, rfl⟩, trivial⟩⟩⟩) hA.toEntry (show HOk (entry h134) from hA.ok hok)
  refine XD.st (b := 255) rfl rfl e136 rfl rfl (hA.ok hok) nn136 (a136.ok hok) (fun hl => absurd hl (by have := lw136; simp only [entry] at this; omega)) ?_
  intro hh136 tt136 o136 nx136 la136
  have ah136 := la136 _ hA a136
  replace b136 := b136.objs o136
  have gh136 : Goes h134 (ownP p130 ++ S) hh136 (ownP p130 ++ S) := (show Goes h134 (ownP p130 ++ S) (entry h134) (ownP p130 ++ S) from Goes.objs fun _ => rfl).trans (n136.trans (Goes.objs o136))
  replace fr136 : ∀ b, b ∉ ownP p130 → hh136.get b = h134.get b := fun b hb => (o136 b).trans (fr136 b hb)
  have ok137 := hA.ok hok
  have gg137 : Goes h134 (ownP p130 ++ S) hh136 (ownP p130 ++ S) := gh136
  replace hA := ah136
  replace ha0 := ha0.nx gg137
  replace b128 := b128.nx gg137
  replace s133 := s133.nx gg137
  replace s134 := s134.nx gg137
  refine XD.nil (thenC.go ?_)
  refine XC.ret fun tf htf => ?_
  refine endF.cell rfl rfl (htf 2 _ rfl) (b136.ldA vt29 rfl rfl) ?_
  refine ⟨hA.left _, ?_⟩
  have hw := ((RepV.mk3 (a := (.sl (.int .i64))) (b := (.int .i64)) (c := (.int .i64)) (s134).rep (RepV.ofInt .i64 _) (RepV.ofInt .i64 _) rfl rfl rfl)).ret hA
  replace hw := hw.nx (Goes.less fun _ hc => List.mem_append_right _ (hc))
  exact hw
theorem rSameInts_ok {h : Heap} {S : List Nat} {v0 : Value} {a : List Int} {v1 : Value} {b : List Int} (hok : HOk h) (hS : ∀ b ∈ S, b < h.next) (ha0 : SlV h S (.int .i64) v0 a) (ha1 : SlV h S (.int .i64) v1 b) (hla : a.length < 1000000) : EvF Tryz.prog OA 90 [v0, v1] h fun r h' => r = .bool (decide (a = b)) ∧ h' = h := by
  refine XF.enter Tryz.func90 rfl rfl rfl ?_
  have hok : HOk (entry h) := hok
  have hA := After.refl (entry h)
  replace ha0 := ha0.entry
  replace ha1 := ha1.entry
  show XC Tryz.prog OA none _ _ [] [(0, v0), (1, v1)] (entry h) _
  refine XC.seq ?_
  refine XC.text ?_
  refine XO.c (.assign rfl) rfl rfl ?_
  refine XO.nil (thenC.go ?_)
  refine XC.seq ?_
  refine XC.seq ?_
  refine XC.text ?_
  refine XO.c (.move rfl) rfl rfl ?_
  refine XO.a (.len rfl (ha0.len el22)) rfl rfl ?_
  refine XO.c (.move rfl) rfl rfl ?_
  refine XO.a (.len rfl (ha1.len el22)) rfl rfl ?_
  refine XO.c (.neq rfl rfl) rfl rfl ?_
  refine XO.nil (thenC.go ?_)
  refine XC.condD rfl (fun c1 => ?_) (fun c1 => ?_)
  · refine XC.seq ?_
    refine XC.text ?_
    refine XO.c (.assign rfl) rfl rfl ?_
    refine XO.nil (thenC.go ?_)
    refine XC.ret fun tf htf => ?_
    refine thenC_ret ?_
    refine endF.one rfl rfl (htf 4 _ rfl) ?_
    exact ⟨congrArg Value.bool (by refine (decide_eq_false fun he => ?_).symm; subst he; omega), hA.leftAf rfl⟩
  · refine XC.skip (thenC.go ?_)
    refine XC.seq ?_
    refine XC.seq ?_
    refine XC.text ?_
    refine XO.c (.assign rfl) rfl rfl ?_
    refine XO.nil (thenC.go ?_)
    refine XC.block ?_
    have hAL138 := hA
    have hkL138 := hA.ok hok
    have hSL138 := (hA.inS hS)
    refine XC.keep [(0, v0), (1, v1), (5, .int .i64 ((0 : Nat) : Int))] ⟨rfl, rfl, rfl, trivial⟩ ?_
    refine XC.loopI (I := fun (kk : Nat) (ff : FL) (hh : Heap) => ∃ (j : Nat), kk = a.length - j ∧ ff = [(0, v0), (1, v1), (5, .int .i64 ((j : Nat) : Int))] ∧ After (entry h) hh ∧ After (entry h) hh ∧ Goes (entry h) S hh S ∧ (j ≤ a.length) ∧ (a.take j = b.take j)) ?_ _ _ _ ⟨0, rfl, rfl, hA, After.refl _, Goes.refl, (by omega), (by simp)⟩
    clear hA
    rintro kk ff hh138 ⟨j, hk138, rfl, hA, aL138, nL138, hj, hf⟩
    replace ha0 := ha0.nx nL138
    replace ha1 := ha1.nx nL138
    refine XC.seq ?_
    refine XC.seq ?_
    refine XC.text ?_
    refine XO.c (.move rfl) rfl rfl ?_
    refine XO.c (.move rfl) rfl rfl ?_
    refine XO.a (.len rfl (ha0.len el22)) rfl rfl ?_
    refine XO.c (.lss rfl rfl) rfl rfl ?_
    refine XO.nil (thenC.go ?_)
    refine XC.condD rfl (fun c4 => ?_) (fun c4 => ?_)
    · refine XC.skip (thenC.go ?_)
      refine XC.seq ?_
      refine XC.block ?_
      refine XC.seq ?_
      refine XC.drawn ?_
      have hkr139 := hA.ok hok
      have hSr139 := (hA.inS hS)
      refine XD.c (b := 0) (.move rfl) rfl rfl rfl ?_
      refine XD.c (b := 0) (.move rfl) rfl rfl rfl ?_
      refine XD.c (b := 3) (.indexAddr rfl rfl rfl (ha0.ix (j := j) el22 (by omega))) rfl rfl rfl ?_
      refine XD.ld (b := 7) (After.refl _) SegsOk.nil hkr139 rfl (((ha0.at (j := j) (by omega))).ldInt vt3) rfl rfl rfl rfl ?_
      refine XD.c (b := 0) (.move rfl) rfl rfl rfl ?_
      refine XD.c (b := 0) (.move rfl) rfl rfl rfl ?_
      refine XD.c (b := 48) (.indexAddr rfl rfl rfl (ha1.ix (j := j) el22 (by omega))) rfl rfl rfl ?_
      refine XD.ld (b := 112) (After.refl _) (SegsOk.cons ((After.refl _)).next SegsOk.nil) hkr139 rfl (((ha1.at (j := j) (by omega))).ldInt vt3) rfl rfl rfl rfl ?_
      refine XD.c (b := 255) (.neq rfl rfl) rfl rfl rfl ?_
      refine XD.nil (thenC.go ?_)
      refine XC.condD rfl (fun c6 => ?_) (fun c6 => ?_)
      · refine XC.seq ?_
        refine XC.text ?_
        refine XO.c (.assign rfl) rfl rfl ?_
        refine XO.nil (thenC.go ?_)
        refine XC.ret fun tf htf => ?_
        refine inBlock_ret ?_
        refine thenC_ret ?_
        refine loopQ_ret ?_
        refine inBlock_ret ?_
        refine thenC_ret ?_
        refine endF.one rfl rfl (htf 4 _ rfl) ?_
        exact ⟨congrArg Value.bool (by refine (decide_eq_false fun he => ?_).symm; subst he; exact c6 rfl), hA.leftAf rfl⟩
      · refine XC.skip ?_
        intro tf htf
        refine inBlock_nrm ?_
        refine thenC.go ?_ tf htf
        refine XC.text ?_
        refine XO.c (.move rfl) rfl rfl ?_
        refine XO.c (.add rfl rfl (by omega)) rfl rfl ?_
        refine XO.c (.assign rfl) rfl rfl ?_
        refine XO.nil ?_
        intro tf htf
        refine ⟨rfl, rfl, _, [(0, v0), (1, v1), (5, .int .i64 (((j + 1) : Nat) : Int))], ?_, htf.keep _ ⟨rfl, rfl, rfl, trivial⟩, (j + 1), rfl, rfl, hA, aL138, nL138, (by omega), (by rw [List.take_succ_eq_append_getElem (by omega), List.take_succ_eq_append_getElem (by omega), hf, show a[j] = b[j] by omega])⟩
        omega
    · refine XC.exit ?_
      intro tf htf
      refine thenC_exit ?_
      refine loopQ_exit ?_
      refine inBlock_eq ?_
      refine thenC.go ?_ tf htf
      refine XC.seq ?_
      refine XC.text ?_
      refine XO.c (.assign rfl) rfl rfl ?_
      refine XO.nil (thenC.go ?_)
      refine XC.ret fun tf htf => ?_
      refine endF.one rfl rfl (htf 4 _ rfl) ?_
      exact ⟨congrArg Value.bool (by refine (decide_eq_true ?_).symm; rw [List.take_of_length_le (by omega), List.take_of_length_le (by omega)] at hf; exact hf), hA.leftAf rfl⟩
def listE (have_ : List Int) (e bad : Int) (want : List Int) : Bool := decide (e = bad ∧ have_ = if bad = 0 then want else [])
theorem lList_ok {h : Heap} {S : List Nat} {v0 : Value} {hv : List Int} {e : Int} {bad : Int} {v3 : Value} {want : List Int} (hok : HOk h) (hS : ∀ b ∈ S, b < h.next) (ha0 : SlV h S (.int .i64) v0 hv) (ha3 : SlV h S (.int .i64) v3 want) (hlv : hv.length < 1000000) : EvF Tryz.prog OA 25 [v0, .int .i64 e, .int .i64 bad, v3] h fun r h' => r = .bool (listE hv e bad want) ∧ h' = h := by
  refine XF.enter Tryz.func25 rfl rfl rfl ?_
  have hok : HOk (entry h) := hok
  have hA := After.refl (entry h)
  replace ha0 := ha0.entry
  replace ha3 := ha3.entry
  show XC Tryz.prog OA none _ _ [] [(0, v0), (1, .int .i64 e), (2, .int .i64 bad), (3, v3)] (entry h) _
  refine XC.seq ?_
  refine XC.text ?_
  refine XO.c (.assign rfl) rfl rfl ?_
  refine XO.nil (thenC.go ?_)
  refine XC.seq ?_
  refine XC.seq ?_
  refine XC.text ?_
  refine XO.c (.move rfl) rfl rfl ?_
  refine XO.c (.neq rfl rfl) rfl rfl ?_
  refine XO.nil (thenC.go ?_)
  refine XC.condD rfl (fun c1 => ?_) (fun c1 => ?_)
  · refine XC.text ?_
    refine XO.c (.assign rfl) rfl rfl ?_
    refine XO.nil (thenC.go ?_)
    refine XC.seq ?_
    refine XC.text ?_
    refine XO.c (.move rfl) rfl rfl ?_
    refine XO.c (.move rfl) rfl rfl ?_
    refine XO.c (.eql rfl rfl) rfl rfl ?_
    refine XO.c (.move rfl) rfl rfl ?_
    refine XO.splitD (x := 14) rfl (fun g3_3 => ?_) (fun g3_3 => ?_)
    · refine XO.gc rfl rfl rfl (.move rfl) rfl rfl ?_
      refine XO.gc rfl rfl rfl (.move rfl) rfl rfl ?_
      refine XO.gcall rfl rfl rfl rfl rfl rfl rfl ?_
      refine EvF.mono (rSameInts_ok (hA.ok hok) (hA.inS hS) ha0 SlV.nil (by first | assumption | omega)) ?_
      rintro _ _ ⟨rfl, hh⟩
      obtain rfl := hh.symm
      clear hh
      refine XO.c (.pickT rfl rfl) rfl rfl ?_
      refine XO.c (.assign rfl) rfl rfl ?_
      refine XO.nil (thenC.go ?_)
      refine XC.ret fun tf htf => ?_
      refine endF.one rfl rfl (htf 8 _ rfl) ?_
      exact ⟨congrArg Value.bool (by simp [listE, *] <;> (intros; omega)), hA.leftAf rfl⟩
    · refine XO.skip rfl rfl rfl rfl rfl ?_
      refine XO.skip rfl rfl rfl rfl rfl ?_
      refine XO.skip rfl rfl rfl rfl rfl ?_
      refine XO.c (.pickF rfl rfl) rfl rfl ?_
      refine XO.c (.assign rfl) rfl rfl ?_
      refine XO.nil (thenC.go ?_)
      refine XC.ret fun tf htf => ?_
      refine endF.one rfl rfl (htf 8 _ rfl) ?_
      exact ⟨congrArg Value.bool (by simp [listE, *] <;> (intros; omega)), hA.leftAf rfl⟩
  · have c1 : bad = 0 := by omega
    refine XC.skip (thenC.go ?_)
    refine XC.seq ?_
    refine XC.text ?_
    refine XO.c (.move rfl) rfl rfl ?_
    refine XO.c (.move rfl) rfl rfl ?_
    refine XO.c (.eql rfl rfl) rfl rfl ?_
    refine XO.c (.move rfl) rfl rfl ?_
    refine XO.splitD (x := 14) rfl (fun g3_3 => ?_) (fun g3_3 => ?_)
    · refine XO.gc rfl rfl rfl (.move rfl) rfl rfl ?_
      refine XO.gc rfl rfl rfl (.move rfl) rfl rfl ?_
      refine XO.gcall rfl rfl rfl rfl rfl rfl rfl ?_
      refine EvF.mono (rSameInts_ok (hA.ok hok) (hA.inS hS) ha0 ha3 (by first | assumption | omega)) ?_
      rintro _ _ ⟨rfl, hh⟩
      obtain rfl := hh.symm
      clear hh
      refine XO.c (.pickT rfl rfl) rfl rfl ?_
      refine XO.c (.assign rfl) rfl rfl ?_
      refine XO.nil (thenC.go ?_)
      refine XC.ret fun tf htf => ?_
      refine endF.one rfl rfl (htf 8 _ rfl) ?_
      exact ⟨congrArg Value.bool (by simp [listE, *] <;> (intros; omega)), hA.leftAf rfl⟩
    · refine XO.skip rfl rfl rfl rfl rfl ?_
      refine XO.skip rfl rfl rfl rfl rfl ?_
      refine XO.skip rfl rfl rfl rfl rfl ?_
      refine XO.c (.pickF rfl rfl) rfl rfl ?_
      refine XO.c (.assign rfl) rfl rfl ?_
      refine XO.nil (thenC.go ?_)
      refine XC.ret fun tf htf => ?_
      refine endF.one rfl rfl (htf 8 _ rfl) ?_
      exact ⟨congrArg Value.bool (by simp [listE, *] <;> (intros; omega)), hA.leftAf rfl⟩
theorem awake_ok {h : Heap} : EvF Tryz.prog OA 16 [] h fun r h' => r = .bool true ∧ h' = h := EvF.oracle rfl ⟨rfl, rfl⟩
end Go.Proofs
