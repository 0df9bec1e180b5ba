/- Parts of the proof: an evaluator of the model, what it is sound for, and contracts of functions. No condition. -/
import Derived.Test.YthiofhkndpegjaaGreatDoorP3
set_option linter.all false
namespace Go.Fs
variable {P : Program} {orc : FuncId → List Value → Heap → Option (Value × Heap)} {rnd : Option Nat} {h h' h0 h1 h2 : Heap} {S S' S0 B G : List Nat} {σ σ' σr : Sto} {t t' : Tr} {ms : List Nat} {fl : VL} {ops : Array Oper} {n i mem : Nat} {l : List Oper} {K : VL → Sto → Prop} {Q : Ex → VL → Sto → Prop}
  {d : Tmp} {ty : TypeId} {pos : String} {after : Array Edge} {op : Op} {v pv : PV} {g : Option (Nat × Bool)} {x y z : Operand} {T T' e : TypeId} {τ τ' : Ty} {bs nw : List Nat} {segs : List (Nat × Nat × Nat)} {tail so : Bool} {w w' : Value} {c c' : Cell}

theorem sees_list {fl : VL} : ∀ {l : List Operand} {vs : List PV}, (∀ x ∈ l, ∀ pv, evV fl x = some pv → RepPV h S pv (evalO t x)) → evVs fl l = some vs → RepL h S vs (l.map (evalO t))
  | [], vs, _, hx => by obtain rfl := Option.some.inj hx; rfl
  | x :: r, vs, hq, hx => by
    simp only [evVs] at hx
    split at hx
    · rename_i v vs0 hv hvs
      obtain rfl := Option.some.inj hx
      exact ⟨_, _, rfl, hq x List.mem_cons_self _ hv, sees_list (fun y hy => hq y (List.mem_cons_of_mem _ hy)) hvs⟩
    cases hx
theorem RepL.vs : ∀ {xs : List τ.den} {us : List Value}, RepL h S (xs.map (PV.v τ)) us → us.length = xs.length ∧ ∀ i (hi : i < us.length) (hx : i < xs.length), RepV h S τ us[i] xs[i]
  | [], us, hx => ⟨by rw [show us = [] from hx]; rfl, fun i _ h => by simp at h⟩
  | a :: xs, us, ⟨u, r, h1, h2, h3⟩ => by
    subst h1
    obtain ⟨e1, e2⟩ := RepL.vs h3
    refine ⟨by simp [e1], fun i hi hx => ?_⟩
    cases i with
    | zero => exact h2
    | succ i => exact e2 i (by simpa using hi) (by simpa using hx)
theorem numbered_of : ∀ {ps : List (Nat × Operand)} {k : Nat}, ps.map (·.1) = List.range' k ps.length → ps.map (fun p => (p.1, evalO t p.2)) = numbered k (ps.map fun p => evalO t p.2)
  | [], k, _ => rfl
  | (i, x) :: r, k, hk => by
    simp only [List.map_cons, List.length_cons, List.range'_succ, List.cons.injEq] at hk
    simp only [List.map_cons, numbered, hk.1]
    rw [numbered_of hk.2]
theorem lit_run {parts : Array (Nat × Operand)} {len : Nat} {xs : List τ.den} (hT : ElT P T e τ) (hxs : evVs fl (parts.toList.map (·.2)) = some (xs.map (PV.v τ))) (hnum : parts.toList.map (·.1) = List.range' 0 parts.toList.length) (hl : len = xs.length) (hp : 0 < xs.length) (hsz : xs.length ≤ 1000) (hτ : τ.size ≤ 100) (hs : Sees h S t fl (.buildSlice T len parts)) :
    ∃ us : List Value, us.length = xs.length ∧ Elems h S τ (flat us) xs ∧ ∀ (H : Heap) (d : Option Tmp) (ty : TypeId) (pos : String) (after : Array Edge) (g : Option (Nat × Bool)), stepO P ⟨d, .buildSlice T len parts, ty, pos, after, g⟩ (evalO t) H = some (.slice (some ⟨H.next, 0, none⟩) xs.length 0, H.push (.row e (flat us) true false)) := by
  have hr : RepL h S (xs.map (PV.v τ)) ((parts.toList.map (·.2)).map (evalO t)) := sees_list (fun x hx => hs x (by simpa [Op.operands] using hx)) hxs
  obtain ⟨e1, e2⟩ := RepL.vs hr
  refine ⟨_, e1, Elems.flat _ xs e1 e2, fun H _ _ _ _ _ => ?_⟩
  show fsBuildSlice P T len (parts.map fun p => (p.1, evalO t p.2)) H = _
  have hpm : parts.map (fun p => (p.1, evalO t p.2)) = (numbered 0 ((parts.toList.map (·.2)).map (evalO t))).toArray := by
    apply Array.toList_inj.1
    rw [Array.toList_map, numbered_of hnum, List.map_map]
    rfl
  have := buildEl hT e1 e2 (by intro e; rw [e] at e1; simp at e1; omega) (by omega) hτ H
  rw [hpm, hl, ← e1]
  exact this
theorem FreshV.lit {parts : Array (Nat × Operand)} {len : Nat} (xs : List τ.den) (hT : ElT P T e τ) (hxs : evVs fl (parts.toList.map (·.2)) = some (xs.map (PV.v τ)) := by rfl) (hnum : parts.toList.map (·.1) = List.range' 0 parts.toList.length := by rfl) (hl : len = xs.length := by rfl) (hp : (Nat.blt 0 xs.length && Nat.ble xs.length 1000 && Nat.ble τ.size 100) = true := by rfl) : FreshV P fl (.buildSlice T len parts) (.v (.sl τ) xs) :=
  ⟨rfl, fun h S t hs hok hS => by
    obtain ⟨p1, p2⟩ := band hp
    obtain ⟨p0, p1⟩ := band p1
    obtain ⟨us, e1, e2, e3⟩ := lit_run hT hxs hnum hl (nblt p0) (nble p1) (nble p2) hs
    refine ⟨fun k => .slice (some ⟨k, 0, none⟩) xs.length 0, .row e (flat us) true false, ?_, e3⟩
    have hN : Goes h S (h.push (.row e (flat us) true false)) S := (After.push h _).nx hok
    exact ((e2.nx hN).slv (by rw [Heap.get_push, if_pos rfl]) fun hm => by have := hS _ hm; omega).rep⟩
theorem FreshV.box {dx : τ.den} (hx : evV fl x = some (.v τ dx) := by rfl) : FreshV P fl (.box e x) (.p τ dx) :=
  ⟨rfl, fun h S t hs hok hS => by
    have hu : RepV h S τ (evalO t x) dx := hs x (by simp [Op.operands]) _ hx
    refine ⟨fun k => .pointer (some ⟨k, 0, none⟩), .row e (evalO t x).cells.toList true false, ?_, fun H _ _ _ _ _ => ?_⟩
    · exact hu.box hok hS
    show fsBox e (evalO t x) H = _
    unfold fsBox
    rw [if_pos hu.2.allOne]⟩
def zeroD : (τ : Ty) → τ.den
  | .int _ => (0 : Int)
  | .bool => false
  | .str => ByteArray.empty
  | .flt _ => (0 : Nat)
  | .sl _ => []
  | .mp _ _ => []
  | .fn => none
  | .hnd => none
  | .pair a b => (zeroD a, zeroD b)
  | .unit => ()
def zeroC : Ty → List Value
  | .int k => [.int k 0]
  | .bool => [.bool false]
  | .str => [.string ByteArray.empty]
  | .flt k => [.float k 0]
  | .sl _ => [.slice none 0 0]
  | .mp _ _ => [.map none]
  | .fn => [.nilFunc]
  | .hnd => [.slice none 0 0]
  | .pair a b => zeroC a ++ zeroC b
  | .unit => []
theorem zero_rep (h : Heap) (S : List Nat) : ∀ (τ : Ty), RepC h S τ (zeroC τ) (zeroD τ) ∧ (zeroC τ).all af0 = true
  | .int _ => ⟨rfl, rfl⟩
  | .bool => ⟨rfl, rfl⟩
  | .str => ⟨rfl, rfl⟩
  | .flt _ => ⟨rfl, rfl⟩
  | .sl _ => ⟨⟨_, rfl, .inl ⟨rfl, rfl⟩⟩, rfl⟩
  | .mp _ _ => ⟨⟨_, rfl, .inl ⟨rfl, rfl⟩⟩, rfl⟩
  | .fn => ⟨rfl, rfl⟩
  | .hnd => ⟨rfl, rfl⟩
  | .unit => ⟨rfl, rfl⟩
  | .pair a b => by
    obtain ⟨a1, a2⟩ := zero_rep h S a
    obtain ⟨b1, b2⟩ := zero_rep h S b
    refine ⟨⟨?_, ?_⟩, ?_⟩
    · show RepC h S a ((zeroC a ++ zeroC b).take a.size) _
      rw [List.take_left' a1.len]; exact a1
    · show RepC h S b ((zeroC a ++ zeroC b).drop a.size) _
      rw [List.drop_left' a1.len]; exact b1
    show (zeroC a ++ zeroC b).all af0 = true
    rw [List.all_append, a2, b2]; rfl
structure ZerT (P : Program) (e : TypeId) (τ : Ty) : Prop where
  zero : ∃ z, (P.info? e).bind (·.zero) = some z ∧ z.cells.toList = zeroC τ ∧ isAggV z = τ.agg
theorem zerT_of {z : Value} (hz : (P.info? e).bind (·.zero) = some z) (hc : z.cells.toList = zeroC τ) (ha : isAggV z = τ.agg) : ZerT P e τ := ⟨z, hz, hc, ha⟩
theorem af_cells {u : Value} (h : u.cells.toList.all af0 = true) : af u = true ∧ u.cells.toList.all oneCell = true := by
  refine ⟨?_, af0_one h⟩
  cases u with
  | agg cs => exact h
  | tuple vs => simp [Value.cells, af0] at h
  | _ => simpa [Value.cells, af, af1] using h
theorem FreshO.alloc (hZ : ZerT P e τ) : FreshO P fl (.alloc e) (.var (cellsPV τ (zeroD τ))) :=
  ⟨rfl, fun h S t hs hok hS => by
    obtain ⟨z, h1, h2, h3⟩ := hZ.zero
    obtain ⟨z1, z2⟩ := zero_rep h S τ
    obtain ⟨a1, a2⟩ := af_cells (u := z) (by rw [h2]; exact z2)
    refine ⟨fun k => .pointer (some ⟨k, 0, none⟩), .row e z.cells.toList true false, fun _ => rfl, fun S' hN hm => ?_, fun H _ _ _ _ _ => ?_⟩
    · exact ⟨h.next, e, _, rfl, hm, by rw [Heap.get_push, if_pos rfl], by have := (cells_repC z1).nx hN; rwa [← h2] at this, a2⟩
    show (match (P.info? e).bind (·.zero) with | some z => if af z then fsBox e z H else none | none => none) = _
    rw [h1]
    simp only [a1, if_true]
    unfold fsBox
    rw [if_pos a2]⟩
theorem zeros_flat {z : Value} (hz : 0 < z.cells.size) : ∀ n : Nat, zeros z n = (List.replicate n z.cells.toList).flatten
  | 0 => by simp [zeros]
  | n + 1 => by
    have ih := zeros_flat hz n
    unfold zeros at ih ⊢
    rw [List.replicate_succ', List.flatten_append, ← ih, Nat.add_mul, Nat.one_mul, List.range_add, List.map_append]
    congr 1
    refine List.ext_getElem (by simp) fun i h1 h2 => ?_
    have hi : i < z.cells.size := by simpa using h1
    simp only [List.getElem_map, List.getElem_range, List.flatten_cons, List.flatten_nil, List.append_nil, List.map_map]
    have h3 : (n * z.cells.size + i) % z.cells.size = i := by rw [Nat.mul_comm, Nat.mul_add_mod, Nat.mod_eq_of_lt hi]
    simp only [Function.comp, List.getElem_range, h3]
    rw [getElem!_pos z.cells i hi]
    simp
theorem elems_rep {cs : List Value} {dx : τ.den} (hx : RepC h S τ cs dx) : ∀ n : Nat, Elems h S τ (List.replicate n cs).flatten (List.replicate n dx)
  | 0 => Elems.nil
  | n + 1 => by
    have h1 : Elems h S τ cs [dx] := ⟨by simpa using hx.len, fun i hi => by
      obtain rfl : i = 0 := by simpa using hi
      simp only [Nat.zero_mul, List.drop_zero, List.getElem_cons_zero]
      rw [List.take_of_length_le (by rw [hx.len]; exact Nat.le_refl _)]
      exact hx⟩
    have := h1.append (elems_rep hx n)
    simpa [List.replicate_succ] using this
theorem FreshO.make {k : Nat} (hx : evV fl x = some (.v (.int .i64) ((k : Nat) : Int))) (hy : evV fl y = some (.v (.int .i64) ((k : Nat) : Int))) (hT : ElT P T e τ) (hZ : ZerT P e τ) (hk : k ≤ 1000000) : FreshO P fl (.makeSlice T x y) (.row e τ (List.replicate k (zeroD τ))) :=
  ⟨rfl, fun h S t hs hok hS => by
    have u1 := RepV.int (hs x (by simp [Op.operands]) _ hx)
    have u2 := RepV.int (hs y (by simp [Op.operands]) _ hy)
    obtain ⟨z, h1, h2, h3⟩ := hZ.zero
    obtain ⟨i, z', hi1, hi2, hi3, hi3', hi4, hi5, hi6⟩ := hT.sl.info
    obtain rfl : z' = z := by
      rw [hi1] at h1
      simpa [hi4] using h1
    have hpos := hT.sl.pos
    refine ⟨fun m => .slice (some ⟨m, 0, none⟩) k 0, .row e (zeros z' k) true false, fun _ => rfl, fun S' hN hm => ?_, fun H _ _ _ _ _ => ?_⟩
    · refine .inr ⟨h.next, _, false, by simp, hm, by rw [Heap.get_push, if_pos rfl], ?_⟩
      rw [zeros_flat (by omega), h2]
      exact elems_rep (zero_rep _ _ τ).1 k
    show fsMakeSlice P T (evalO t x) (evalO t y) H = _
    rw [u1, u2]
    unfold fsMakeSlice
    simp only [hT.sl.sl, hi1, hi4]
    have hb : i.bytes * k ≤ 1099511627776 := by
      have := Nat.mul_le_mul hi3' hk
      omega
    have hc : (decide (0 ≤ ((k : Nat) : Int)) && decide (((k : Nat) : Int) ≤ ((k : Nat) : Int)) && decide (((k : Nat) : Int) ≤ 1099511627776) && Nat.ble (i.bytes * ((k : Nat) : Int).toNat) 1099511627776 && Nat.blt 0 i.size && Nat.beq z'.cells.size i.size && z'.cells.toList.all af0) = true := by
      have e1 : Nat.ble (i.bytes * ((k : Nat) : Int).toNat) 1099511627776 = true := by rw [Nat.ble_eq, Int.toNat_natCast]; exact hb
      have e2 : Nat.blt 0 i.size = true := by show Nat.ble 1 i.size = true; rw [Nat.ble_eq, hi2]; exact hpos
      rw [e1, e2, hi5, hi2, Nat.beq_refl, hi6]
      simp
      omega
    rw [hc]
    rfl⟩

def bldL (pl : List (Nat × Nat)) : List PV → List Nat → List PV → Option (List PV)
  | L, [], [] => some L
  | L, i :: is, p :: ps => match pl[i]? with
    | some (o, s) => bif Nat.ble (o + s) L.length then
        (match p with
        | .v τ x => bif Nat.beq τ.size s then bldL pl (spl L o (cellsPV τ x)) is ps else none
        | .raw (.slice none 0 0) => bif Nat.beq s 1 then (match L[o]? with | some (.v (.sl _) []) => bldL pl L is ps | _ => none) else none
        | _ => none)
      else none
    | none => none
  | _, _, _ => none
structure BldT (P : Program) (T : TypeId) (τ : Ty) (pl : List (Nat × Nat)) : Prop where
  zer : ZerT P T τ
  agg : τ.agg = true
  run : ∀ (z : Value) (parts : Array (Nat × Value)) (cs : Array Value), (P.info? T).bind (·.zero) = some z → Instr.fill (pl[·]?) z.cells parts.toList = some cs → runPure P (Instr.build T parts) = some (.agg cs)
def plB (P : Program) (T : TypeId) : Option (List (Nat × Nat)) :=
  match P.underlying T with
  | some (.struct fields) => (runPure P (fields.mapM fun f => do pure (f.offset, ← sizeOf f.type))).map (·.toList)
  | some (.array n e) => (P.info? e).map fun i => (List.range n).map fun j => (j * i.size, i.size)
  | _ => none
theorem fill_more {pl pl' : Nat → Option (Nat × Nat)} (hp : ∀ i q, pl i = some q → pl' i = some q) : ∀ (ps : List (Nat × Value)) (cells out : Array Value), Instr.fill pl cells ps = some out → Instr.fill pl' cells ps = some out
  | [], cells, out, hf => hf
  | (i, v) :: rest, cells, out, hf => by
    unfold Instr.fill at hf ⊢
    cases hq : pl i with
    | none => rw [hq] at hf; cases hf
    | some q =>
      rw [hq] at hf
      rw [hp i q hq]
      obtain ⟨o, sz⟩ := q
      simp only at hf ⊢
      split at hf
      · cases hf
      rename_i hne
      rw [if_neg hne]
      exact fill_more hp rest _ out hf
theorem zeroV_run {z : Value} (hz : (P.info? T).bind (·.zero) = some z) : runPure P (zeroValue T) = some z := by
  obtain ⟨i, hi, hzi⟩ := Option.bind_eq_some_iff.1 hz
  unfold zeroValue
  rw [runPure_bind, runPure_typeInfo hi]
  simp only [Option.bind_some, hzi]
  rfl
theorem bldT_of {pl : List (Nat × Nat)} (hZ : ZerT P T τ) (ha : τ.agg = true) (hp : plB P T = some pl) : BldT P T τ pl := by
  refine ⟨hZ, ha, fun z parts cs hz hf => ?_⟩
  unfold plB at hp
  split at hp
  · rename_i fields hu
    obtain ⟨places, h1, h2⟩ := Option.map_eq_some_iff.1 hp
    refine runPure_build hu (zeroV_run hz) h1 ?_
    rw [← hf]
    congr 1
    funext i
    rw [← h2]; simp
  · rename_i m e hu
    obtain ⟨i, hi, h2⟩ := Option.map_eq_some_iff.1 hp
    have hf' : Instr.fill (fun j => some (j * i.size, i.size)) z.cells parts.toList = some cs := fill_more (fun j q hq => by
      rw [← h2] at hq
      simp only [List.getElem?_map] at hq
      obtain ⟨k, hk, rfl⟩ := Option.map_eq_some_iff.1 hq
      obtain ⟨hk1, rfl⟩ := List.getElem?_eq_some_iff.1 hk
      simp) _ _ _ hf
    have hsz : runPure P (sizeOf e) = some i.size := runPure_sizeOf hi
    unfold Instr.build
    simp only [runPure_bind, zeroV_run hz, runPure_underlying hu, Option.bind_some, hsz, hf']
    rfl
  cases hp
theorem fill_bld {pl : List (Nat × Nat)} : ∀ {is : List Nat} {ps : List PV} {us : List Value} {L L' : List PV} {cs : List Value}, bldL pl L is ps = some L' → RepL h S ps us → RepL h S L cs → cs.all oneCell = true →
    ∃ cs', Instr.fill (pl[·]?) cs.toArray (is.zip us) = some cs'.toArray ∧ RepL h S L' cs' ∧ us.all (fun u => u.cells.toList.all oneCell) = true ∧ is.length = us.length
  | [], [], us, L, L', cs, hb, hp, hL, ho => by
    obtain rfl : us = [] := hp
    obtain rfl := Option.some.inj hb
    exact ⟨cs, rfl, hL, rfl, rfl⟩
  | i :: is, p :: ps, us, L, L', cs, hb, ⟨u, r, h1, h2, h3⟩, hL, ho => by
    subst h1
    have hlen := hL.len
    simp only [bldL] at hb
    split at hb
    · rename_i o s hpl
      cases hbb : Nat.ble (o + s) L.length with
      | false => rw [hbb] at hb; cases hb
      | true =>
        rw [hbb] at hb
        have hos := nble hbb
        simp only [cond_true] at hb
        split at hb
        · rename_i τ x
          cases hs : Nat.beq τ.size s with
          | false => rw [hs] at hb; cases hb
          | true =>
            rw [hs] at hb
            simp only [cond_true] at hb
            obtain rfl := nbeq hs
            have hu : RepV h S τ u x := h2
            have hul : u.cells.toList.length = τ.size := hu.2.len
            have hus : u.cells.size = τ.size := by simpa using hul
            obtain ⟨cs', f1, f2, f3, f4⟩ := fill_bld hb h3 (hL.spl o (cells_repC hu.2)) (allOne_spl o ho hu.2.allOne)
            refine ⟨cs', ?_, f2, by rw [List.all_cons, hu.2.allOne, f3]; rfl, by simp [f4]⟩
            simp only [List.zip_cons_cons, Instr.fill, hpl]
            have h9 : (u.cells.size ≠ τ.size || o + u.cells.size > cs.toArray.size) = false := by simp [hus]; omega
            rw [h9]
            simp only [Bool.false_eq_true, if_false]
            have hsp : u.cells.zipIdx.foldl (fun (cs : Array Value) (p : Value × Nat) => cs.setIfInBounds (o + p.2) p.1) cs.toArray = (splice cs o u.cells.toList).toArray := by
              have e0 : cs = cs.take o ++ ((cs.drop o).take τ.size) ++ cs.drop (o + τ.size) := by
                rw [← List.drop_drop, List.append_assoc, List.take_append_drop, List.take_append_drop]
              have := fill_at τ.size o u (cs.take o) ((cs.drop o).take τ.size) (cs.drop (o + τ.size)) (by rw [List.length_take]; omega) (by rw [List.length_take, List.length_drop]; omega) hus
              rw [← e0] at this
              rw [this]
              unfold splice
              rw [hul]
            rw [hsp]; exact f1
        · cases hs : Nat.beq s 1 with
          | false => rw [hs] at hb; cases hb
          | true =>
            rw [hs] at hb
            simp only [cond_true] at hb
            obtain rfl := nbeq hs
            split at hb
            · rename_i ee hLo
              obtain rfl : u = .slice none 0 0 := h2
              obtain ⟨cs', f1, f2, f3, f4⟩ := fill_bld (cs := splice cs o [.slice none 0 0]) hb h3 (by
                have := hL.spl o (show RepL h S [.v (.sl ee) []] [.slice none 0 0] from ⟨_, [], rfl, SlV.nil.rep, rfl⟩)
                have e9 : spl L o [.v (.sl ee) []] = L := by
                  unfold Fs.spl
                  have hol : o < L.length := by omega
                  have hg : L[o] = .v (.sl ee) [] := by rw [List.getElem?_eq_getElem hol] at hLo; exact Option.some.inj hLo
                  rw [← hg]
                  simp only [List.length_cons, List.length_nil, Nat.zero_add, List.cons_append, List.nil_append]
                  rw [← List.drop_eq_getElem_cons hol, List.take_append_drop]
                rwa [e9] at this) (allOne_spl o ho rfl)
              refine ⟨cs', ?_, f2, by rw [List.all_cons, f3]; rfl, by simp [f4]⟩
              simp only [List.zip_cons_cons, Instr.fill, hpl]
              have h9 : ((Value.slice none 0 0).cells.size ≠ 1 || o + (Value.slice none 0 0).cells.size > cs.toArray.size) = false := by simp [Value.cells]; omega
              rw [h9]
              simp only [Bool.false_eq_true, if_false]
              have hsp : (Value.slice none 0 0).cells.zipIdx.foldl (fun (cs : Array Value) (p : Value × Nat) => cs.setIfInBounds (o + p.2) p.1) cs.toArray = (splice cs o [.slice none 0 0]).toArray := by
                have e0 : cs = cs.take o ++ ((cs.drop o).take 1) ++ cs.drop (o + 1) := by
                  rw [← List.drop_drop, List.append_assoc, List.take_append_drop, List.take_append_drop]
                have := fill_at 1 o (.slice none 0 0) (cs.take o) ((cs.drop o).take 1) (cs.drop (o + 1)) (by rw [List.length_take]; omega) (by rw [List.length_take, List.length_drop]; omega) rfl
                rw [← e0] at this
                rw [this]
                unfold splice
                rfl
              rw [hsp]; exact f1
            cases hb
        cases hb
    cases hb
  | [], p :: ps, us, L, L', cs, hb, _, _, _ => by simp [bldL] at hb
  | i :: is, [], us, L, L', cs, hb, _, _, _ => by simp [bldL] at hb
theorem zip_map {α β γ : Type} (f : α → β) (k : α → γ) : ∀ l : List α, (l.map f).zip (l.map k) = l.map fun a => (f a, k a)
  | [] => rfl
  | a :: l => by simp [zip_map f k l]
theorem CalmV.build {pl : List (Nat × Nat)} {parts : Array (Nat × Operand)} {ps : List PV} (dx : τ.den) (hT : BldT P T τ pl) (hps : evVs fl (parts.toList.map (·.2)) = some ps := by rfl) (hb : bldL pl (cellsPV τ (zeroD τ)) (parts.toList.map (·.1)) ps = some (cellsPV τ dx) := by rfl) : CalmV P fl σ (.build T parts) (.v τ dx) :=
  ⟨rfl, fun h S t hs _ => by
    obtain ⟨z, z1, z2, z3⟩ := hT.zer.zero
    obtain ⟨y1, y2⟩ := zero_rep h S τ
    have hr : RepL h S ps ((parts.toList.map (·.2)).map (evalO t)) := sees_list (fun x hx => hs x (by simpa [Op.operands] using hx)) hps
    obtain ⟨cs', f1, f2, f3, f4⟩ := fill_bld hb hr (cells_repC y1) (af0_one y2)
    refine ⟨.agg cs'.toArray, ⟨by rw [hT.agg]; rfl, by simpa [Value.cells] using repC_cells f2⟩, fun _ _ _ _ _ H => ?_⟩
    show (bif (parts.toList.all fun p => (evalO t p.2).cells.toList.all oneCell) && ((((P.info? T).bind (·.zero)).map fun z => z.cells.toList.all af0) == some true) then (runPure P (Instr.build T (parts.map fun p => (p.1, evalO t p.2)))).map fun v => (v, H) else none) = _
    have c1 : (parts.toList.all fun p => (evalO t p.2).cells.toList.all oneCell) = true := by
      rw [List.map_map, List.all_map] at f3
      exact f3
    have c2 : ((((P.info? T).bind (·.zero)).map fun z => z.cells.toList.all af0) == some true) = true := by
      rw [z1]
      have e : z.cells.toList.all af0 = true := by rw [z2]; exact y2
      simp only [Option.map_some, e]; rfl
    have hrun := hT.run z (parts.map fun p => (p.1, evalO t p.2)) cs'.toArray z1 (by
      rw [← f1, Array.toList_map, ← zip_map, List.map_map]
      congr 1
      rw [← z2])
    rw [c1, c2, hrun]
    rfl⟩
end Go.Fs
namespace Go.Fs
variable {P : Program} {orc : FuncId → List Value → Heap → Option (Value × Heap)} {rnd : Option Nat} {h h' h0 h1 h2 : Heap} {S S' S0 : List Nat} {σ σ' σr : Sto} {t t' : Tr} {ms : List Nat} {fl : VL} {ops : Array Oper} {n i mem : Nat} {l : List Oper} {K : VL → Sto → Prop} {Q : Ex → VL → Sto → Prop}
  {d : Tmp} {ty : TypeId} {pos : String} {after : Array Edge} {op : Op} {v pv : PV} {g : Option (Nat × Bool)} {x y z : Operand} {T T' e : TypeId} {τ τ' : Ty} {bs nw : List Nat} {segs : List (Nat × Nat × Nat)} {tail so : Bool} {w w' : Value} {c c' : Cell}

abbrev I (n : Int) : PV := .v (.int .i64) n
abbrev B (b : Bool) : PV := .v .bool b
abbrev D (p : Prop) [Decidable p] : PV := .v .bool (decide p)
abbrev St (s : ByteArray) : PV := .v .str s
theorem m0 {a : Value × Cell} {r : Sto} : a ∈ a :: r := List.mem_cons_self
theorem m1 {a b : Value × Cell} {r : Sto} : b ∈ a :: b :: r := List.mem_cons_of_mem _ m0
theorem m2 {a b c : Value × Cell} {r : Sto} : c ∈ a :: b :: c :: r := List.mem_cons_of_mem _ m1
theorem m3 {a b c d : Value × Cell} {r : Sto} : d ∈ a :: b :: c :: d :: r := List.mem_cons_of_mem _ m2
def subG (b : Bool) (fl : VL) : VL → Prop
  | [] => True
  | (k, v) :: r => lkV fl k = some (.gd b v) ∧ subG b fl r
theorem Slots.there {b : Bool} {t : Tr} {fl : VL} (hs : Slots h S t fl) (hb : b = true) : ∀ {nw : VL}, subG b fl nw → Slots h S t (nw ++ fl)
  | [], _ => hs
  | (k, v) :: r, hn => (Slots.there hs hb hn.2).cons ((hs k _ hn.1 : RepPV h S (.gd b v) (t.get k)).1 hb)
theorem VO.cg {j : Nat} {w r : Bool} {k : Tmp} (nw : VL) (hnw : subG (r == w) fl nw) (hs : (r == w) = true → CalmV P (nw ++ fl) σ op v) (hk : VO P orc ops n l ((d, .gd (r == w) v) :: fl) σ K) (hj : (ops[j]?).bind (·.dst) = some k := by rfl) (hr : lkV fl k = some (.v .bool r) := by rfl) (hn : (Nat.blt d n && Nat.ble n 4000) = true := by rfl) :
    VO P orc ops n (⟨some d, op, ty, pos, after, some (j, w)⟩ :: l) fl σ K := fun h0 G S0 t h ms Iv0 => by
  obtain ⟨n1, n2⟩ := fits hn
  have hw : fsWanted ops t ⟨some d, op, ty, pos, after, some (j, w)⟩ = some (r == w) := want_ok Iv0.slots (by unfold wantV; simp only [hj, hr])
  cases hrw : (r == w) with
  | true =>
    obtain ⟨u, h1, h2⟩ := (hs hrw).2 h _ t (Iv0.slots.there hrw hnw).sees Iv0.cells
    refine EvO.op (by rw [hw, hrw]) (h2 _ _ _ _ _ h) (put_fits n1 t u) (hk h0 G S0 _ h ms ?_)
    rw [hrw]
    exact Iv0.set (show RepPV _ _ (.gd true v) u from ⟨fun _ => h1, fun e => by cases e⟩) n2
  | false =>
    refine EvO.skip (by rw [hw, hrw]) (put_fits n1 t undef) (hk h0 G S0 _ h ms ?_)
    rw [hrw]
    exact Iv0.set (show RepPV _ _ (.gd false v) undef from ⟨fun e => (by cases e), fun _ => rfl⟩) n2
theorem VO.rg {j : Nat} {w r : Bool} {k : Tmp} (nw : VL) (hnw : subG (r == w) fl nw) (hs : (r == w) = true → ReadV P (nw ++ fl) σ op v) (hk : VO P orc ops n l ((d, .gd (r == w) v) :: fl) σ K) (hj : (ops[j]?).bind (·.dst) = some k := by rfl) (hr : lkV fl k = some (.v .bool r) := by rfl) (hn : (Nat.blt d n && Nat.ble n 4000) = true := by rfl) :
    VO P orc ops n (⟨some d, op, ty, pos, after, some (j, w)⟩ :: l) fl σ K := fun h0 G S0 t h ms Iv0 => by
  obtain ⟨n1, n2⟩ := fits hn
  have hw : fsWanted ops t ⟨some d, op, ty, pos, after, some (j, w)⟩ = some (r == w) := want_ok Iv0.slots (by unfold wantV; simp only [hj, hr])
  cases hrw : (r == w) with
  | true =>
    obtain ⟨u, h1, h2⟩ := (hs hrw).2 h _ t (Iv0.slots.there hrw hnw).sees Iv0.cells
    refine EvO.op (by rw [hw, hrw]) (h2 h (fun _ _ x => x) _ _ _ _ _) (put_fits n1 t u) (hk h0 G S0 _ h ms ?_)
    rw [hrw]
    exact Iv0.set (show RepPV _ _ (.gd true v) u from ⟨fun _ => h1, fun e => by cases e⟩) n2
  | false =>
    refine EvO.skip (by rw [hw, hrw]) (put_fits n1 t undef) (hk h0 G S0 _ h ms ?_)
    rw [hrw]
    exact Iv0.set (show RepPV _ _ (.gd false v) undef from ⟨fun e => (by cases e), fun _ => rfl⟩) n2
theorem CalmV.or {r s : Bool} (hz : evV fl z = some (.v .bool r) := by rfl) (hx : evV fl x = some (.v .bool true) := by rfl) (hy : evV fl y = some (.gd (r == false) (.v .bool s)) := by rfl) : CalmV P fl σ (.pick z x y) (.v .bool (r || s)) := ⟨rfl, fun h S t hs _ => by
  have h1 := (hs z (by simp [Op.operands]) _ hz : RepPV h S (.v .bool r) _).bool
  have h2 := (hs x (by simp [Op.operands]) _ hx : RepPV h S (.v .bool true) _).bool
  have h3 : RepPV h S (.gd (r == false) (.v .bool s)) (evalO t y) := hs y (by simp [Op.operands]) _ hy
  refine ⟨.bool (r || s), RepV.ofBool _, fun _ _ _ _ _ H => ?_⟩
  show (match evalO t z with | .bool true => some (evalO t x, H) | .bool false => some (evalO t y, H) | _ => none) = _
  rw [h1, h2]
  cases r with
  | true => rfl
  | false =>
    have := (h3.1 rfl : RepPV h S (.v .bool s) _).bool
    rw [this]; rfl⟩
theorem CalmV.and {r s : Bool} (hz : evV fl z = some (.v .bool r) := by rfl) (hy : evV fl y = some (.v .bool false) := by rfl) (hx : evV fl x = some (.gd (r == true) (.v .bool s)) := by rfl) : CalmV P fl σ (.pick z x y) (.v .bool (r && s)) := ⟨rfl, fun h S t hs _ => by
  have h1 := (hs z (by simp [Op.operands]) _ hz : RepPV h S (.v .bool r) _).bool
  have h2 := (hs y (by simp [Op.operands]) _ hy : RepPV h S (.v .bool false) _).bool
  have h3 : RepPV h S (.gd (r == true) (.v .bool s)) (evalO t x) := hs x (by simp [Op.operands]) _ hx
  refine ⟨.bool (r && s), RepV.ofBool _, fun _ _ _ _ _ H => ?_⟩
  show (match evalO t z with | .bool true => some (evalO t x, H) | .bool false => some (evalO t y, H) | _ => none) = _
  rw [h1, h2]
  cases r with
  | false => rfl
  | true =>
    have := (h3.1 rfl : RepPV h S (.v .bool s) _).bool
    rw [this]; rfl⟩

theorem VO.go {b : Code} (hx : VC P orc rnd b n fl σ Q) : VO P orc ops n [] fl σ fun fl σ => thenV P orc rnd n b Q .normal fl σ := VO.nil hx
theorem VD.go {b : Code} (hx : VC P orc rnd b n fl σ Q) : VD P orc ops n [] i fl nw σ so bs mem tail fun fl σ => thenV P orc rnd n b Q .normal fl σ := VD.nil hx
def joinV (flJ : VL) (σJ : Sto) (Q : Ex → VL → Sto → Prop) : Ex → VL → Sto → Prop
  | .normal, fl, σ => subV fl flJ ∧ σ = σJ
  | .exit i, fl, σ => Q (.exit i) fl σ
  | .ret, fl, σ => Q .ret fl σ
theorem VC.join {a : Code} (flJ : VL) (σJ : Sto) (ha : VC P orc rnd a n fl σ (joinV flJ σJ Q)) (hb : Q .normal flJ σJ) : VC P orc rnd a n fl σ Q := fun h0 G S0 t h ms Iv0 => (ha h0 G S0 t h ms Iv0).mono fun e fr h' hq => by
  obtain ⟨hn, fl', σ', I', q⟩ := hq
  cases e with
  | normal =>
    obtain ⟨q1, rfl⟩ := q
    exact ⟨hn, flJ, σ', I'.sub flJ (subV_all q1), hb⟩
  | exit i => exact ⟨hn, fl', σ', I', q⟩
  | ret => exact ⟨hn, fl', σ', I', q⟩

theorem VEnd.one {fn : Func} {r : ResultVar} {p q : PV} (hr : fn.results = #[r]) (h1 : EndV P fl σ r p) (he : p = q) : VEnd P fn q .ret fl σ := ⟨rfl, [p], by rw [hr]; exact .cons h1 .nil, he⟩
theorem VEnd.two {fn : Func} {r r' : ResultVar} {p p' q q' : PV} (hr : fn.results = #[r, r']) (h1 : EndV P fl σ r p) (h2 : EndV P fl σ r' p') (he : p = q) (he' : p' = q') : VEnd P fn (.tup [q, q']) .ret fl σ := ⟨rfl, [p, p'], by rw [hr]; exact .cons h1 (.cons h2 .nil), by rw [he, he']; rfl⟩
theorem pvE {a b : τ.den} (h : a = b) : PV.v τ a = PV.v τ b := by rw [h]
theorem slE {k : Nat} {a b : τ.den} (hk : lkV fl k = some (.v τ a)) (h : a = b) : lkV fl k = some (.v τ b) := by rw [hk, h]
theorem evT {i : Nat} {p : PV} (hi : lkV fl i = some p := by rfl) : EndV P fl σ (.tmp i) p := .tmp hi .same
theorem evC {i : Nat} {p p' : PV} (hc : Co σ p p') (hi : lkV fl i = some p := by rfl) : EndV P fl σ (.tmp i) p' := .tmp hi hc

theorem VF.law {f : FuncId} {args : List PV} {us : List Value} (hv : VF P orc f args (.v .bool true)) (hok : HOk h) (hr : RepL h [] args us) : EvF P orc f us h fun r h' => r = .bool true ∧ h' = h :=
  (hv h [] us hok (fun b hb => by cases hb) hr).mono fun u h' ⟨_, h2, h3⟩ => ⟨RepV.bool h2, h3 rfl⟩
end Go.Fs
namespace Go.Fs
variable {P : Program} {orc : FuncId → List Value → Heap → Option (Value × Heap)} {rnd : Option Nat} {h h' h0 h1 h2 : Heap} {S S' S0 : List Nat} {σ σ' σr γ γ' : Sto} {t t' : Tr} {ms : List Nat} {fl : VL} {ops : Array Oper} {n i mem : Nat} {l : List Oper} {K : VL → Sto → Prop} {Q : Ex → VL → Sto → Prop}
  {d : Tmp} {ty : TypeId} {pos : String} {after : Array Edge} {op : Op} {v pv : PV} {g : Option (Nat × Bool)} {x y z : Operand} {T T' e : TypeId} {τ τ' : Ty} {bs nw : List Nat} {segs : List (Nat × Nat × Nat)} {tail so : Bool} {w w' : Value} {c c' : Cell}

section
variable (P orc)
end
end Go.Fs
