/- Parts of the proof: an evaluator of the model, what it is sound for, and contracts of functions. No condition. -/
import Derived.Test.YtligdjefbiebjaaGreatDoorP6
import Derived.Test.YtligdjefbiebjaaGreatDoorP5
set_option linter.all false
namespace Go.Proofs
open Go.Fs
theorem case_ev {c : Cse} (h : caseE c = 0) : ∀ i (hi : i < c.2.1.length), ¬ 0 ≤ evidE (c.2.1.take i) c.2.1[i].1 := fun i hi => by
  have hv : versE c.1 = 0 := (case_known h).1
  have he : firstR (evAt c) 0 c.2.1.length = 0 := by
    unfold caseE at h
    rw [if_neg (fun h2 : versE c.1 ≠ 0 => h2 hv)] at h
    by_cases h4 : 64 < (c.2.1.length : Int)
    · rw [if_pos h4] at h; cases h
    · rw [if_neg h4] at h
      by_cases h5 : firstR (evAt c) 0 c.2.1.length = 0
      · exact h5
      · rw [if_pos h5] at h; exact h
  have h1 := firstR_zero _ 0 rfl he i (Nat.zero_le _) hi
  unfold evAt at h1
  rw [eAt_eq hi] at h1
  have h2 := firstE_mem0 h1 (whenE (decide (0 ≤ evidE (c.2.1.take i) c.2.1[i].1)) 9) (by simp)
  intro h3
  rw [decide_eq_true h3] at h2
  cases h2
theorem evid_in {l : List Evid} {s : ByteArray} : 0 ≤ evidE l s ↔ ∃ x ∈ l, x.1 = s := by
  unfold evidE
  rw [idxG_none]
  constructor
  · rintro ⟨x, hx, he⟩; exact ⟨x, hx, of_decide_eq_true he⟩
  · rintro ⟨x, hx, he⟩; exact ⟨x, hx, decide_eq_true he⟩
theorem ev_nodup {c : Cse} (h : caseE c = 0) : (c.2.1.map (·.1)).Nodup := by
  refine List.pairwise_iff_getElem.2 fun i j hi hj hij => ?_
  rw [List.length_map] at hi hj
  rw [List.getElem_map, List.getElem_map]
  intro e
  exact case_ev h j hj (evid_in.2 ⟨c.2.1[i], List.mem_take_iff_getElem.2 ⟨i, by omega, rfl⟩, e⟩)
theorem validR_nodup {c : Cse} (h : caseE c = 0) : (validR c).Nodup := by
  unfold validR
  exact (ev_nodup h).sublist (List.Sublist.map _ List.filter_sublist)
theorem lackW_drop {l : List ByteArray} (hn : l.Nodup) {i : Nat} (hi : i < l.length) : lackW l l[i] = dropI l i := by
  have hp := List.pairwise_iff_getElem.1 hn
  have e : lackW l l[i] = lackW (l.take i ++ l[i] :: l.drop (i + 1)) l[i] := by
    rw [← List.drop_eq_getElem_cons hi, List.take_append_drop]
  rw [e]
  unfold lackW dropI
  rw [List.filter_append, List.filter_cons_of_neg (by simp)]
  congr 1
  · refine List.filter_eq_self.2 fun o ho => ?_
    obtain ⟨k, hk, rfl⟩ := List.mem_take_iff_getElem.1 ho
    rw [decide_eq_false (hp k i (by omega) hi (by omega))]; rfl
  · refine List.filter_eq_self.2 fun o ho => ?_
    obtain ⟨k, hk, rfl⟩ := List.getElem_of_mem ho
    rw [List.length_drop] at hk
    rw [List.getElem_drop, decide_eq_false (fun e => hp i (i + 1 + k) hi (by omega) (by omega) e.symm)]; rfl
/-- What is in its order is distinct. -/
theorem chkO_nodup {c : Cse} : ∀ {l : List ByteArray} {k : Int}, chkO c k l = 0 → l.Nodup ∧ ∀ s ∈ l, k < evidE c.2.1 s
  | [], k, _ => ⟨List.nodup_nil, fun s hs => by cases hs⟩
  | s :: r, k, h => by
    unfold chkO at h
    by_cases h1 : evidE c.2.1 s < 0
    · rw [if_pos h1] at h; cases h
    · rw [if_neg h1] at h
      by_cases h2 : evidE c.2.1 s ≤ k
      · rw [if_pos h2] at h; cases h
      · rw [if_neg h2] at h
        obtain ⟨h3, h4⟩ := chkO_nodup h
        refine ⟨List.nodup_cons.2 ⟨fun hm => ?_, h3⟩, fun w hw => ?_⟩
        · have := h4 s hm; omega
        · rcases List.mem_cons.1 hw with rfl | hw
          · omega
          · have := h4 w hw; omega
def badR (c : Cse) (s : ByteArray) (l : List ByteArray) (i : Nat) : Bool := !hasB (validR c) (l.getD i ByteArray.empty) || byR c (dropI l i) s
theorem badR_at {c : Cse} {s : ByteArray} {l : List ByteArray} {i : Nat} (h : i < l.length) : badR c s l i = (!hasB (validR c) l[i] || byR c (dropI l i) s) := by
  unfold badR
  rw [getD_at h]
def supR (c : Cse) (s : ByteArray) (l : List ByteArray) : Int := if rTwo c s ≠ 0 then rTwo c s else if chkO c (-1) l ≠ 0 then chkO c (-1) l else whenE ((List.range l.length).any (badR c s l) || !byR c l s) 22
theorem badS_R {c : Cse} {s : ByteArray} {l : List ByteArray} (h : caseE c = 0) (hn : l.Nodup) : badS c s l = ((List.range l.length).any (badR c s l) || !byR c l s) := by
  have hb : inM (byM c l) s = byR c l s := rfl
  have hc : decide (((l.filter (needB c s l)).length : Int) ≠ (l.length : Int)) = (List.range l.length).any fun i => byR c (dropI l i) s := by
    rw [Bool.eq_iff_iff, decide_eq_true_eq, List.any_eq_true]
    constructor
    · intro h1
      have h2 : ¬ l.all (needB c s l) = true := fun h3 => h1 (by rw [List.filter_eq_self.2 (List.all_eq_true.1 h3)])
      rw [Bool.not_eq_true, List.all_eq_false] at h2
      obtain ⟨w, hw, h3⟩ := h2
      obtain ⟨i, hi, rfl⟩ := List.getElem_of_mem hw
      refine ⟨i, List.mem_range.2 hi, ?_⟩
      unfold needB at h3
      rw [lackW_drop hn hi] at h3
      have h4 : inM (byM c (dropI l i)) s = true := by simpa using h3
      exact h4
    · rintro ⟨i, hi, h1⟩ h2
      have hi := List.mem_range.1 hi
      have h3 : (l.filter (needB c s l)).length = l.length := by omega
      have h4 := List.length_filter_eq_length_iff.1 h3 l[i] (List.getElem_mem hi)
      unfold needB at h4
      rw [lackW_drop hn hi] at h4
      have h1 : inM (byM c (dropI l i)) s = true := h1
      rw [h1] at h4
      cases h4
  have ha : (l.any fun w => !hasB (validE c) w) = (List.range l.length).any fun i => !hasB (validR c) (l.getD i ByteArray.empty) := by
    rw [validE_R h, Bool.eq_iff_iff, List.any_eq_true, List.any_eq_true]
    constructor
    · rintro ⟨w, hw, h1⟩
      obtain ⟨i, hi, rfl⟩ := List.getElem_of_mem hw
      exact ⟨i, List.mem_range.2 hi, by rw [getD_at hi]; exact h1⟩
    · rintro ⟨i, hi, h1⟩
      have hi := List.mem_range.1 hi
      rw [getD_at hi] at h1
      exact ⟨_, List.getElem_mem hi, h1⟩
  have hd : (List.range l.length).any (badR c s l) = (((List.range l.length).any fun i => !hasB (validR c) (l.getD i ByteArray.empty)) || (List.range l.length).any fun i => byR c (dropI l i) s) := by
    rw [Bool.eq_iff_iff, Bool.or_eq_true, List.any_eq_true, List.any_eq_true, List.any_eq_true]
    constructor
    · rintro ⟨i, hi, h1⟩
      unfold badR at h1
      rw [Bool.or_eq_true] at h1
      exact h1.imp (fun h => ⟨i, hi, h⟩) fun h => ⟨i, hi, h⟩
    · rintro (⟨i, hi, h1⟩ | ⟨i, hi, h1⟩)
      · exact ⟨i, hi, by unfold badR; rw [h1]; rfl⟩
      · exact ⟨i, hi, by unfold badR; rw [h1, Bool.or_true]⟩
  unfold badS
  rw [ha, hb, hc, hd]
  cases (List.range l.length).any fun i => !hasB (validR c) (l.getD i ByteArray.empty) <;> cases (List.range l.length).any fun i => byR c (dropI l i) s <;> cases byR c l s <;> rfl
theorem sup_same {c : Cse} {s : ByteArray} {l : List ByteArray} : supE c s l = supR c s l := by
  unfold supE supR
  rw [two_same]
  by_cases h : rTwo c s = 0
  · have e1 : ¬ rTwo c s ≠ 0 := fun h2 => h2 h
    rw [if_neg e1, if_neg e1]
    by_cases h2 : chkO c (-1) l = 0
    · have e2 : ¬ chkO c (-1) l ≠ 0 := fun h3 => h3 h2
      rw [if_neg e2, if_neg e2, badS_R (rTwo_ok h).1 (chkO_nodup h2).1]
    · rw [if_pos h2, if_pos h2]
  · rw [if_pos h, if_pos h]
theorem ev_one {c : Cse} (h : caseE c = 0) {x y : Evid} (hx : x ∈ c.2.1) (hy : y ∈ c.2.1) (e : x.1 = y.1) : x = y := by
  obtain ⟨i, hi, rfl⟩ := List.getElem_of_mem hx
  obtain ⟨j, hj, rfl⟩ := List.getElem_of_mem hy
  rcases Nat.lt_trichotomy i j with h1 | h1 | h1
  · exact absurd (evid_in.2 ⟨c.2.1[i], List.mem_take_iff_getElem.2 ⟨i, by omega, rfl⟩, e⟩) (case_ev h j hj)
  · subst h1; rfl
  · exact absurd (evid_in.2 ⟨c.2.1[j], List.mem_take_iff_getElem.2 ⟨j, by omega, rfl⟩, e.symm⟩) (case_ev h i hi)
theorem valid_has {c : Cse} (h : caseE c = 0) {x : Evid} (hx : x ∈ c.2.1) : hasB (validR c) x.1 = validB c x := by
  unfold hasB validR
  rw [Bool.eq_iff_iff, List.any_eq_true]
  constructor
  · rintro ⟨w, hw, h1⟩
    have h1 := of_decide_eq_true h1
    obtain ⟨y, hy, rfl⟩ := List.mem_map.1 hw
    obtain ⟨h2, h3⟩ := List.mem_filter.1 hy
    rw [← ev_one h h2 hx h1]; exact h3
  · exact fun h1 => ⟨x.1, List.mem_map.2 ⟨x, List.mem_filter.2 ⟨hx, h1⟩, rfl⟩, decide_eq_true rfl⟩
theorem staleE_R {c : Cse} (h : caseE c = 0) : staleE c = (c.2.1.filter fun x => !hasB (validR c) x.1).map (·.1) := by
  obtain ⟨hv, hk⟩ := case_known h
  unfold staleE
  congr 1
  exact List.filter_congr fun x hx => by rw [valid_has h hx, fresh_valid hv (hk x hx)]
end Go.Proofs
namespace Go.Fs
variable {P : Program} {orc : FuncId → List Value → Heap → Option (Value × Heap)} {rnd : Option Nat} {h h' h0 h1 h2 : Heap} {S S' S0 B G : List Nat} {σ σ' σr : Sto} {t t' : Tr} {ms : List Nat} {fl : VL} {ops : Array Oper} {n i mem : Nat} {l : List Oper} {K : VL → Sto → Prop} {Q : Ex → VL → Sto → Prop}
  {d : Tmp} {ty : TypeId} {pos : String} {after : Array Edge} {op : Op} {v pv : PV} {g : Option (Nat × Bool)} {x y z : Operand} {T T' e : TypeId} {τ τ' : Ty} {bs nw : List Nat} {segs : List (Nat × Nat × Nat)} {tail so : Bool} {w w' : Value} {c c' : Cell}

theorem FreshO.lit0C (hT : ElT P T e τ) : FreshO P fl (.buildSlice T 0 #[]) (.cel e 0 []) :=
  ⟨rfl, fun h S t hs hok hS => ⟨fun k => .slice (some ⟨k, 0, none⟩) 0 0, .row e [] true false, fun _ => rfl, fun S' hN hm => .inr ⟨h.next, [], false, rfl, hm, by rw [Heap.get_push, if_pos rfl], rfl, rfl, fun _ => rfl⟩, lit0_run hT⟩⟩
theorem append_nil_low {xv u : Value} (hT : ElT P T e τ) (hT' : ElT P T' e τ) (hf : fsAppend P #[T, T'] (.slice none 0 0) xv h = some (u, h')) : h.low ≤ h'.low := by
  obtain ⟨i, z, hi1, hi2, hi3, hi3', hi4, _⟩ := hT.sl.info
  unfold fsAppend at hf
  simp only [List.getElem?_toArray, List.getElem?_cons_zero, List.getElem?_cons_succ, hT.sl.sl, hT'.sl.sl, hi1, hi4] at hf
  split at hf
  · rename_i m news _
    obtain ⟨_, hf⟩ := bif_some hf
    unfold fsGrow at hf
    cases hm : Nat.beq m 0 with
    | true =>
      simp only [hm, cond_true, Option.some.injEq, Prod.mk.injEq] at hf
      rw [← hf.2]; exact Nat.le_refl _
    | false =>
      simp only [hm, cond_false] at hf
      obtain ⟨_, hf⟩ := bif_some hf
      unfold grown at hf
      simp only [Option.some.injEq, Prod.mk.injEq] at hf
      rw [← hf.2]; exact Nat.le_refl _
  · cases hf
theorem cel_row {w : Value} (hc : CellR h S w (.cel e 0 [])) : CellR h S w (.row e τ []) := by
  rcases hc with ⟨h1, _, _⟩ | ⟨b, rs, m, h1, h2, h3, h4, h5, h6⟩
  · exact .inl ⟨h1, rfl⟩
  · obtain rfl : rs = [] := h4
    exact .inr ⟨b, [], m, h1, h2, h3, Elems.nil⟩
theorem cel_rowL (L : Lc S0 h ((w, .cel e 0 []) :: σ) t fl) : Lc S0 h ((w, .row e τ []) :: σ) t fl where
  ok := L.ok
  s0 := L.s0
  cells := fun c hc => by
    rcases List.mem_cons.1 hc with rfl | hc
    · exact cel_row (L.cells _ List.mem_cons_self)
    · exact L.cells c (List.mem_cons_of_mem _ hc)
  sep := L.sep
  apart := L.apart
  slots := L.slots
theorem MakeV.app0 {ys : List τ.den} (hT : ElT P T e τ) (hT' : ElT P T' e τ) (hx : evV fl x = some (.raw w)) (hy : evV fl y = some (.v (.sl τ) ys)) (hsz : ys.length ≤ 1000000) :
    MakeV P fl ((w, .cel e 0 []) :: σ) (.call { callee := .builtin .append, args := #[x, y], argTypes := #[T, T'] }) fun v σ' => ∃ w', v = .raw w' ∧ σ' = (w', .row e τ ys) :: σ :=
  ⟨rfl, fun S0 h t L => by
    obtain ⟨u, h', v, σ', ⟨w', e1, e2⟩, e3, e4, e5⟩ := (MakeV.app (σ := σ) (xs := []) hT hT' hx hy (by simpa using hsz)).2 S0 h t (cel_rowL L)
    exact ⟨u, h', v, σ', ⟨w', e1, e2⟩, ⟨e3.aft, e3.new, e3.apart, e3.cells⟩, e4, e5⟩⟩
theorem draw_makeN {b : Nat} {o : Oper} {u : Value} {t2 : Tr} (hb : beforeOf bs o = b) (hp : put n t o.dst u = some t2) (hcalm : calm o.op = false) (hw : fsWanted ops t o = some true) (hord : Nat.beq (mem &&& b) mem = true) (hok : HOk h) (hst : stepO P o (evalO t) (entry h) = some (u, h')) (hB : Aft (entry h) h' B) (hl : h.next ≤ h'.low) :
    ∃ h2, fsDraw (stepO P) ops n o i ⟨t, h, bs, segs, mem, tail⟩ = some ⟨t2, h2, bs ++ [b], (i, h.next, h'.next) :: segs, mem ||| 2 ^ i, tail⟩ ∧ (∀ b, h2.get b = h'.get b) ∧ h2.next = h'.next ∧ Aft h h2 B ∧ After h h2 := by
  have hnx := hB.next
  have hnx' : Nat.blt h'.next h.next = false := blt_of_le hnx
  unfold fsDraw
  have hM' : ({ next := h.next, low := h.next, objs := bif Nat.beq (mem &&& b) mem then h.objs else mask b segs h.objs } : Heap) = entry h := by
    rw [hord]; rfl
  simp only [hw, hcalm, Bool.false_eq_true, if_false, hb, hord, Bool.not_true, Bool.and_false, cond_false]
  simp only [hord] at hM'
  rw [hM', hst]
  simp only [hnx', cond_false, hp]
  have hlow : Nat.ble h.next h'.low = true := by rw [Nat.ble_eq]; exact hl
  rw [hlow]
  have hsame : ∀ b, b < h.next → h'.get b = h.get b := fun b hb => by
    rcases hB.chg b hb with h3 | h3
    · exact h3
    · omega
  have hget : ∀ b, look (newer h.next h'.next h'.objs ++ h.objs) b = h'.get b := fun b => by
    rw [look_append]
    by_cases hb : b < h.next
    · cases hl2 : look (newer h.next h'.next h'.objs) b with
      | some o => have := (newer_some _ _ _ hl2).1; omega
      | none => exact (hsame b hb).symm
    · have hold : look h.objs b = none := by
        cases hl2 : look h.objs b with
        | none => rfl
        | some o => exact absurd (hok b o hl2) hb
      rw [hold, Option.or_none]
      cases hl2 : look h'.objs b with
      | some o =>
        have : b < h'.next := hB.ok hok b o hl2
        rw [newer_in _ _ (by omega) this, hl2]
        exact hl2.symm
      | none =>
        cases hl3 : look (newer h.next h'.next h'.objs) b with
        | none => exact hl2.symm
        | some o => rw [(newer_some _ _ _ hl3).2] at hl2; cases hl2
  refine ⟨_, rfl, hget, rfl, ⟨hnx, fun b hb hn => (hget b).trans (hB.get b hb hn), fun _ b o hg => ?_, fun e h3 _ _ => h3, fun b hb => .inl ((hget b).trans (hsame b hb)), Nat.le_refl _⟩, ⟨hnx, fun b hb => (hget b).trans (hsame b hb), fun _ b o hg => ?_, fun e h3 _ => h3⟩⟩
  · exact hB.ok hok b o ((hget b).symm.trans hg)
  · exact hB.ok hok b o ((hget b).symm.trans hg)
theorem VD.app0 {b : Nat} {ys : List τ.den} (hT : ElT P T e τ) (hT' : ElT P T' e τ) (hx : evV fl x = some (.raw w)) (hy : evV fl y = some (.v (.sl τ) ys)) (hsz : ys.length ≤ 1000000)
    (hk : ∀ w', VD P orc ops n l (i + 1) ((d, .raw w') :: fl) (nwSet false d nw) ((w', .row e τ ys) :: σ) false (bs ++ [b]) (mem ||| 2 ^ i) tail K)
    (hb : beforeOf bs ⟨some d, .call { callee := .builtin .append, args := #[x, y], argTypes := #[T, T'] }, ty, pos, after, g⟩ = b := by rfl) (hord : Nat.beq (mem &&& b) mem = true := by rfl) (hw : wantV ops fl g = some true := by rfl) (hn : (Nat.blt d n && Nat.ble n 4000) = true := by rfl) :
    VD P orc ops n (⟨some d, .call { callee := .builtin .append, args := #[x, y], argTypes := #[T, T'] }, ty, pos, after, g⟩ :: l) i fl nw ((w, .cel e 0 []) :: σ) so bs mem tail K := fun h0 G S0 t h ms segs I ho => by
  obtain ⟨n1, n2⟩ := fits hn
  have hs := MakeV.app0 (σ := σ) hT hT' hx hy hsz
  have Le := I.lc.objs (h' := entry h) (fun _ => rfl) rfl
  obtain ⟨u, h', v, σ', ⟨w', e0, e1⟩, e2, e3, e4⟩ := hs.2 S0 (entry h) t Le
  subst e0 e1
  have hlow : h.next ≤ h'.low := by
    have hst := e4 (some d) ty pos after g
    have hst : fsAppend P #[T, T'] (evalO t x) (evalO t y) (entry h) = some (u, h') := hst
    have hxw : evalO t x = w := evV_ok Le.slots hx
    rw [hxw] at hst
    rcases Le.cells _ List.mem_cons_self with ⟨z1, _, _⟩ | ⟨b0, rs, m, z1, z2, z3, z4, z5, z6⟩
    · have z1 : w = .slice none 0 0 := z1
      rw [z1] at hst
      refine append_nil_low hT hT' hst
    · have z1 : w = .slice (some ⟨b0, 0, none⟩) 0 0 := z1
      obtain rfl : rs = [] := z4
      obtain rfl : m = false := z6 rfl
      rw [z1] at hst
      exact append_lit_low (h := entry h) hT hT' z3 hst
  obtain ⟨h2, f1, f2, f3, f4, f5⟩ := draw_makeN (i := i) (segs := segs) (tail := tail) hb (put_fits n1 t u) hs.1 (want_ok I.slots hw) hord I.ok (e4 (some d) ty pos after g) e2.aft hlow
  have I2 := (I.made (made_objs e2 f2 f4)).set (e3.nx (Goes.objs f2)) n2
  refine EvD.op f1 (hk w' h0 G S0 _ _ ms _ I2 fun ht => ?_)
  obtain ⟨hs', a1, a2, a3, a4, a5, a6⟩ := (ho ht).set (v := .raw w') (u := u) (old := false) n2 fun e => by cases e
  refine ⟨hs', a1, a2.trans f5, SegsOk.cons a2.next a3, a4, fun k pv hk hn => (a5 k pv hk hn).nx (h := hs') fun b ob hg hb => ⟨hg, ?_⟩, fun e => by cases e⟩
  have h3 := a1 b ob hg
  have h4 := a2.next
  intro hmm
  rcases List.mem_append.1 hmm with hmm | hmm
  · rcases e2.new b hmm with h5 | h5
    · exact hb (List.mem_append_left _ h5)
    · have : (entry h).next = h.next := rfl
      omega
  · exact hb (List.mem_append_right _ hmm)
end Go.Fs
namespace Go.Proofs
open Go.Fs
set_option linter.unusedVariables false
set_option maxHeartbeats 1000000

theorem stale_t {c : Cse} {i : Nat} (h : i < c.2.1.length) (hh : hasB (validR c) c.2.1[i].1 = true) : ((c.2.1.take (i + 1)).filter fun x => !hasB (validR c) x.1).map (·.1) = ((c.2.1.take i).filter fun x => !hasB (validR c) x.1).map (·.1) := by
  rw [List.take_succ_eq_append_getElem h, List.filter_append, List.map_append]
  simp [hh]
theorem stale_f {c : Cse} {i : Nat} (h : i < c.2.1.length) (hh : hasB (validR c) c.2.1[i].1 = false) : ((c.2.1.take (i + 1)).filter fun x => !hasB (validR c) x.1).map (·.1) = ((c.2.1.take i).filter fun x => !hasB (validR c) x.1).map (·.1) ++ [c.2.1[i].1] := by
  rw [List.take_succ_eq_append_getElem h, List.filter_append, List.map_append]
  simp [hh]
theorem stale_len {c : Cse} {i : Nat} : (((c.2.1.take i).filter fun x => !hasB (validR c) x.1).map (·.1)).length ≤ i := by
  rw [List.length_map]
  have h := List.length_filter_le (fun x : Evid => !hasB (validR c) x.1) (c.2.1.take i)
  rw [List.length_take] at h
  omega
theorem need_len {c : Cse} {s : ByteArray} {l : List ByteArray} {i : Nat} : ((l.take i).filter (needB c s l)).length ≤ i := by
  have h := List.length_filter_le (needB c s l) (l.take i)
  rw [List.length_take] at h
  omega
theorem need_at {c : Cse} {s : ByteArray} {l : List ByteArray} (hn : l.Nodup) {i : Nat} (h : i < l.length) : needB c s l l[i] = !byR c (dropI l i) s := by
  unfold needB
  rw [lackW_drop hn h] <;> rfl
theorem need_t {c : Cse} {s : ByteArray} {l : List ByteArray} (hn : l.Nodup) {i : Nat} (h : i < l.length) (hh : byR c (dropI l i) s = true) : (l.take (i + 1)).filter (needB c s l) = (l.take i).filter (needB c s l) := by
  rw [List.take_succ_eq_append_getElem h, List.filter_append]
  simp [need_at hn h, hh]
theorem need_f {c : Cse} {s : ByteArray} {l : List ByteArray} (hn : l.Nodup) {i : Nat} (h : i < l.length) (hh : byR c (dropI l i) s = false) : (l.take (i + 1)).filter (needB c s l) = (l.take i).filter (needB c s l) ++ [l[i]] := by
  rw [List.take_succ_eq_append_getElem h, List.filter_append]
  simp [need_at hn h, hh]
theorem leanS_t {c : Cse} {s : ByteArray} {o out : List ByteArray} {i : Nat} (h : byR c (dropI out i ++ o) s = true) : leanS c s o out i = dropI out i := if_pos h
theorem leanS_f {c : Cse} {s : ByteArray} {o out : List ByteArray} {i : Nat} (h : byR c (dropI out i ++ o) s = false) : leanS c s o out i = out := by
  unfold leanS
  have h : inM (byM c (dropI out i ++ o)) s = false := h
  rw [h] <;> rfl
def prevE (c : Cse) (l : List ByteArray) : Nat → Int
  | 0 => -1
  | i + 1 => evidE c.2.1 (l.getD i ByteArray.empty)
theorem rWithout_ok {l : List ByteArray} {i : Int} (hl : l.length < 100000) (h0 : 0 ≤ i) (h1 : i < l.length) : VF Tryz.prog OA 132 [.v (.sl .str) l, I i] (.v (.sl .str) (dropI l i.toNat)) := by
  refine VF.enter Tryz.func132 rfl (fun _ _ => rfl) rfl ?_
  show VC _ _ _ _ _ [(0, .v (.sl .str) l), (1, I i)] [] _
  refine VC.seq ?_
  refine VC.text ?_
  refine VO.c (.assign rfl) ?_
  refine VO.go ?_
  refine VC.seq ?_
  refine VC.drawn ?_
  refine VD.cell (.lit0C el27) ?_
  intro ww1
  refine VD.c (.move rfl) ?_
  refine VD.c (.move rfl) ?_
  refine VD.r [] (.cutH rfl rfl el27 (by omega)) (.inl rfl) ?_
  refine VD.app0 el27 el27 rfl rfl (by simp; omega) ?_
  intro ww2
  refine VD.c (.move rfl) ?_
  refine VD.nw [9, 5] ?_
  refine VD.c (.move rfl) ?_
  refine VD.c (.add rfl rfl (by omega)) ?_
  refine VD.r [] (.cutL rfl rfl el27 (by omega)) (.inl rfl) ?_
  refine VD.mk (MakeV.app el27 el27 rfl rfl (by simp; omega)) ?_
  rintro _ _ tl3 ⟨ww3, rfl, rfl⟩
  refine VD.c (.assign rfl) ?_
  refine VD.go ?_
  refine VC.ret ?_
  exact VEnd.one rfl (evC (.row m0)) (pvE (by rw [show (i + 1).toNat = i.toNat + 1 by omega] <;> rfl))
theorem rThinned_ok {c : (List (ByteArray × Int)) × (List (ByteArray × (List (ByteArray × Int)))) × (List (ByteArray × Bool × (List ByteArray)))} {s : ByteArray} {l : List ByteArray} {o : List ByteArray} (hc : CseOk c) (hk : ClOk c) (hl : l.length < 50000) (ho : o.length < 50000) (hn : 0 ≤ claimE c.2.2 s) : VF Tryz.prog OA 131 [.v y64 c, St s, .v (.sl .str) l, .v (.sl .str) o] (.v (.sl .str) (leanF c s o l.length l)) := by
  refine VF.enter Tryz.func131 rfl (fun _ _ => rfl) rfl ?_
  show VC _ _ _ _ _ [(0, .v y64 c), (1, St s), (2, .v (.sl .str) l), (3, .v (.sl .str) o)] [] _
  refine VC.seq ?_
  refine VC.text ?_
  refine VO.new (.box) ?_
  refine VO.c (.assign rfl) ?_
  refine VO.go ?_
  refine VC.seq ?_
  refine VC.seq ?_
  refine VC.text ?_
  refine VO.c (.move rfl) ?_
  refine VO.r (.len el27) ?_
  refine VO.c (.sub rfl rfl (by omega)) ?_
  refine VO.c (.assign rfl) ?_
  refine VO.go ?_
  refine VC.block ?_
  refine VC.keep [(1, St s), (2, .v (.sl .str) l), (3, .v (.sl .str) o), (4, .p y64 c), (9, I (((l.length : Nat) : Int) - 1))] ⟨rfl, rfl, rfl, rfl, rfl, trivial⟩ ?_
  refine VC.loop (I := fun kk ff ss => ∃ (j : Nat) (out : List ByteArray), kk = j ∧ ff = [(1, St s), (2, .v (.sl .str) out), (3, .v (.sl .str) o), (4, .p y64 c), (9, I (((j : Nat) : Int) - 1))] ∧ ss = [] ∧ (j ≤ out.length) ∧ (out.length ≤ l.length) ∧ (leanF c s o l.length l = leanF c s o j out)) ?_ _ _ _ ⟨l.length, l, rfl, rfl, rfl, (by omega), (by omega), (by rfl)⟩
  rintro kk ff ss ⟨j, out, hk0, rfl, rfl, hj, hq, hf⟩
  refine VC.seq ?_
  refine VC.seq ?_
  refine VC.text ?_
  refine VO.c (.move rfl) ?_
  refine VO.c (.geq) ?_
  refine VO.go ?_
  refine VC.condD rfl (fun c2 => ?_) (fun c2 => ?_)
  · have e2 : (dropI out (j - 1)).length < 50000 := by rw [dropI_len (by omega)]; omega
    have e9 : (((j : Nat) : Int) - 1).toNat = j - 1 := by omega
    refine VC.skip ?_
    show VC _ _ _ _ _ _ _ _
    refine VC.seq ?_
    refine VC.block ?_
    refine VC.seq ?_
    refine VC.text ?_
    refine VO.c (.move rfl) ?_
    refine VO.c (.move rfl) ?_
    refine VO.call rfl rfl (VF.call (rWithout_ok (by first | assumption | omega | simp) (by first | assumption | omega | simp) (by first | assumption | omega | simp))) ?_
    rw [e9]
    refine VO.c (.assign rfl) ?_
    refine VO.go ?_
    refine VC.seq ?_
    refine VC.late [] ⟨[], rfl⟩ ?_
    refine VLt.q rfl (.ld vt64) ?_
    refine VLt.c (.move rfl) ?_
    refine VLt.litapp (τ := .str) (ys := dropI out (j - 1)) el27 el27 (by first | omega | (simp; omega)) ?_
    intro wv4 ww4
    refine VLt.c (.move rfl) ?_
    refine VLt.mk (MakeV.app el27 el27 rfl rfl (by first | omega | (simp; omega))) (TurnV.app rfl) ⟨[], rfl⟩ ?_
    rintro _ _ ⟨ww5, rfl, rfl⟩
    refine ⟨⟨[(ww5, .row 9 .str (dropI out (j - 1) ++ o))], rfl⟩, ?_⟩
    refine VLt.callC rfl rfl .same (.cons .same (.cons .same (.cons (.row m0) .nil))) rfl (VF.call (rBy_ok hc hk (by rw [List.length_append]; omega) hn)) ?_
    refine VLt.go ?_
    refine VC.condB rfl (fun c5 => ?_) (fun c5 => ?_)
    · refine VC.text ?_
      refine VO.c (.move rfl) ?_
      refine VO.c (.assign rfl) ?_
      refine VO.nil ?_
      show VC _ _ _ _ _ _ _ _
      refine VC.shutL [(ww5, .row 9 .str (dropI out (j - 1) ++ o))] [(27, .v (.sl .str) (dropI out (j - 1) ++ o))] rfl (.cons rfl (.row m0) .nil) ?_
      refine VC.text ?_
      refine VO.c (.move rfl) ?_
      refine VO.c (.sub rfl rfl (by omega)) ?_
      refine VO.c (.assign rfl) ?_
      refine VO.nil ?_
      refine ⟨_, [(1, St s), (2, .v (.sl .str) (leanS c s o out (j - 1))), (3, .v (.sl .str) o), (4, .p y64 c), (9, I ((((j - 1) : Nat) : Int) - 1))], ?_, ⟨rfl, slE rfl (by first | exact (leanS_t c5).symm | exact (leanS_f c5).symm), rfl, rfl, slI rfl (by omega), trivial⟩, (j - 1), (leanS c s o out (j - 1)), rfl, rfl, rfl, (by exact (leanS_len (by omega)).1), (by have := (leanS_len (c := c) (s := s) (o := o) (l := out) (i := j - 1) (by omega)).2; omega), (by rw [hf, leanF_step (by omega)])⟩
      omega
    · refine VC.skip ?_
      show VC _ _ _ _ _ _ _ _
      refine VC.shutL [(ww5, .row 9 .str (dropI out (j - 1) ++ o))] [(27, .v (.sl .str) (dropI out (j - 1) ++ o))] rfl (.cons rfl (.row m0) .nil) ?_
      refine VC.text ?_
      refine VO.c (.move rfl) ?_
      refine VO.c (.sub rfl rfl (by omega)) ?_
      refine VO.c (.assign rfl) ?_
      refine VO.nil ?_
      refine ⟨_, [(1, St s), (2, .v (.sl .str) (leanS c s o out (j - 1))), (3, .v (.sl .str) o), (4, .p y64 c), (9, I ((((j - 1) : Nat) : Int) - 1))], ?_, ⟨rfl, slE rfl (by first | exact (leanS_t c5).symm | exact (leanS_f c5).symm), rfl, rfl, slI rfl (by omega), trivial⟩, (j - 1), (leanS c s o out (j - 1)), rfl, rfl, rfl, (by exact (leanS_len (by omega)).1), (by have := (leanS_len (c := c) (s := s) (o := o) (l := out) (i := j - 1) (by omega)).2; omega), (by rw [hf, leanF_step (by omega)])⟩
      omega
  · refine VC.exit ?_
    show VC _ _ _ _ _ _ _ _
    refine VC.seq ?_
    refine VC.text ?_
    refine VO.c (.move rfl) ?_
    refine VO.c (.assign rfl) ?_
    refine VO.go ?_
    refine VC.ret ?_
    exact VEnd.one rfl evT (pvE (by rw [hf, show j = 0 by omega] <;> rfl))
theorem thinnedN_ok {c : Cse} {s : ByteArray} {l : List ByteArray} (hc : CseOk c) (hk : ClOk c) (hl : l.length < 50000) (hn : 0 ≤ claimE c.2.2 s) : VF Tryz.prog OA 131 [.v y64 c, .v .str s, .v (.sl .str) l, nilV] (.v (.sl .str) (leanF c s [] l.length l)) := nil4 (rThinned_ok hc hk hl (by simp) hn)
theorem rLacks_ok {c : (List (ByteArray × Int)) × (List (ByteArray × (List (ByteArray × Int)))) × (List (ByteArray × Bool × (List ByteArray)))} {s : ByteArray} (hc : CseOk c) (hz : caseE c = 0) (hn : 0 ≤ claimE c.2.2 s) : VF Tryz.prog OA 64 [.v y64 c, St s] (.tup [.v (.sl .str) (if byR c (validR c) s = true then [] else leanF c s (validR c) (staleE c).length (staleE c)), I (if byR c (validR c) s = true then 7 else 0)]) := by
  refine VF.enter Tryz.func64 rfl (fun _ _ => rfl) rfl ?_
  show VC _ _ _ _ _ [(0, .v y64 c), (1, St s)] [] _
  refine VC.seq ?_
  refine VC.text ?_
  have hK := (case_known hz).2
  have hk := case_claims hz
  have h64 := case_len hz
  have hvr := validR_len (c := c)
  have hsl := staleE_len (c := c)
  refine VO.new (.box) ?_
  refine VO.c (.assign rfl) ?_
  refine VO.c (.assign rfl) ?_
  refine VO.go ?_
  refine VC.seq ?_
  refine VC.seq ?_
  refine VC.text ?_
  refine VO.r (.ld vt64) ?_
  refine VO.c (.move rfl) ?_
  refine VO.call rfl rfl (VF.call (rHolds_ok (by first | assumption | omega | simp) (by first | assumption | omega | simp) (by first | assumption | omega | simp) (by first | assumption | omega | simp))) ?_
  refine VO.go ?_
  refine VC.condB rfl (fun c1 => ?_) (fun c1 => ?_)
  · refine VC.seq ?_
    refine VC.text ?_
    refine VO.c (.assign rfl) ?_
    refine VO.c (.assign rfl) ?_
    refine VO.go ?_
    refine VC.ret ?_
    exact VEnd.two rfl (evC .nil) evT (pvE (by rw [if_pos c1])) (pvI (by rw [if_pos c1]))
  · refine VC.skip ?_
    show VC _ _ _ _ _ _ _ _
    refine VC.seq ?_
    refine VC.text ?_
    refine VO.r (.ld vt64) ?_
    refine VO.call rfl rfl (VF.call (rFresh_ok (by first | assumption | omega | simp) (by first | assumption | omega | simp))) ?_
    refine VO.c (.assign rfl) ?_
    refine VO.go ?_
    refine VC.seq ?_
    refine VC.text ?_
    refine VO.c (.assign rfl) ?_
    refine VO.go ?_
    refine VC.seq ?_
    refine VC.seq ?_
    refine VC.text ?_
    refine VO.c (.assign rfl) ?_
    refine VO.go ?_
    refine VC.block ?_
    refine VC.cell0 9 .str ?_
    refine VC.keep [(1, St s), (2, .p y64 c), (6, .v (.sl .str) (validR c)), (7, .raw (.slice none 0 0)), (8, I ((0 : Nat) : Int))] ⟨rfl, rfl, rfl, rfl, rfl, trivial⟩ ?_
    refine VC.loop (I := fun kk ff ss => ∃ (i : Nat) (out : Value), kk = c.2.1.length - i ∧ ff = [(1, St s), (2, .p y64 c), (6, .v (.sl .str) (validR c)), (7, .raw out), (8, I ((i : Nat) : Int))] ∧ ss = [(out, .row 9 .str (((c.2.1.take i).filter fun x => !hasB (validR c) x.1).map (·.1)))] ∧ (i ≤ c.2.1.length)) ?_ _ _ _ ⟨0, (.slice none 0 0), rfl, rfl, rfl, Nat.zero_le _⟩
    rintro kk ff ss ⟨i, out, hk0, rfl, rfl, hi⟩
    have hfl := stale_len (c := c) (i := i)
    refine VC.seq ?_
    refine VC.seq ?_
    refine VC.text ?_
    refine VO.c (.move rfl) ?_
    refine VO.c (.fa (.r (.l .o))) ?_
    refine VO.r (.ld vt61) ?_
    refine VO.r (.len el61) ?_
    refine VO.c (.lss) ?_
    refine VO.go ?_
    refine VC.condD rfl (fun c6 => ?_) (fun c6 => ?_)
    · refine VC.skip ?_
      show VC _ _ _ _ _ _ _ _
      refine VC.seq ?_
      refine VC.block ?_
      refine VC.seq ?_
      refine VC.text ?_
      refine VO.c (.move rfl) ?_
      refine VO.c (.fa (.r (.l .o))) ?_
      refine VO.r (.ld vt61) ?_
      refine VO.c (.move rfl) ?_
      refine VO.c (.ix (j := i) rfl rfl el61 (by omega)) ?_
      refine VO.c (.fa (.l .o)) ?_
      refine VO.r (.ld vt9) ?_
      refine VO.call rfl rfl (VF.call (rHas_ok (by first | assumption | omega | simp))) ?_
      refine VO.c (.not) ?_
      refine VO.go ?_
      refine VC.condB rfl (fun c8 => ?_) (fun c8 => ?_)
      · try simp only [Bool.and_eq_true, Bool.or_eq_true, Bool.and_eq_false_iff, Bool.or_eq_false_iff, Bool.not_eq_true', Bool.not_eq_false', decide_eq_true_eq, decide_eq_false_iff_not] at c8
        refine VC.text ?_
        refine VO.c (.move rfl) ?_
        refine VO.c (.fa (.r (.l .o))) ?_
        refine VO.r (.ld vt61) ?_
        refine VO.c (.move rfl) ?_
        refine VO.c (.ix (j := i) rfl rfl el61 (by omega)) ?_
        refine VO.c (.fa (.l .o)) ?_
        refine VO.r (.ld vt9) ?_
        refine VO.new (.lit [(c.2.1[i]).1] el27) ?_
        refine VO.app rfl rfl el27 el27 (by exact Nat.le_trans (Nat.add_le_add_right hfl _) (by simp; omega)) ?_
        intro ww6
        refine VO.c (.assign rfl) ?_
        refine VO.nil ?_
        show VC _ _ _ _ _ _ _ _
        refine VC.text ?_
        refine VO.c (.move rfl) ?_
        refine VO.c (.add rfl rfl (by omega)) ?_
        refine VO.c (.assign rfl) ?_
        refine VO.nil ?_
        refine ⟨_, [(1, St s), (2, .p y64 c), (6, .v (.sl .str) (validR c)), (7, .raw ww6), (8, I (((i + 1) : Nat) : Int))], ?_, ⟨rfl, rfl, rfl, rfl, rfl, trivial⟩, (i + 1), ww6, rfl, rfl, (by first | rw [stale_t (by omega) c8] | rw [stale_f (by omega) c8]), (by omega)⟩
        omega
      · try simp only [Bool.and_eq_true, Bool.or_eq_true, Bool.and_eq_false_iff, Bool.or_eq_false_iff, Bool.not_eq_true', Bool.not_eq_false', decide_eq_true_eq, decide_eq_false_iff_not] at c8
        refine VC.skip ?_
        show VC _ _ _ _ _ _ _ _
        refine VC.text ?_
        refine VO.c (.move rfl) ?_
        refine VO.c (.add rfl rfl (by omega)) ?_
        refine VO.c (.assign rfl) ?_
        refine VO.nil ?_
        refine ⟨_, [(1, St s), (2, .p y64 c), (6, .v (.sl .str) (validR c)), (7, .raw out), (8, I (((i + 1) : Nat) : Int))], ?_, ⟨rfl, rfl, rfl, rfl, rfl, trivial⟩, (i + 1), out, rfl, rfl, (by first | rw [stale_t (by omega) c8] | rw [stale_f (by omega) c8]), (by omega)⟩
        omega
    · refine VC.exit ?_
      show VC _ _ _ _ _ _ _ _
      refine VC.seq ?_
      refine VC.text ?_
      have e1 : ((c.2.1.take i).filter fun x => !hasB (validR c) x.1).map (·.1) = staleE c := by rw [List.take_of_length_le (by omega), staleE_R hz]
      refine VO.r (.ld vt64) ?_
      refine VO.c (.move rfl) ?_
      refine VO.c (.move rfl) ?_
      refine VO.c (.move rfl) ?_
      refine VO.shut [(7, .v (.sl .str) (((c.2.1.take i).filter fun x => !hasB (validR c) x.1).map (·.1))), (41, .v (.sl .str) (((c.2.1.take i).filter fun x => !hasB (validR c) x.1).map (·.1)))] (.cons rfl (.row m0) (.cons rfl (.row m0) .nil)) ?_
      refine VO.call rfl rfl (VF.call (rThinned_ok hc hk (by rw [e1]; omega) (by omega) hn)) ?_
      refine VO.c (.assign rfl) ?_
      refine VO.c (.assign rfl) ?_
      refine VO.go ?_
      refine VC.ret ?_
      exact VEnd.two rfl evT evT (pvE (by rw [if_neg (by rw [c1]; decide), e1])) (pvI (by rw [if_neg (by rw [c1]; decide)]))
theorem rSupport_ok {c : (List (ByteArray × Int)) × (List (ByteArray × (List (ByteArray × Int)))) × (List (ByteArray × Bool × (List ByteArray)))} {s : ByteArray} (hc : CseOk c) (hz : caseE c = 0) (hn : 0 ≤ claimE c.2.2 s) : VF Tryz.prog OA 62 [.v y64 c, St s] (.tup [.v (.sl .str) (if byR c (validR c) s = true then leanF c s [] (validR c).length (validR c) else []), I (if byR c (validR c) s = true then 0 else 35)]) := by
  refine VF.enter Tryz.func62 rfl (fun _ _ => rfl) rfl ?_
  show VC _ _ _ _ _ [(0, .v y64 c), (1, St s)] [] _
  refine VC.seq ?_
  refine VC.text ?_
  have hK := (case_known hz).2
  have hk := case_claims hz
  have h64 := case_len hz
  have hvr := validR_len (c := c)
  refine VO.new (.box) ?_
  refine VO.c (.assign rfl) ?_
  refine VO.c (.assign rfl) ?_
  refine VO.go ?_
  refine VC.seq ?_
  refine VC.seq ?_
  refine VC.text ?_
  refine VO.r (.ld vt64) ?_
  refine VO.c (.move rfl) ?_
  refine VO.call rfl rfl (VF.call (rHolds_ok (by first | assumption | omega | simp) (by first | assumption | omega | simp) (by first | assumption | omega | simp) (by first | assumption | omega | simp))) ?_
  refine VO.c (.not) ?_
  refine VO.go ?_
  refine VC.condB rfl (fun c1 => ?_) (fun c1 => ?_)
  · try simp only [Bool.and_eq_true, Bool.or_eq_true, Bool.and_eq_false_iff, Bool.or_eq_false_iff, Bool.not_eq_true', Bool.not_eq_false', decide_eq_true_eq, decide_eq_false_iff_not] at c1
    refine VC.seq ?_
    refine VC.text ?_
    refine VO.c (.assign rfl) ?_
    refine VO.c (.assign rfl) ?_
    refine VO.go ?_
    refine VC.ret ?_
    exact VEnd.two rfl (evC .nil) evT (pvE (by rw [if_neg (by rw [c1]; decide)])) (pvI (by rw [if_neg (by rw [c1]; decide)]))
  · try simp only [Bool.and_eq_true, Bool.or_eq_true, Bool.and_eq_false_iff, Bool.or_eq_false_iff, Bool.not_eq_true', Bool.not_eq_false', decide_eq_true_eq, decide_eq_false_iff_not] at c1
    refine VC.skip ?_
    show VC _ _ _ _ _ _ _ _
    refine VC.seq ?_
    refine VC.drawn ?_
    refine VD.r [] (.ld vt64) (.inl rfl) ?_
    refine VD.c (.move rfl) ?_
    refine VD.r [] (.ld vt64) (.inl rfl) ?_
    refine VD.call rfl rfl (VF.call (rFresh_ok (by first | assumption | omega | simp) (by first | assumption | omega | simp))) ?_
    refine VD.callO rfl rfl (VF.call (thinnedN_ok (by first | assumption | omega | simp) (by first | assumption | omega | simp) (by first | assumption | omega | simp) (by first | assumption | omega | simp))) ?_
    refine VD.c (.assign rfl) ?_
    refine VD.nw [4, 14, 13] ?_
    refine VD.c (.assign rfl) ?_
    refine VD.go ?_
    refine VC.ret ?_
    exact VEnd.two rfl evT evT (pvE (by rw [if_pos c1])) (pvI (by rw [if_pos c1]))
theorem rNeeded_ok {c : (List (ByteArray × Int)) × (List (ByteArray × (List (ByteArray × Int)))) × (List (ByteArray × Bool × (List ByteArray)))} {s : ByteArray} (hc : CseOk c) (hz : caseE c = 0) (hn : 0 ≤ claimE c.2.2 s) : VF Tryz.prog OA 63 [.v y64 c, St s] (.tup [.v (.sl .str) (if byR c (validR c) s = true then (validR c).filter (needB c s (validR c)) else []), I (if byR c (validR c) s = true then 0 else 35)]) := by
  refine VF.enter Tryz.func63 rfl (fun _ _ => rfl) rfl ?_
  show VC _ _ _ _ _ [(0, .v y64 c), (1, St s)] [] _
  refine VC.seq ?_
  refine VC.text ?_
  have hK := (case_known hz).2
  have hk := case_claims hz
  have h64 := case_len hz
  have hvr := validR_len (c := c)
  have hnd := validR_nodup hz
  refine VO.new (.box) ?_
  refine VO.c (.assign rfl) ?_
  refine VO.c (.assign rfl) ?_
  refine VO.go ?_
  refine VC.seq ?_
  refine VC.seq ?_
  refine VC.text ?_
  refine VO.r (.ld vt64) ?_
  refine VO.c (.move rfl) ?_
  refine VO.call rfl rfl (VF.call (rHolds_ok (by first | assumption | omega | simp) (by first | assumption | omega | simp) (by first | assumption | omega | simp) (by first | assumption | omega | simp))) ?_
  refine VO.c (.not) ?_
  refine VO.go ?_
  refine VC.condB rfl (fun c1 => ?_) (fun c1 => ?_)
  · try simp only [Bool.and_eq_true, Bool.or_eq_true, Bool.and_eq_false_iff, Bool.or_eq_false_iff, Bool.not_eq_true', Bool.not_eq_false', decide_eq_true_eq, decide_eq_false_iff_not] at c1
    refine VC.seq ?_
    refine VC.text ?_
    refine VO.c (.assign rfl) ?_
    refine VO.c (.assign rfl) ?_
    refine VO.go ?_
    refine VC.ret ?_
    exact VEnd.two rfl (evC .nil) evT (pvE (by rw [if_neg (by rw [c1]; decide)])) (pvI (by rw [if_neg (by rw [c1]; decide)]))
  · try simp only [Bool.and_eq_true, Bool.or_eq_true, Bool.and_eq_false_iff, Bool.or_eq_false_iff, Bool.not_eq_true', Bool.not_eq_false', decide_eq_true_eq, decide_eq_false_iff_not] at c1
    refine VC.skip ?_
    show VC _ _ _ _ _ _ _ _
    refine VC.seq ?_
    refine VC.text ?_
    refine VO.r (.ld vt64) ?_
    refine VO.call rfl rfl (VF.call (rFresh_ok (by first | assumption | omega | simp) (by first | assumption | omega | simp))) ?_
    refine VO.c (.assign rfl) ?_
    refine VO.go ?_
    refine VC.seq ?_
    refine VC.text ?_
    refine VO.c (.assign rfl) ?_
    refine VO.go ?_
    refine VC.seq ?_
    refine VC.seq ?_
    refine VC.text ?_
    refine VO.c (.assign rfl) ?_
    refine VO.go ?_
    refine VC.block ?_
    refine VC.cell0 9 .str ?_
    refine VC.keep [(1, St s), (2, .p y64 c), (6, .v (.sl .str) (validR c)), (7, .raw (.slice none 0 0)), (8, I ((0 : Nat) : Int))] ⟨rfl, rfl, rfl, rfl, rfl, trivial⟩ ?_
    refine VC.loop (I := fun kk ff ss => ∃ (i : Nat) (out : Value), kk = (validR c).length - i ∧ ff = [(1, St s), (2, .p y64 c), (6, .v (.sl .str) (validR c)), (7, .raw out), (8, I ((i : Nat) : Int))] ∧ ss = [(out, .row 9 .str (((validR c).take i).filter (needB c s (validR c))))] ∧ (i ≤ (validR c).length)) ?_ _ _ _ ⟨0, (.slice none 0 0), rfl, rfl, rfl, (by omega)⟩
    rintro kk ff ss ⟨i, out, hk0, rfl, rfl, hi⟩
    have hfl := need_len (c := c) (s := s) (l := validR c) (i := i)
    refine VC.seq ?_
    refine VC.seq ?_
    refine VC.text ?_
    refine VO.c (.move rfl) ?_
    refine VO.c (.move rfl) ?_
    refine VO.r (.len el27) ?_
    refine VO.c (.lss) ?_
    refine VO.go ?_
    refine VC.condD rfl (fun c6 => ?_) (fun c6 => ?_)
    · have hd : (dropI (validR c) i).length < 100000 := by rw [dropI_len (by omega)]; omega
      refine VC.skip ?_
      show VC _ _ _ _ _ _ _ _
      refine VC.seq ?_
      refine VC.block ?_
      refine VC.seq ?_
      refine VC.drawn ?_
      refine VD.r [] (.ld vt64) (.inl rfl) ?_
      refine VD.c (.move rfl) ?_
      refine VD.c (.move rfl) ?_
      refine VD.c (.move rfl) ?_
      refine VD.call rfl rfl (VF.call (rWithout_ok (by first | assumption | omega | simp) (by first | assumption | omega | simp) (by first | assumption | omega | simp))) ?_
      rw [Int.toNat_natCast]
      refine VD.callO rfl rfl (VF.call (rBy_ok (by first | assumption | omega | simp) (by first | assumption | omega | simp) (by first | assumption | omega | simp) (by first | assumption | omega | simp))) ?_
      refine VD.nw [25] ?_
      refine VD.c (.not) ?_
      refine VD.go ?_
      refine VC.condB rfl (fun c8 => ?_) (fun c8 => ?_)
      · try simp only [Bool.and_eq_true, Bool.or_eq_true, Bool.and_eq_false_iff, Bool.or_eq_false_iff, Bool.not_eq_true', Bool.not_eq_false', decide_eq_true_eq, decide_eq_false_iff_not] at c8
        refine VC.text ?_
        refine VO.c (.move rfl) ?_
        refine VO.c (.move rfl) ?_
        refine VO.c (.move rfl) ?_
        refine VO.c (.ix (j := i) rfl rfl el27 (by omega)) ?_
        refine VO.r (.ld vt9) ?_
        refine VO.new (.lit [(validR c)[i]] el27) ?_
        refine VO.app rfl rfl el27 el27 (by exact Nat.le_trans (Nat.add_le_add_right hfl _) (by simp; omega)) ?_
        intro ww7
        refine VO.c (.assign rfl) ?_
        refine VO.nil ?_
        show VC _ _ _ _ _ _ _ _
        refine VC.text ?_
        refine VO.c (.move rfl) ?_
        refine VO.c (.add rfl rfl (by omega)) ?_
        refine VO.c (.assign rfl) ?_
        refine VO.nil ?_
        refine ⟨_, [(1, St s), (2, .p y64 c), (6, .v (.sl .str) (validR c)), (7, .raw ww7), (8, I (((i + 1) : Nat) : Int))], ?_, ⟨rfl, rfl, rfl, rfl, rfl, trivial⟩, (i + 1), ww7, rfl, rfl, (by first | rw [need_t hnd (by omega) c8] | rw [need_f hnd (by omega) c8]), (by omega)⟩
        omega
      · try simp only [Bool.and_eq_true, Bool.or_eq_true, Bool.and_eq_false_iff, Bool.or_eq_false_iff, Bool.not_eq_true', Bool.not_eq_false', decide_eq_true_eq, decide_eq_false_iff_not] at c8
        refine VC.skip ?_
        show VC _ _ _ _ _ _ _ _
        refine VC.text ?_
        refine VO.c (.move rfl) ?_
        refine VO.c (.add rfl rfl (by omega)) ?_
        refine VO.c (.assign rfl) ?_
        refine VO.nil ?_
        refine ⟨_, [(1, St s), (2, .p y64 c), (6, .v (.sl .str) (validR c)), (7, .raw out), (8, I (((i + 1) : Nat) : Int))], ?_, ⟨rfl, rfl, rfl, rfl, rfl, trivial⟩, (i + 1), out, rfl, rfl, (by first | rw [need_t hnd (by omega) c8] | rw [need_f hnd (by omega) c8]), (by omega)⟩
        omega
    · refine VC.exit ?_
      show VC _ _ _ _ _ _ _ _
      refine VC.seq ?_
      refine VC.text ?_
      refine VO.c (.move rfl) ?_
      refine VO.c (.assign rfl) ?_
      refine VO.c (.assign rfl) ?_
      refine VO.go ?_
      refine VC.ret ?_
      exact VEnd.two rfl (evC (.row m0)) evT (pvE (by rw [if_pos c1, List.take_of_length_le (by omega)])) (pvI (by rw [if_pos c1]))
theorem prev_pos {c : Cse} {l : List ByteArray} {i : Nat} (h0 : 0 < i) (h : ((i : Int) - 1).toNat < l.length) : prevE c l i = evidE c.2.1 l[((i : Int) - 1).toNat] := by
  cases i with
  | zero => omega
  | succ k =>
    have e : (((k + 1 : Nat) : Int) - 1).toNat = k := by omega
    simp only [e] at h ⊢
    show evidE c.2.1 (l.getD k ByteArray.empty) = _
    rw [getD_at h]
theorem chk_no {c : Cse} {l : List ByteArray} {i : Nat} (h : i < l.length) (h0 : 0 < (i : Int)) (hq : ((i : Int) - 1).toNat < l.length) (h1 : ¬ evidE c.2.1 l[i] < 0) (h2 : evidE c.2.1 l[i] ≤ evidE c.2.1 l[((i : Int) - 1).toNat]) : chkO c (prevE c l i) (l.drop i) = 11 := by
  rw [chkO_drop h, if_neg h1, prev_pos (by omega) hq, if_pos h2]
theorem chk_go1 {c : Cse} {l : List ByteArray} {i : Nat} (h : i < l.length) (h0 : 0 < (i : Int)) (hq : ((i : Int) - 1).toNat < l.length) (hf : chkO c (-1) l = chkO c (prevE c l i) (l.drop i)) (h1 : ¬ evidE c.2.1 l[i] < 0) (h2 : ¬ evidE c.2.1 l[i] ≤ evidE c.2.1 l[((i : Int) - 1).toNat]) : chkO c (-1) l = chkO c (prevE c l (i + 1)) (l.drop (i + 1)) := by
  rw [hf, chkO_drop h, if_neg h1, prev_pos (by omega) hq, if_neg h2]
  show _ = chkO c (evidE c.2.1 (l.getD i ByteArray.empty)) _
  rw [getD_at h]
theorem chk_go0 {c : Cse} {l : List ByteArray} {i : Nat} (h : i < l.length) (hf : chkO c (-1) l = chkO c (prevE c l i) (l.drop i)) (h1 : ¬ evidE c.2.1 l[i] < 0) (h0 : ¬ 0 < (i : Int)) : chkO c (-1) l = chkO c (prevE c l (i + 1)) (l.drop (i + 1)) := by
  obtain rfl : i = 0 := by omega
  rw [hf, chkO_drop h, if_neg h1]
  show (if evidE c.2.1 l[0] ≤ -1 then _ else _) = _
  rw [if_neg (show ¬ evidE c.2.1 l[0] ≤ -1 by omega)]
  show _ = chkO c (evidE c.2.1 (l.getD 0 ByteArray.empty)) _
  rw [getD_at h]
theorem bad_step {c : Cse} {s : ByteArray} {l : List ByteArray} {j : Nat} (h : j < l.length) (hg : ∀ k, k < j → badR c s l k = false) (h1 : hasB (validR c) l[j] = true) (h2 : byR c (dropI l j) s = false) : ∀ k, k < j + 1 → badR c s l k = false := fun k hk => by
  by_cases h3 : k < j
  · exact hg k h3
  · obtain rfl : k = j := by omega
    rw [badR_at h, h1, h2] <;> rfl
theorem bad_any {c : Cse} {s : ByteArray} {l : List ByteArray} {j : Nat} (h : j < l.length) (h1 : badR c s l j = true) : (List.range l.length).any (badR c s l) = true := List.any_eq_true.2 ⟨j, List.mem_range.2 h, h1⟩
theorem bad_none {c : Cse} {s : ByteArray} {l : List ByteArray} {j : Nat} (h : l.length ≤ j) (hg : ∀ k, k < j → badR c s l k = false) : (List.range l.length).any (badR c s l) = false := by
  rw [List.any_eq_false]
  exact fun k hk => by rw [hg k (by have := List.mem_range.1 hk; omega)]; decide
theorem sup_0 {c : Cse} {s : ByteArray} {l : List ByteArray} (h : ¬ rTwo c s ≠ 0) (h2 : chkO c (-1) l = 0) : supR c s l = whenE ((List.range l.length).any (badR c s l) || !byR c l s) 22 := by
  unfold supR
  rw [if_neg h, if_neg (fun h3 => h3 h2)]
theorem rCheckSupport_ok {c : (List (ByteArray × Int)) × (List (ByteArray × (List (ByteArray × Int)))) × (List (ByteArray × Bool × (List ByteArray)))} {s : ByteArray} {l : List ByteArray} (hc : CseOk c) (hl : l.length < 100000) : VF Tryz.prog OA 67 [.v y64 c, St s, .v (.sl .str) l] (I (supR c s l)) := by
  refine VF.enter Tryz.func67 rfl (fun _ _ => rfl) rfl ?_
  show VC _ _ _ _ _ [(0, .v y64 c), (1, St s), (2, .v (.sl .str) l)] [] _
  refine VC.seq ?_
  refine VC.text ?_
  have hce := hc.e
  have hvr := validR_len (c := c)
  refine VO.new (.box) ?_
  refine VO.c (.assign rfl) ?_
  refine VO.go ?_
  refine VC.seq ?_
  refine VC.seq ?_
  refine VC.text ?_
  refine VO.r (.ld vt64) ?_
  refine VO.c (.move rfl) ?_
  refine VO.call rfl rfl (VF.call (rCheckClaim_ok (by first | assumption | omega | simp))) ?_
  refine VO.c (.assign rfl) ?_
  refine VO.go ?_
  refine VC.seq ?_
  refine VC.text ?_
  refine VO.c (.move rfl) ?_
  refine VO.c (.neq) ?_
  refine VO.go ?_
  refine VC.condD rfl (fun c2 => ?_) (fun c2 => ?_)
  · refine VC.seq ?_
    refine VC.text ?_
    refine VO.c (.move rfl) ?_
    refine VO.c (.assign rfl) ?_
    refine VO.go ?_
    refine VC.ret ?_
    exact VEnd.one rfl evT (pvI (by rw [supR, if_pos c2]))
  · have hr := rTwo_ok (Decidable.not_not.1 c2)
    have hK := (case_known hr.1).2
    have hk := case_claims hr.1
    have hn := hr.2
    refine VC.skip ?_
    show VC _ _ _ _ _ _ _ _
    refine VC.seq ?_
    refine VC.seq ?_
    refine VC.text ?_
    refine VO.c (.assign rfl) ?_
    refine VO.go ?_
    refine VC.block ?_
    refine VC.keep [(1, St s), (2, .v (.sl .str) l), (3, .p y64 c), (8, I ((0 : Nat) : Int))] ⟨rfl, rfl, rfl, rfl, trivial⟩ ?_
    refine VC.loop (I := fun kk ff ss => ∃ (i : Nat), kk = l.length - i ∧ ff = [(1, St s), (2, .v (.sl .str) l), (3, .p y64 c), (8, I ((i : Nat) : Int))] ∧ ss = [] ∧ (i ≤ l.length) ∧ (chkO c (-1) l = chkO c (prevE c l i) (l.drop i))) ?_ _ _ _ ⟨0, rfl, rfl, rfl, Nat.zero_le _, (by rfl)⟩
    rintro kk ff ss ⟨i, hk0, rfl, rfl, hi, hf⟩
    refine VC.seq ?_
    refine VC.seq ?_
    refine VC.text ?_
    refine VO.c (.move rfl) ?_
    refine VO.c (.move rfl) ?_
    refine VO.r (.len el27) ?_
    refine VO.c (.lss) ?_
    refine VO.go ?_
    refine VC.condD rfl (fun c5 => ?_) (fun c5 => ?_)
    · refine VC.skip ?_
      show VC _ _ _ _ _ _ _ _
      refine VC.seq ?_
      refine VC.block ?_
      refine VC.seq ?_
      refine VC.seq ?_
      refine VC.drawn ?_
      refine VD.r [] (.ld vt64) (.inl rfl) ?_
      refine VD.c (.move rfl) ?_
      refine VD.c (.move rfl) ?_
      refine VD.c (.ix (j := i) rfl rfl el27 (by omega)) ?_
      refine VD.r [] (.ld vt9) (.inl rfl) ?_
      refine VD.call rfl rfl (VF.call (rEvid_ok (by first | assumption | omega | simp))) ?_
      refine VD.nw [] ?_
      refine VD.c (.lss) ?_
      refine VD.go ?_
      refine VC.condD rfl (fun c7 => ?_) (fun c7 => ?_)
      · refine VC.seq ?_
        refine VC.text ?_
        refine VO.c (.assign rfl) ?_
        refine VO.go ?_
        refine VC.ret ?_
        exact VEnd.one rfl evT (pvI (by rw [supR, if_neg c2, hf, chkO_drop (by omega), if_pos c7, if_pos (by decide)]))
      · refine VC.skip ?_
        show VC _ _ _ _ _ _ _ _
        refine VC.seq ?_
        refine VC.drawn ?_
        refine VD.c (.move rfl) ?_
        refine VD.c (.gtr) ?_
        refine VD.c (.move rfl) ?_
        refine VD.splitD (x := 32) rfl (fun g9_2 => ?_) (fun g9_2 => ?_)
        · refine VD.r [] (.ld vt64) (.inl rfl) ?_
          refine VD.c (.move rfl) ?_
          refine VD.nw [] ?_
          refine VD.c (.move rfl) ?_
          refine VD.c (.ix (j := i) rfl rfl el27 (by omega)) ?_
          refine VD.r [] (.ld vt9) (.inl rfl) ?_
          refine VD.call rfl rfl (VF.call (rEvid_ok (by first | assumption | omega | simp))) ?_
          refine VD.r [] (.ld vt64) (.inl rfl) ?_
          refine VD.c (.move rfl) ?_
          refine VD.c (.move rfl) ?_
          refine VD.nw [] ?_
          refine VD.c (.sub rfl rfl (by omega)) ?_
          refine VD.c (.ixZ (k := (((i : Nat) : Int) - (1 : Int))) rfl rfl el27 (by omega) (by omega)) ?_
          refine VD.r [] (.ld vt9) (.inl rfl) ?_
          refine VD.call rfl rfl (VF.call (rEvid_ok (by first | assumption | omega | simp))) ?_
          refine VD.c (.leq) ?_
          refine VD.c (.pickT rfl rfl) ?_
          refine VD.go ?_
          refine VC.condD rfl (fun c9 => ?_) (fun c9 => ?_)
          · refine VC.seq ?_
            refine VC.text ?_
            refine VO.c (.assign rfl) ?_
            refine VO.go ?_
            refine VC.ret ?_
            exact VEnd.one rfl evT (pvI (by rw [supR, if_neg c2, hf, chk_no (by omega) g9_2 (by omega) c7 c9, if_pos (by decide)]))
          · refine VC.skip ?_
            show VC _ _ _ _ _ _ _ _
            refine VC.text ?_
            refine VO.c (.move rfl) ?_
            refine VO.c (.add rfl rfl (by omega)) ?_
            refine VO.c (.assign rfl) ?_
            refine VO.nil ?_
            refine ⟨_, [(1, St s), (2, .v (.sl .str) l), (3, .p y64 c), (8, I (((i + 1) : Nat) : Int))], ?_, ⟨rfl, rfl, rfl, rfl, trivial⟩, (i + 1), rfl, rfl, rfl, (by omega), (by first | exact chk_go1 (by omega) g9_2 (by omega) hf c7 c9 | exact chk_go0 (by omega) hf c7 g9_2)⟩
            omega
        · refine VD.skip ?_
          refine VD.skip ?_
          refine VD.nw [] ?_
          refine VD.skip ?_
          refine VD.skip ?_
          refine VD.skip ?_
          refine VD.skip ?_
          refine VD.skip ?_
          refine VD.skip ?_
          refine VD.skip ?_
          refine VD.nw [] ?_
          refine VD.skip ?_
          refine VD.skip ?_
          refine VD.skip ?_
          refine VD.skip ?_
          refine VD.skip ?_
          refine VD.c (.pickF rfl rfl) ?_
          refine VD.go ?_
          refine VC.condF rfl ?_
          refine VC.skip ?_
          show VC _ _ _ _ _ _ _ _
          refine VC.text ?_
          refine VO.c (.move rfl) ?_
          refine VO.c (.add rfl rfl (by omega)) ?_
          refine VO.c (.assign rfl) ?_
          refine VO.nil ?_
          refine ⟨_, [(1, St s), (2, .v (.sl .str) l), (3, .p y64 c), (8, I (((i + 1) : Nat) : Int))], ?_, ⟨rfl, rfl, rfl, rfl, trivial⟩, (i + 1), rfl, rfl, rfl, (by omega), (by first | exact chk_go1 (by omega) g9_2 (by omega) hf c7 c9 | exact chk_go0 (by omega) hf c7 g9_2)⟩
          omega
    · refine VC.exit ?_
      show VC _ _ _ _ _ _ _ _
      refine VC.seq ?_
      refine VC.text ?_
      have hf0 : chkO c (-1) l = 0 := by rw [hf, List.drop_eq_nil_of_le (by omega)] <;> rfl
      refine VO.r (.ld vt64) ?_
      refine VO.call rfl rfl (VF.call (rFresh_ok (by first | assumption | omega | simp) (by first | assumption | omega | simp))) ?_
      refine VO.c (.assign rfl) ?_
      refine VO.go ?_
      refine VC.seq ?_
      refine VC.seq ?_
      refine VC.text ?_
      refine VO.c (.assign rfl) ?_
      refine VO.go ?_
      refine VC.block ?_
      refine VC.keep [(1, St s), (2, .v (.sl .str) l), (3, .p y64 c), (9, .v (.sl .str) (validR c)), (10, I ((0 : Nat) : Int))] ⟨rfl, rfl, rfl, rfl, rfl, trivial⟩ ?_
      refine VC.loop (I := fun kk ff ss => ∃ (j : Nat), kk = l.length - j ∧ ff = [(1, St s), (2, .v (.sl .str) l), (3, .p y64 c), (9, .v (.sl .str) (validR c)), (10, I ((j : Nat) : Int))] ∧ ss = [] ∧ (j ≤ l.length) ∧ (∀ k, k < j → badR c s l k = false)) ?_ _ _ _ ⟨0, rfl, rfl, rfl, Nat.zero_le _, (by exact fun k h => absurd h (by omega))⟩
      rintro kk ff ss ⟨j, hk2, rfl, rfl, hj, hg⟩
      refine VC.seq ?_
      refine VC.seq ?_
      refine VC.text ?_
      refine VO.c (.move rfl) ?_
      refine VO.c (.move rfl) ?_
      refine VO.r (.len el27) ?_
      refine VO.c (.lss) ?_
      refine VO.go ?_
      refine VC.condD rfl (fun c13 => ?_) (fun c13 => ?_)
      · have hd : (dropI l j).length < 100000 := by rw [dropI_len (by omega)]; omega
        refine VC.skip ?_
        show VC _ _ _ _ _ _ _ _
        refine VC.seq ?_
        refine VC.block ?_
        refine VC.seq ?_
        refine VC.drawn ?_
        refine VD.c (.move rfl) ?_
        refine VD.c (.move rfl) ?_
        refine VD.c (.move rfl) ?_
        refine VD.c (.ix (j := j) rfl rfl el27 (by omega)) ?_
        refine VD.r [] (.ld vt9) (.inl rfl) ?_
        refine VD.call rfl rfl (VF.call (rHas_ok (by first | assumption | omega | simp))) ?_
        refine VD.nw [] ?_
        refine VD.c (.not) ?_
        refine VD.c (.move rfl) ?_
        refine VD.splitB (x := 63) rfl (fun g15_7 => ?_) (fun g15_7 => ?_)
        · try simp only [Bool.and_eq_true, Bool.or_eq_true, Bool.and_eq_false_iff, Bool.or_eq_false_iff, Bool.not_eq_true', Bool.not_eq_false', decide_eq_true_eq, decide_eq_false_iff_not] at g15_7
          refine VD.skip ?_
          refine VD.skip ?_
          refine VD.skip ?_
          refine VD.skip ?_
          refine VD.nw [] ?_
          refine VD.skip ?_
          refine VD.skip ?_
          refine VD.c (.pickT rfl rfl) ?_
          refine VD.go ?_
          refine VC.condT rfl ?_
          refine VC.seq ?_
          refine VC.text ?_
          refine VO.c (.assign rfl) ?_
          refine VO.go ?_
          refine VC.ret ?_
          exact VEnd.one rfl evT (pvI (by first | (rw [sup_0 c2 hf0, bad_any (j := j) (by omega) (by rw [badR_at (by omega), g15_7]; rfl)]; rfl) | (rw [sup_0 c2 hf0, bad_any (j := j) (by omega) (by rw [badR_at (by omega), c15, Bool.or_true])]; rfl)))
        · try simp only [Bool.and_eq_true, Bool.or_eq_true, Bool.and_eq_false_iff, Bool.or_eq_false_iff, Bool.not_eq_true', Bool.not_eq_false', decide_eq_true_eq, decide_eq_false_iff_not] at g15_7
          refine VD.r [] (.ld vt64) (.inl rfl) ?_
          refine VD.c (.move rfl) ?_
          refine VD.c (.move rfl) ?_
          refine VD.c (.move rfl) ?_
          refine VD.nw [] ?_
          refine VD.call rfl rfl (VF.call (rWithout_ok (by first | assumption | omega | simp) (by first | assumption | omega | simp) (by first | assumption | omega | simp))) ?_
          rw [Int.toNat_natCast]
          refine VD.callO rfl rfl (VF.call (rBy_ok (by first | assumption | omega | simp) (by first | assumption | omega | simp) (by first | assumption | omega | simp) (by first | assumption | omega | simp))) ?_
          refine VD.c (.pickF rfl rfl) ?_
          refine VD.go ?_
          refine VC.condB rfl (fun c15 => ?_) (fun c15 => ?_)
          · refine VC.seq ?_
            refine VC.text ?_
            refine VO.c (.assign rfl) ?_
            refine VO.go ?_
            refine VC.ret ?_
            exact VEnd.one rfl evT (pvI (by first | (rw [sup_0 c2 hf0, bad_any (j := j) (by omega) (by rw [badR_at (by omega), g15_7]; rfl)]; rfl) | (rw [sup_0 c2 hf0, bad_any (j := j) (by omega) (by rw [badR_at (by omega), c15, Bool.or_true])]; rfl)))
          · refine VC.skip ?_
            show VC _ _ _ _ _ _ _ _
            refine VC.text ?_
            refine VO.c (.move rfl) ?_
            refine VO.c (.add rfl rfl (by omega)) ?_
            refine VO.c (.assign rfl) ?_
            refine VO.nil ?_
            refine ⟨_, [(1, St s), (2, .v (.sl .str) l), (3, .p y64 c), (9, .v (.sl .str) (validR c)), (10, I (((j + 1) : Nat) : Int))], ?_, ⟨rfl, rfl, rfl, rfl, rfl, trivial⟩, (j + 1), rfl, rfl, rfl, (by omega), (by exact bad_step (by omega) hg g15_7 c15)⟩
            omega
      · refine VC.exit ?_
        show VC _ _ _ _ _ _ _ _
        refine VC.seq ?_
        refine VC.seq ?_
        refine VC.text ?_
        refine VO.r (.ld vt64) ?_
        refine VO.c (.move rfl) ?_
        refine VO.c (.move rfl) ?_
        refine VO.call rfl rfl (VF.call (rBy_ok (by first | assumption | omega | simp) (by first | assumption | omega | simp) (by first | assumption | omega | simp) (by first | assumption | omega | simp))) ?_
        refine VO.c (.not) ?_
        refine VO.go ?_
        refine VC.condB rfl (fun c17 => ?_) (fun c17 => ?_)
        · try simp only [Bool.and_eq_true, Bool.or_eq_true, Bool.and_eq_false_iff, Bool.or_eq_false_iff, Bool.not_eq_true', Bool.not_eq_false', decide_eq_true_eq, decide_eq_false_iff_not] at c17
          refine VC.seq ?_
          refine VC.text ?_
          refine VO.c (.assign rfl) ?_
          refine VO.go ?_
          refine VC.ret ?_
          exact VEnd.one rfl evT (pvI (by rw [sup_0 c2 hf0, c17, Bool.not_false, Bool.or_true] <;> rfl))
        · try simp only [Bool.and_eq_true, Bool.or_eq_true, Bool.and_eq_false_iff, Bool.or_eq_false_iff, Bool.not_eq_true', Bool.not_eq_false', decide_eq_true_eq, decide_eq_false_iff_not] at c17
          refine VC.skip ?_
          show VC _ _ _ _ _ _ _ _
          refine VC.seq ?_
          refine VC.text ?_
          refine VO.c (.assign rfl) ?_
          refine VO.go ?_
          refine VC.ret ?_
          exact VEnd.one rfl evT (pvI (by rw [sup_0 c2 hf0, c17, bad_none (by omega) hg] <;> rfl))
end Go.Proofs
namespace Go.Proofs
open Go.Fs
set_option linter.unusedVariables false
set_option maxHeartbeats 2000000

theorem leanF_len {c : Cse} {s : ByteArray} {o : List ByteArray} : ∀ {i : Nat} {l : List ByteArray}, i ≤ l.length → (leanF c s o i l).length ≤ l.length
  | 0, l, _ => Nat.le_refl _
  | i + 1, l, h => by
    have h1 := leanS_len (c := c) (s := s) (o := o) (l := l) (i := i) (by omega)
    have h2 := leanF_len (c := c) (s := s) (o := o) (l := leanS c s o l i) (i := i) h1.1
    show (leanF c s o i (leanS c s o l i)).length ≤ l.length
    omega
theorem holds_R {c : Cse} {s : ByteArray} (h : caseE c = 0) : holdsE c s = byR c (validR c) s := by
  show inM (byM c (validE c)) s = inM (byM c (validR c)) s
  rw [validE_R h]
theorem held_0 {c : Cse} {s : ByteArray} (h : rTwo c s = 0) : heldE c s = if byR c (validR c) s = true then 0 else 35 := by
  unfold heldE
  rw [two_same, firstE_two, if_pos h, if_pos h, holds_R (rTwo_ok h).1]
  cases byR c (validR c) s <;> rfl
theorem lack_0 {c : Cse} {s : ByteArray} (h : rTwo c s = 0) : lackE c s = if byR c (validR c) s = true then 7 else 0 := by
  unfold lackE
  rw [two_same, firstE_two, if_pos h, if_pos h, holds_R (rTwo_ok h).1]
  cases byR c (validR c) s <;> rfl
theorem held_1 {c : Cse} {s : ByteArray} (h : ¬ rTwo c s = 0) : heldE c s = rTwo c s := by
  unfold heldE
  rw [two_same, firstE_two, if_neg h]
theorem lack_1 {c : Cse} {s : ByteArray} (h : ¬ rTwo c s = 0) : lackE c s = rTwo c s := by
  unfold lackE
  rw [two_same, firstE_two, if_neg h]
def supA (c : Cse) (s : ByteArray) : List ByteArray := if heldE c s = 0 then leanF c s [] (validE c).length (validE c) else []
def supB (c : Cse) (s : ByteArray) : List ByteArray := if byR c (validR c) s = true then leanF c s [] (validR c).length (validR c) else []
def nedA (c : Cse) (s : ByteArray) : List ByteArray := if heldE c s = 0 then (validE c).filter (needB c s (validE c)) else []
def nedB (c : Cse) (s : ByteArray) : List ByteArray := if byR c (validR c) s = true then (validR c).filter (needB c s (validR c)) else []
def lakA (c : Cse) (s : ByteArray) : List ByteArray := if lackE c s = 0 then leanF c s (validE c) (staleE c).length (staleE c) else []
def lakB (c : Cse) (s : ByteArray) : List ByteArray := if byR c (validR c) s = true then [] else leanF c s (validR c) (staleE c).length (staleE c)
theorem sup_AB {c : Cse} {s : ByteArray} (h : rTwo c s = 0) : supA c s = supB c s ∧ nedA c s = nedB c s ∧ lakA c s = lakB c s := by
  unfold supA supB nedA nedB lakA lakB
  rw [held_0 h, lack_0 h, validE_R (rTwo_ok h).1]
  cases byR c (validR c) s <;> exact ⟨rfl, rfl, rfl⟩
theorem sup_A0 {c : Cse} {s : ByteArray} (h : ¬ rTwo c s = 0) : supA c s = [] ∧ nedA c s = [] ∧ lakA c s = [] := by
  unfold supA nedA lakA
  rw [held_1 h, lack_1 h, if_neg h, if_neg h, if_neg h]
  exact ⟨rfl, rfl, rfl⟩
theorem sup_len {c : Cse} {s : ByteArray} : (supA c s).length ≤ c.2.1.length ∧ (nedA c s).length ≤ c.2.1.length ∧ (lakA c s).length ≤ c.2.1.length := by
  have h1 := validE_len (c := c)
  have h2 := staleE_len (c := c)
  unfold supA nedA lakA
  refine ⟨?_, ?_, ?_⟩
  · split
    · exact Nat.le_trans (leanF_len (Nat.le_refl _)) h1
    · simp
  · split
    · exact Nat.le_trans (List.length_filter_le _ _) h1
    · simp
  · split
    · exact Nat.le_trans (leanF_len (Nat.le_refl _)) h2
    · simp
theorem law8_ok {c : (List (ByteArray × Int)) × (List (ByteArray × (List (ByteArray × Int)))) × (List (ByteArray × Bool × (List ByteArray)))} {s : ByteArray} {l : List ByteArray} : VF Tryz.prog OA 10 [.v y64 c, St s, .v (.sl .str) l] (B true) := by
  refine VF.enter Tryz.func10 rfl (fun _ _ => rfl) rfl ?_
  show VC _ _ _ _ _ [(0, .v y64 c), (1, St s), (2, .v (.sl .str) l)] [] _
  refine VC.seq ?_
  refine VC.text ?_
  refine VO.new (.box) ?_
  refine VO.c (.assign rfl) ?_
  refine VO.go ?_
  refine VC.seq ?_
  refine VC.seq ?_
  refine VC.text ?_
  refine VO.r (.ld vt64) ?_
  refine VO.call rfl rfl (VF.call (rShortC_ok )) ?_
  refine VO.c (.not) ?_
  refine VO.c (.move rfl) ?_
  refine VO.cg (r := (!(shortC c))) (w := false) [] trivial (fun hgd => have g1_3 : (!(shortC c)) = false := (by simpa using hgd); (.move rfl)) ?_
  refine VO.rg (r := (!(shortC c))) (w := false) [(24, St s)] ⟨rfl, trivial⟩ (fun hgd => have g1_3 : (!(shortC c)) = false := (by simpa using hgd); (.lenS)) ?_
  refine VO.cg (r := (!(shortC c))) (w := false) [(25, I ((s.size : Nat) : Int))] ⟨rfl, trivial⟩ (fun hgd => have g1_3 : (!(shortC c)) = false := (by simpa using hgd); (.gtr)) ?_
  refine VO.c (.or) ?_
  refine VO.c (.move rfl) ?_
  refine VO.cg (r := ((!(shortC c)) || (decide ((60 : Int) < ((s.size : Nat) : Int))))) (w := false) [] trivial (fun hgd => have g1_8 : ((!(shortC c)) || (decide ((60 : Int) < ((s.size : Nat) : Int)))) = false := (by simpa using hgd); (.move rfl)) ?_
  refine VO.rg (r := ((!(shortC c)) || (decide ((60 : Int) < ((s.size : Nat) : Int))))) (w := false) [(29, .v (.sl .str) l)] ⟨rfl, trivial⟩ (fun hgd => have g1_8 : ((!(shortC c)) || (decide ((60 : Int) < ((s.size : Nat) : Int)))) = false := (by simpa using hgd); (.len el27)) ?_
  refine VO.cg (r := ((!(shortC c)) || (decide ((60 : Int) < ((s.size : Nat) : Int))))) (w := false) [(30, I ((l.length : Nat) : Int))] ⟨rfl, trivial⟩ (fun hgd => have g1_8 : ((!(shortC c)) || (decide ((60 : Int) < ((s.size : Nat) : Int)))) = false := (by simpa using hgd); (.gtr)) ?_
  refine VO.c (.or) ?_
  refine VO.go ?_
  refine VC.condB rfl (fun c1 => ?_) (fun c1 => ?_)
  · try simp only [Bool.and_eq_true, Bool.or_eq_true, Bool.and_eq_false_iff, Bool.or_eq_false_iff, Bool.not_eq_true', Bool.not_eq_false', decide_eq_true_eq, decide_eq_false_iff_not] at c1
    refine VC.seq ?_
    refine VC.text ?_
    refine VO.call rfl rfl (VF.call (awakeC_ok )) ?_
    refine VO.c (.assign rfl) ?_
    refine VO.go ?_
    refine VC.ret ?_
    exact VEnd.one rfl evT (pvE (by rfl))
  · try simp only [Bool.and_eq_true, Bool.or_eq_true, Bool.and_eq_false_iff, Bool.or_eq_false_iff, Bool.not_eq_true', Bool.not_eq_false', decide_eq_true_eq, decide_eq_false_iff_not] at c1
    have hc := shortC_ok c1.1.1
    have hce := hc.e
    have hll : l.length ≤ 9 := by omega
    have hlA := sup_len (c := c) (s := s)
    have l1 : (if heldE c s = 0 then leanF c s [] (validE c).length (validE c) else []).length < 1000000 := Nat.lt_of_le_of_lt hlA.1 (by omega)
    have l2 : (if heldE c s = 0 then (validE c).filter (needB c s (validE c)) else []).length < 1000000 := Nat.lt_of_le_of_lt hlA.2.1 (by omega)
    have l3 : (if lackE c s = 0 then leanF c s (validE c) (staleE c).length (staleE c) else []).length < 1000000 := Nat.lt_of_le_of_lt hlA.2.2 (by omega)
    refine VC.skip ?_
    show VC _ _ _ _ _ _ _ _
    refine VC.seq ?_
    refine VC.text ?_
    refine VO.r (.ld vt64) ?_
    refine VO.call rfl rfl (VF.call (lGiven_ok (by first | assumption | omega | simp))) ?_
    refine VO.c (.move rfl) ?_
    refine VO.call rfl rfl (VF.call (sSupport_ok (by first | assumption | omega | simp))) ?_
    refine VO.c (.move rfl) ?_
    refine VO.c (.extract) ?_
    refine VO.c (.extract) ?_
    refine VO.c (.assign rfl) ?_
    refine VO.c (.assign rfl) ?_
    refine VO.go ?_
    refine VC.seq ?_
    refine VC.text ?_
    refine VO.r (.ld vt64) ?_
    refine VO.call rfl rfl (VF.call (lGiven_ok (by first | assumption | omega | simp))) ?_
    refine VO.c (.move rfl) ?_
    refine VO.call rfl rfl (VF.call (sNeeded_ok (by first | assumption | omega | simp))) ?_
    refine VO.c (.move rfl) ?_
    refine VO.c (.extract) ?_
    refine VO.c (.extract) ?_
    refine VO.c (.assign rfl) ?_
    refine VO.c (.assign rfl) ?_
    refine VO.go ?_
    refine VC.seq ?_
    refine VC.text ?_
    refine VO.r (.ld vt64) ?_
    refine VO.call rfl rfl (VF.call (lGiven_ok (by first | assumption | omega | simp))) ?_
    refine VO.c (.move rfl) ?_
    refine VO.call rfl rfl (VF.call (sLacks_ok (by first | assumption | omega | simp))) ?_
    refine VO.c (.move rfl) ?_
    refine VO.c (.extract) ?_
    refine VO.c (.extract) ?_
    refine VO.c (.assign rfl) ?_
    refine VO.c (.assign rfl) ?_
    refine VO.go ?_
    refine VC.seq ?_
    refine VC.keep [(1, St s), (2, .v (.sl .str) l), (3, .p y64 c), (7, .v (.sl .str) (if heldE c s = 0 then leanF c s [] (validE c).length (validE c) else [])), (8, I (heldE c s)), (9, .v (.sl .str) (if heldE c s = 0 then (validE c).filter (needB c s (validE c)) else [])), (10, I (heldE c s)), (11, .v (.sl .str) (if lackE c s = 0 then leanF c s (validE c) (staleE c).length (staleE c) else [])), (12, I (lackE c s))] ⟨rfl, rfl, rfl, rfl, rfl, rfl, rfl, rfl, rfl, trivial⟩ ?_
    refine VC.text ?_
    refine VO.r (.ld vt64) ?_
    refine VO.c (.move rfl) ?_
    refine VO.call rfl rfl (VF.call (rCheckClaim_ok (by first | assumption | omega | simp))) ?_
    refine VO.c (.assign rfl) ?_
    refine VO.go ?_
    refine VC.seq ?_
    refine VC.text ?_
    refine VO.c (.move rfl) ?_
    refine VO.c (.move rfl) ?_
    refine VO.c (.move rfl) ?_
    refine VO.c (.assign rfl) ?_
    refine VO.c (.assign rfl) ?_
    refine VO.c (.assign rfl) ?_
    refine VO.go ?_
    refine VC.seq ?_
    refine VC.text ?_
    refine VO.c (.assign rfl) ?_
    refine VO.c (.assign rfl) ?_
    refine VO.c (.assign rfl) ?_
    refine VO.go ?_
    refine VC.seq ?_
    refine VC.seq ?_
    refine VC.text ?_
    refine VO.c (.move rfl) ?_
    refine VO.c (.eql) ?_
    refine VO.go ?_
    refine VC.condD rfl (fun c9 => ?_) (fun c9 => ?_)
    · have hr := rTwo_ok c9
      have hz := hr.1
      have hn := hr.2
      have hAB := sup_AB (c := c) (s := s) c9
      have f1 : (if heldE c s = 0 then leanF c s [] (validE c).length (validE c) else []) = (if byR c (validR c) s = true then leanF c s [] (validR c).length (validR c) else []) := hAB.1
      have f2 : (if heldE c s = 0 then (validE c).filter (needB c s (validE c)) else []) = (if byR c (validR c) s = true then (validR c).filter (needB c s (validR c)) else []) := hAB.2.1
      have f3 : (if lackE c s = 0 then leanF c s (validE c) (staleE c).length (staleE c) else []) = (if byR c (validR c) s = true then [] else leanF c s (validR c) (staleE c).length (staleE c)) := hAB.2.2
      have q1 : (if byR c (validR c) s = true then leanF c s [] (validR c).length (validR c) else []).length < 1000000 := by rw [← f1]; exact l1
      have q2 : (if byR c (validR c) s = true then (validR c).filter (needB c s (validR c)) else []).length < 1000000 := by rw [← f2]; exact l2
      have q3 : (if byR c (validR c) s = true then [] else leanF c s (validR c) (staleE c).length (staleE c)).length < 1000000 := by rw [← f3]; exact l3
      have e1 := held_0 c9
      have e3 := lack_0 c9
      refine VC.seq ?_
      refine VC.text ?_
      refine VO.r (.ld vt64) ?_
      refine VO.c (.move rfl) ?_
      refine VO.call rfl rfl (VF.call (rSupport_ok (by first | assumption | omega | simp) (by first | assumption | omega | simp) (by first | assumption | omega | simp))) ?_
      refine VO.c (.move rfl) ?_
      refine VO.c (.extract) ?_
      refine VO.c (.extract) ?_
      refine VO.c (.assign rfl) ?_
      refine VO.c (.assign rfl) ?_
      refine VO.go ?_
      refine VC.seq ?_
      refine VC.text ?_
      refine VO.r (.ld vt64) ?_
      refine VO.c (.move rfl) ?_
      refine VO.call rfl rfl (VF.call (rNeeded_ok (by first | assumption | omega | simp) (by first | assumption | omega | simp) (by first | assumption | omega | simp))) ?_
      refine VO.c (.move rfl) ?_
      refine VO.c (.extract) ?_
      refine VO.c (.extract) ?_
      refine VO.c (.assign rfl) ?_
      refine VO.c (.assign rfl) ?_
      refine VO.go ?_
      refine VC.keep [(1, St s), (2, .v (.sl .str) l), (3, .p y64 c), (7, .v (.sl .str) (if heldE c s = 0 then leanF c s [] (validE c).length (validE c) else [])), (8, I (heldE c s)), (9, .v (.sl .str) (if heldE c s = 0 then (validE c).filter (needB c s (validE c)) else [])), (10, I (heldE c s)), (11, .v (.sl .str) (if lackE c s = 0 then leanF c s (validE c) (staleE c).length (staleE c) else [])), (12, I (lackE c s)), (14, I (if byR c (validR c) s = true then 0 else 35)), (15, I (if byR c (validR c) s = true then 0 else 35)), (17, .v (.sl .str) (if byR c (validR c) s = true then leanF c s [] (validR c).length (validR c) else [])), (18, .v (.sl .str) (if byR c (validR c) s = true then (validR c).filter (needB c s (validR c)) else []))] ⟨rfl, rfl, rfl, rfl, rfl, rfl, rfl, rfl, rfl, rfl, rfl, rfl, rfl, trivial⟩ ?_
      refine VC.text ?_
      refine VO.r (.ld vt64) ?_
      refine VO.c (.move rfl) ?_
      refine VO.call rfl rfl (VF.call (rLacks_ok (by first | assumption | omega | simp) (by first | assumption | omega | simp) (by first | assumption | omega | simp))) ?_
      refine VO.c (.move rfl) ?_
      refine VO.c (.extract) ?_
      refine VO.c (.extract) ?_
      refine VO.c (.assign rfl) ?_
      refine VO.c (.assign rfl) ?_
      refine VO.go ?_
      refine VC.seq ?_
      refine VC.drawn ?_
      refine VD.c (.move rfl) ?_
      refine VD.c (.move rfl) ?_
      refine VD.call rfl rfl (VF.call (rSame_ok (by first | assumption | omega | simp) (by first | assumption | omega | simp))) ?_
      refine VD.c (.move rfl) ?_
      refine VD.splitB (x := 84) rfl (fun g13_3 => ?_) (fun g13_3 => ?_)
      · try simp only [Bool.and_eq_true, Bool.or_eq_true, Bool.and_eq_false_iff, Bool.or_eq_false_iff, Bool.not_eq_true', Bool.not_eq_false', decide_eq_true_eq, decide_eq_false_iff_not] at g13_3
        refine VD.c (.move rfl) ?_
        refine VD.nw [] ?_
        refine VD.c (.move rfl) ?_
        refine VD.c (.eql) ?_
        refine VD.c (.pickT rfl rfl) ?_
        refine VD.c (.move rfl) ?_
        refine VD.splitD (x := 89) rfl (fun g13_8 => ?_) (fun g13_8 => ?_)
        · refine VD.c (.move rfl) ?_
          refine VD.c (.move rfl) ?_
          refine VD.nw [] ?_
          refine VD.call rfl rfl (VF.call (rSame_ok (by first | assumption | omega | simp) (by first | assumption | omega | simp))) ?_
          refine VD.c (.pickT rfl rfl) ?_
          refine VD.c (.move rfl) ?_
          refine VD.splitB (x := 94) rfl (fun g13_13 => ?_) (fun g13_13 => ?_)
          · try simp only [Bool.and_eq_true, Bool.or_eq_true, Bool.and_eq_false_iff, Bool.or_eq_false_iff, Bool.not_eq_true', Bool.not_eq_false', decide_eq_true_eq, decide_eq_false_iff_not] at g13_13
            refine VD.c (.move rfl) ?_
            refine VD.c (.move rfl) ?_
            refine VD.c (.eql) ?_
            refine VD.nw [] ?_
            refine VD.c (.pickT rfl rfl) ?_
            refine VD.c (.move rfl) ?_
            refine VD.splitD (x := 99) rfl (fun g13_18 => ?_) (fun g13_18 => ?_)
            · refine VD.c (.move rfl) ?_
              refine VD.c (.move rfl) ?_
              refine VD.call rfl rfl (VF.call (rSame_ok (by first | assumption | omega | simp) (by first | assumption | omega | simp))) ?_
              refine VD.c (.pickT rfl rfl) ?_
              refine VD.nw [] ?_
              refine VD.c (.move rfl) ?_
              refine VD.splitB (x := 104) rfl (fun g13_23 => ?_) (fun g13_23 => ?_)
              · try simp only [Bool.and_eq_true, Bool.or_eq_true, Bool.and_eq_false_iff, Bool.or_eq_false_iff, Bool.not_eq_true', Bool.not_eq_false', decide_eq_true_eq, decide_eq_false_iff_not] at g13_23
                refine VD.c (.move rfl) ?_
                refine VD.c (.move rfl) ?_
                refine VD.c (.eql) ?_
                refine VD.c (.pickT rfl rfl) ?_
                refine VD.c (.move rfl) ?_
                refine VD.nw [] ?_
                refine VD.splitD (x := 109) rfl (fun g13_28 => ?_) (fun g13_28 => ?_)
                · refine VD.r [] (.ld vt64) (.inl rfl) ?_
                  refine VD.call rfl rfl (VF.call (lGiven_ok (by first | assumption | omega | simp))) ?_
                  refine VD.c (.move rfl) ?_
                  refine VD.c (.move rfl) ?_
                  refine VD.call rfl rfl (VF.call (lWords_ok (by first | assumption | omega | simp))) ?_
                  refine VD.callO rfl rfl (VF.call (sCheckSupport_ok (by first | assumption | omega | simp) (by first | assumption | omega | simp))) ?_
                  refine VD.nw [114, 111] ?_
                  refine VD.r [] (.ld vt64) (.inl rfl) ?_
                  refine VD.c (.move rfl) ?_
                  refine VD.c (.move rfl) ?_
                  refine VD.call rfl rfl (VF.call (rCheckSupport_ok (by first | assumption | omega | simp) (by first | assumption | omega | simp))) ?_
                  refine VD.c (.eql) ?_
                  refine VD.c (.pickT rfl rfl) ?_
                  refine VD.c (.move rfl) ?_
                  refine VD.nw [114, 111] ?_
                  refine VD.splitD (x := 122) rfl (fun g13_41 => ?_) (fun g13_41 => ?_)
                  · refine VD.call rfl rfl (VF.call (awakeC_ok )) ?_
                    refine VD.c (.pickT rfl rfl) ?_
                    refine VD.c (.assign rfl) ?_
                    refine VD.go ?_
                    refine VC.ret ?_
                    exact VEnd.one rfl evT (pvE (by rfl))
                  · exact absurd sup_same g13_41
                · exact absurd e3 g13_28
              · try simp only [Bool.and_eq_true, Bool.or_eq_true, Bool.and_eq_false_iff, Bool.or_eq_false_iff, Bool.not_eq_true', Bool.not_eq_false', decide_eq_true_eq, decide_eq_false_iff_not] at g13_23
                exact absurd f3 g13_23
            · exact absurd e1 g13_18
          · try simp only [Bool.and_eq_true, Bool.or_eq_true, Bool.and_eq_false_iff, Bool.or_eq_false_iff, Bool.not_eq_true', Bool.not_eq_false', decide_eq_true_eq, decide_eq_false_iff_not] at g13_13
            exact absurd f2 g13_13
        · exact absurd e1 g13_8
      · try simp only [Bool.and_eq_true, Bool.or_eq_true, Bool.and_eq_false_iff, Bool.or_eq_false_iff, Bool.not_eq_true', Bool.not_eq_false', decide_eq_true_eq, decide_eq_false_iff_not] at g13_3
        exact absurd f1 g13_3
    · have hAB := sup_A0 (c := c) (s := s) c9
      have f1 : (if heldE c s = 0 then leanF c s [] (validE c).length (validE c) else []) = [] := hAB.1
      have f2 : (if heldE c s = 0 then (validE c).filter (needB c s (validE c)) else []) = [] := hAB.2.1
      have f3 : (if lackE c s = 0 then leanF c s (validE c) (staleE c).length (staleE c) else []) = [] := hAB.2.2
      have e1 := held_1 c9
      have e3 := lack_1 c9
      refine VC.skip ?_
      show VC _ _ _ _ _ _ _ _
      refine VC.seq ?_
      refine VC.drawn ?_
      refine VD.c (.move rfl) ?_
      refine VD.c (.move rfl) ?_
      refine VD.callC rfl rfl .same (.cons .same (.cons .nil .nil)) rfl (VF.call (rSame_ok (by first | assumption | omega | simp) (by first | assumption | omega | simp))) ?_
      refine VD.c (.move rfl) ?_
      refine VD.splitB (x := 84) rfl (fun g13_3 => ?_) (fun g13_3 => ?_)
      · try simp only [Bool.and_eq_true, Bool.or_eq_true, Bool.and_eq_false_iff, Bool.or_eq_false_iff, Bool.not_eq_true', Bool.not_eq_false', decide_eq_true_eq, decide_eq_false_iff_not] at g13_3
        refine VD.c (.move rfl) ?_
        refine VD.nw [] ?_
        refine VD.c (.move rfl) ?_
        refine VD.c (.eql) ?_
        refine VD.c (.pickT rfl rfl) ?_
        refine VD.c (.move rfl) ?_
        refine VD.splitD (x := 89) rfl (fun g13_8 => ?_) (fun g13_8 => ?_)
        · refine VD.c (.move rfl) ?_
          refine VD.c (.move rfl) ?_
          refine VD.nw [] ?_
          refine VD.callC rfl rfl .same (.cons .same (.cons .nil .nil)) rfl (VF.call (rSame_ok (by first | assumption | omega | simp) (by first | assumption | omega | simp))) ?_
          refine VD.c (.pickT rfl rfl) ?_
          refine VD.c (.move rfl) ?_
          refine VD.splitB (x := 94) rfl (fun g13_13 => ?_) (fun g13_13 => ?_)
          · try simp only [Bool.and_eq_true, Bool.or_eq_true, Bool.and_eq_false_iff, Bool.or_eq_false_iff, Bool.not_eq_true', Bool.not_eq_false', decide_eq_true_eq, decide_eq_false_iff_not] at g13_13
            refine VD.c (.move rfl) ?_
            refine VD.c (.move rfl) ?_
            refine VD.c (.eql) ?_
            refine VD.nw [] ?_
            refine VD.c (.pickT rfl rfl) ?_
            refine VD.c (.move rfl) ?_
            refine VD.splitD (x := 99) rfl (fun g13_18 => ?_) (fun g13_18 => ?_)
            · refine VD.c (.move rfl) ?_
              refine VD.c (.move rfl) ?_
              refine VD.callC rfl rfl .same (.cons .same (.cons .nil .nil)) rfl (VF.call (rSame_ok (by first | assumption | omega | simp) (by first | assumption | omega | simp))) ?_
              refine VD.c (.pickT rfl rfl) ?_
              refine VD.nw [] ?_
              refine VD.c (.move rfl) ?_
              refine VD.splitB (x := 104) rfl (fun g13_23 => ?_) (fun g13_23 => ?_)
              · try simp only [Bool.and_eq_true, Bool.or_eq_true, Bool.and_eq_false_iff, Bool.or_eq_false_iff, Bool.not_eq_true', Bool.not_eq_false', decide_eq_true_eq, decide_eq_false_iff_not] at g13_23
                refine VD.c (.move rfl) ?_
                refine VD.c (.move rfl) ?_
                refine VD.c (.eql) ?_
                refine VD.c (.pickT rfl rfl) ?_
                refine VD.c (.move rfl) ?_
                refine VD.nw [] ?_
                refine VD.splitD (x := 109) rfl (fun g13_28 => ?_) (fun g13_28 => ?_)
                · refine VD.r [] (.ld vt64) (.inl rfl) ?_
                  refine VD.call rfl rfl (VF.call (lGiven_ok (by first | assumption | omega | simp))) ?_
                  refine VD.c (.move rfl) ?_
                  refine VD.c (.move rfl) ?_
                  refine VD.call rfl rfl (VF.call (lWords_ok (by first | assumption | omega | simp))) ?_
                  refine VD.callO rfl rfl (VF.call (sCheckSupport_ok (by first | assumption | omega | simp) (by first | assumption | omega | simp))) ?_
                  refine VD.nw [114, 111] ?_
                  refine VD.r [] (.ld vt64) (.inl rfl) ?_
                  refine VD.c (.move rfl) ?_
                  refine VD.c (.move rfl) ?_
                  refine VD.call rfl rfl (VF.call (rCheckSupport_ok (by first | assumption | omega | simp) (by first | assumption | omega | simp))) ?_
                  refine VD.c (.eql) ?_
                  refine VD.c (.pickT rfl rfl) ?_
                  refine VD.c (.move rfl) ?_
                  refine VD.nw [114, 111] ?_
                  refine VD.splitD (x := 122) rfl (fun g13_41 => ?_) (fun g13_41 => ?_)
                  · refine VD.call rfl rfl (VF.call (awakeC_ok )) ?_
                    refine VD.c (.pickT rfl rfl) ?_
                    refine VD.c (.assign rfl) ?_
                    refine VD.go ?_
                    refine VC.ret ?_
                    exact VEnd.one rfl evT (pvE (by rfl))
                  · exact absurd sup_same g13_41
                · exact absurd e3 g13_28
              · try simp only [Bool.and_eq_true, Bool.or_eq_true, Bool.and_eq_false_iff, Bool.or_eq_false_iff, Bool.not_eq_true', Bool.not_eq_false', decide_eq_true_eq, decide_eq_false_iff_not] at g13_23
                exact absurd f3 g13_23
            · exact absurd e1 g13_18
          · try simp only [Bool.and_eq_true, Bool.or_eq_true, Bool.and_eq_false_iff, Bool.or_eq_false_iff, Bool.not_eq_true', Bool.not_eq_false', decide_eq_true_eq, decide_eq_false_iff_not] at g13_13
            exact absurd f2 g13_13
        · exact absurd e1 g13_8
      · try simp only [Bool.and_eq_true, Bool.or_eq_true, Bool.and_eq_false_iff, Bool.or_eq_false_iff, Bool.not_eq_true', Bool.not_eq_false', decide_eq_true_eq, decide_eq_false_iff_not] at g13_3
        exact absurd f1 g13_3
end Go.Proofs
namespace Go.Fs
open Go.RowKit (Below)
variable {P : Program}
def orcB (fi fj fc : FuncId) (T : TypeId) : FuncId → List Value → Heap → Option (Value × Heap) := fun f xs h =>
  bif Nat.beq f fc then
    match xs with
    | [.pointer (some ⟨b, 0, none⟩)] =>
      match h.get b with
      | some (.row e [p, v] true false) =>
        bif Nat.beq e T then
          match p with
          | .pointer none => some (.tuple #[], h.set b (.row e [.pointer (some ⟨b, 0, none⟩), v] true false))
          | .pointer (some ⟨b', 0, none⟩) => bif Nat.beq b' b then some (.tuple #[], h) else none
          | _ => none
        else none
      | _ => none
    | _ => none
  else orcS fi fj f xs h
theorem orcB_sound {B : Nat} {w0 : World} {fi fj fc : FuncId} {T : TypeId} (hS : CallSound P B w0 (orcS fi fj)) (hc : Enters P fc)
    (hF : ∀ (b : Nat) (w : World), w.cell? ⟨b, 0, none⟩ = some (.pointer none) → w.shape? b = some (T, 2) → w.frozen? ⟨b, 0, none⟩ = false →
      Calls P fc #[.pointer (some ⟨b, 0, none⟩)] w fun e w' => e = .returned (.tuple #[]) ∧ w' = w.setCell ⟨b, 0, none⟩ (.pointer (some ⟨b, 0, none⟩)))
    (hU : ∀ (b : Nat) (w : World), w.cell? ⟨b, 0, none⟩ = some (.pointer (some ⟨b, 0, none⟩)) → Calls P fc #[.pointer (some ⟨b, 0, none⟩)] w fun e w' => e = .returned (.tuple #[]) ∧ w' = w) :
    CallSound P B w0 (orcB fi fj fc T) := by
  intro f xs h v h' hf
  unfold orcB at hf
  cases hb : Nat.beq f fc with
  | false =>
    rw [hb] at hf
    exact hS f xs h v h' hf
  | true =>
    have := nbeq hb
    subst this
    rw [hb] at hf
    simp only [cond_true] at hf
    split at hf
    · rename_i b
      split at hf
      · rename_i e p u hg
        obtain ⟨he, hf2⟩ := bif_some hf
        obtain rfl := nbeq he
        refine ⟨hc, fun ρ S w args' hr ha nn => ?_⟩
        obtain ⟨hsb, cur, k1, k2, k3, k4, k5, k6, k7⟩ := hr.objs b _ hg
        have hcl : cur.length = 2 := (k6 rfl).symm
        match cur, hcl with
        | [p', u'], _ =>
        have hp : VR ρ S p p' := k7 0 (by simp)
        have hu : VR ρ S u u' := k7 1 (by simp)
        have hat : (ρ b).at 0 = ⟨(ρ b).block, 0, none⟩ := by unfold Loc.at; rw [k2]
        have harg : args' = [.pointer (some ⟨(ρ b).block, 0, none⟩)] := by
          have h1 := ha.1
          match args', h1 with
          | [a], _ =>
            have h2 : VR ρ S (.pointer (some ⟨b, 0, none⟩)) a := ha.2 0 (by simp)
            rw [h2.ptr_inv.2, hat]
        subst harg
        have hcell : w.cell? ⟨(ρ b).block, 0, none⟩ = some p' := by simp [World.cell?, k1]
        split at hf2
        · simp only [Option.some.injEq, Prod.mk.injEq] at hf2
          obtain ⟨rfl, rfl⟩ := hf2
          obtain rfl := hp.eq_of_af0 rfl
          have hC : CallsIn Fence.wide nn P f #[.pointer (some ⟨(ρ b).block, 0, none⟩)] w _ := callsIn_wide.2 (hF (ρ b).block w hcell (by simp [World.shape?, k1]) (by simp [World.frozen?, k1]))
          refine hC.mono fun e2 w' hret => ?_
          obtain ⟨rfl, rfl⟩ := hret
          refine ⟨ρ, Moved.set hr hg rfl rfl rfl rfl rfl (by simp [World.setCell]) (fun k hk => ?_) ?_, VR.tuple' LR.nil⟩
          · simp only [World.setCell, Array.getElem?_modify]
            rw [if_neg (fun e0 => hk e0.symm)]
          · refine ⟨[.pointer (some ⟨(ρ b).block, 0, none⟩), u'], ?_, k2, k3, k4, Nat.le_refl _, fun _ => rfl, fun i hi => ?_⟩
            · simp only [World.setCell, Array.getElem?_modify, if_pos rfl, k1]
              simp
            · match i, hi with
              | 0, _ => show VR ρ S (.pointer (some ⟨b, 0, none⟩)) (.pointer (some ⟨(ρ b).block, 0, none⟩)); rw [← hat]; exact .ptr b 0 hsb
              | 1, _ => exact hu
        · rename_i b'
          obtain ⟨hbb, hf3⟩ := bif_some hf2
          obtain rfl := nbeq hbb
          simp only [Option.some.injEq, Prod.mk.injEq] at hf3
          obtain ⟨rfl, rfl⟩ := hf3
          have hp2 := hp.ptr_inv.2
          rw [hat] at hp2
          subst hp2
          have hC : CallsIn Fence.wide nn P f #[.pointer (some ⟨(ρ b').block, 0, none⟩)] w _ := callsIn_wide.2 (hU (ρ b').block w hcell)
          refine hC.mono fun e2 w' hret => ?_
          obtain ⟨rfl, rfl⟩ := hret
          exact ⟨ρ, Moved.same hr, VR.tuple' LR.nil⟩
        · cases hf2
      · cases hf
    · cases hf
end Go.Fs
namespace Go.Fs
open Go.RowKit (Below)
variable {P : Program} {B : Nat} {w0 : World}

def fsStepX (P : Program) (orc : FuncId → List Value → Heap → Option (Value × Heap)) (rec : Rec) : Rec := fun rnd c fr h =>
  match c with
  | .region _ ops true => match drawnX P { next := h.next, low := h.next, objs := h.objs } (fsOp P (callOf P orc rec) (fsYield rec)) ops fr.n ⟨fr.t, { next := h.next, low := h.next, objs := h.objs }, [], [], 0, false⟩ with
    | some s => some (.normal, { t := s.t, n := fr.n, marks := fr.marks }, { next := s.h.next, low := min h.low s.h.low, objs := s.h.objs })
    | none => none
  | c => fsStep P orc rec rnd c fr h
def fsCodeX (P : Program) (orc : FuncId → List Value → Heap → Option (Value × Heap)) : Nat → Rec
  | 0 => fun _ _ _ _ => none
  | n + 1 => fsStepX P orc (fsCodeX P orc n)

theorem HR.low {ρ : Ren} {S : Nat → Prop} {h : Heap} {w : World} (hr : HR P ρ S B w0 h w) (l : Nat) : HR P ρ S B w0 { next := h.next, low := l, objs := h.objs } w :=
  { objs := hr.objs, inj := hr.inj, base := hr.base, ro := hr.ro, ids := hr.ids, pos := hr.pos, below := hr.below, size := hr.size }
theorem Moved.lowered {ρ ρ' : Ren} {S : Nat → Prop} {h h' : Heap} {w w' : World} {l : Nat} (m : Moved P B w0 ρ ρ' S { next := h.next, low := l, objs := h.objs } h' w w') :
    Moved P B w0 ρ ρ' S h { next := h'.next, low := min h.low h'.low, objs := h'.objs } w w' where
  agree := m.agree
  next := m.next
  hr := m.hr.low _
  frame := ⟨m.frame.os, m.frame.tape, m.frame.output, m.frame.size, m.frame.block⟩
  low := Nat.min_le_left _ _
  keep := fun i hi hl => m.keep i hi (Nat.lt_of_lt_of_le hl (Nat.min_le_right _ _))
  old := m.old
  fresh := fun i o ho hi => by
    obtain ⟨h1, h2⟩ := m.fresh i o ho hi
    refine ⟨h1, ?_⟩
    rcases h2 with h2 | ⟨j, oj, h3, h4, h5, h6, h7⟩
    · exact .inl h2
    · exact .inr ⟨j, oj, h3, h4, h5, Nat.le_trans (Nat.min_le_right _ _) h6, h7⟩
theorem stepX_sound (hP : ProgOk P) {orc : FuncId → List Value → Heap → Option (Value × Heap)} (horc : CallSound P B w0 orc) {m : Nat} {rec : Rec} (hrec : SoundR P B w0 m rec) : SoundR P B w0 (m + 1) (fsStepX P orc rec) := by
  have hcs : CallSnd P B w0 (callOf P orc rec) := call_sound hP horc hrec
  have hys : YieldSound P B w0 (fsYield rec) := yield_sound hrec
  have hold := step_sound hP horc hrec
  intro rnd c fr h e fr' h' hok hf
  cases c with
  | region id ops draw =>
    cases draw with
    | false => exact hold rnd _ fr h e fr' h' hok hf
    | true =>
      intro ρ S w a nn Q hr ht hm hs k
      simp only [fsStepX] at hf
      split at hf
      · rename_i s hrun
        simp only [Option.some.injEq, Prod.mk.injEq] at hf
        obtain ⟨rfl, rfl, rfl⟩ := hf
        refine wpIn_region_draw fun t => ?_
        rw [hP.mixed]
        exact drawn_wpX (h0 := { next := h.next, low := h.next, objs := h.objs }) (call := callOf P orc rec) (yield := fsYield rec) hcs hys hok hrun ((hr.drew _).low _) ht (fun ρ1 w1 a1 m1 ht1 hd1 => k _ _ _ ⟨(Moved.ofDrew m1).lowered, ht1, by rw [hd1]; exact hm.mono fun b hb => ⟨.inl hb, m1.agree b hb⟩⟩) t
      · cases hf
  | _ => exact hold rnd _ fr h e fr' h' hok hf

theorem codeX_sound (hP : ProgOk P) {orc : FuncId → List Value → Heap → Option (Value × Heap)} (horc : CallSound P B w0 orc) : ∀ m, SoundR P B w0 m (fsCodeX P orc m)
  | 0 => fun rnd c fr h e fr' h' _ hf => by cases hf
  | m + 1 => stepX_sound hP horc (codeX_sound hP horc m)
theorem fsX_calls (hP : ProgOk P) {orc : FuncId → List Value → Heap → Option (Value × Heap)} (horc : CallSound P B w0 orc) (m : Nat) : CallSound P B w0 (fsEnter P (fsCodeX P orc m)) := enter_sound hP (codeX_sound hP horc m)
theorem fsX_closed (hP : ProgOk P) {w : World} {orc : FuncId → List Value → Heap → Option (Value × Heap)} (horc : CallSound P w.heap.size w orc) {m : Nat} {f : FuncId} {args : List Value} {v : Value} (ha : args.all af = true)
    (hf : (fsEnter P (fsCodeX P orc m) f args ⟨1, 1, []⟩).map (·.1) = some v) (hv : af v = true) :
    Calls P f args.toArray w fun | .returned v', w' => v' = v ∧ Below w.heap.size w w' | _, _ => False := by
  obtain ⟨⟨v0, h0⟩, h1, h2⟩ := Option.map_eq_some_iff.1 hf
  simp only at h2
  subst h2
  have hr : HR P (fun _ => ⟨0, 0, 0, 0⟩) (fun _ => False) w.heap.size w ⟨1, 1, []⟩ w :=
    { objs := fun i o hi => (by cases hi), inj := fun i j oi oj hi => (by cases hi), base := fun i o hi => (by cases hi), ro := fun i o hi => (by cases hi), ids := fun b hb => hb.elim, pos := by decide,
      below := Below.refl _ _, size := Nat.le_refl _ }
  have hc := ((fsX_calls hP horc m) f args _ _ _ h1).2 _ _ w args hr ⟨rfl, fun i hi => .of_af (List.all_eq_true.1 ha _ (mem_getD hi))⟩ 0
  refine Calls.mono (callsIn_wide.1 hc) fun e w' he => ?_
  cases e with
  | returned v' =>
    obtain ⟨ρ', m1, hv1⟩ := he
    exact ⟨hv1.eq_of_af hv, m1.hr.below⟩
  | panicked c => exact he.elim
  | outgrown => exact he.elim
theorem awakeX_calls (hP : ProgOk P) {B : Nat} {w0 : World} {O : FuncId → List Value → Heap → Option (Value × Heap)} {fa : FuncId} (hS : ∀ w, Below B w0 w → CallSound P w.heap.size w O) {m : Nat}
    (hrun : (fsEnter P (fsCodeX P O m) fa [] ⟨1, 1, []⟩).map (·.1) = some (.bool true)) (w : World) (hw : Below B w0 w) :
    Calls P fa #[] w fun | .returned v', w' => v' = .bool true ∧ Below w.heap.size w w' | _, _ => False :=
  fsX_closed hP (hS w hw) (args := []) rfl hrun rfl
end Go.Fs
namespace Go.Fs
variable {P : Program} {orc : FuncId → List Value → Heap → Option (Value × Heap)}
def runPre (P : Program) (orc : FuncId → List Value → Heap → Option (Value × Heap)) : Nat → Nat → Code → Fr → Heap → Option (Nat × Code × Fr × Heap)
  | 0, n, c, fr, h => some (n, c, fr, h)
  | k + 1, n, c, fr, h => match n, c with
    | n + 1, .seq a b => match fsCodeX P orc n none a fr h with
      | some (.normal, fr1, h1) => runPre P orc k n b fr1 h1
      | _ => none
    | _, _ => none
theorem run_via : ∀ {k n : Nat} {c : Code} {fr : Fr} {h : Heap} {n' : Nat} {c' : Code} {fr' : Fr} {h' : Heap}, runPre P orc k n c fr h = some (n', c', fr', h') → fsCodeX P orc n none c fr h = fsCodeX P orc n' none c' fr' h'
  | 0, n, c, fr, h, n', c', fr', h', hr => by
    simp only [runPre, Option.some.injEq, Prod.mk.injEq] at hr
    obtain ⟨rfl, rfl, rfl, rfl⟩ := hr
    rfl
  | k + 1, n, c, fr, h, n', c', fr', h', hr => by
    simp only [runPre] at hr
    split at hr
    · rename_i n a b
      split at hr
      · rename_i fr1 h1 ha
        rw [← run_via hr]
        show fsStep P orc (fsCodeX P orc n) none (.seq a b) fr h = _
        simp only [fsStep, ha]
      · cases hr
    · cases hr
def endV (P : Program) (fn : Func) (h : Heap) (x : Ex × Fr × Heap) : Option Value :=
  bif x.1.goes then
    match dropMarks x.2.1.marks x.2.2 with
    | some h2 => (fsResults P x.2.1.t h2 fn.results.toList).map tupled
    | none => none
  else none
theorem enter_map {rec : Rec} {f : FuncId} {args : List Value} {h : Heap} {fn : Func} {c : Code} (hf : P.funcs[f]? = some fn) (hc : fn.body = some c) (hn : (Nat.blt 4000 fn.ntmps || Nat.blt fn.ntmps args.length) = false) :
    (fsEnter P rec f args h).map (·.1) = (rec none c ⟨fillTr .leaf 0 args, fn.ntmps, []⟩ { next := h.next, low := h.next, objs := h.objs }).bind (endV P fn h) := by
  unfold fsEnter fsEnterK endV
  simp only [hf, hc, hn, cond_false]
  cases rec none c ⟨fillTr .leaf 0 args, fn.ntmps, []⟩ { next := h.next, low := h.next, objs := h.objs } with
  | none => rfl
  | some x =>
    obtain ⟨e, fr, h1⟩ := x
    simp only [Option.bind_some]
    cases e.goes with
    | false => rfl
    | true =>
      simp only [cond_true]
      cases dropMarks fr.marks h1 with
      | none => rfl
      | some h2 =>
        simp only
        cases fsResults P fr.t h2 fn.results.toList with
        | none => rfl
        | some vs =>
          simp only [Option.map_some]
          generalize (!false && (af (tupled vs) && Nat.ble h.next h2.low)) = q
          cases q <;> rfl
def sufx : Nat → Code → Code
  | 0, c => c
  | k + 1, .seq _ b => sufx k b
  | _ + 1, c => c
def rfOf : Code → Option (Array Tmp × Code × Code)
  | .rangeFunc _ ps a b => some (ps, a, b)
  | .seq a b => (rfOf a).or (rfOf b)
  | .cond _ a b => (rfOf a).or (rfOf b)
  | .block _ b => rfOf b
  | .loop b => rfOf b
  | .scope b => rfOf b
  | _ => none
def rfIn (fn : Func) : Array Tmp × Code × Code := (fn.body.bind rfOf).getD (#[], .skip, .skip)
end Go.Fs
