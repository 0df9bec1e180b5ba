/- Parts of the proof: an evaluator of the model, what it is sound for, and contracts of functions. No condition. -/
import Derived.Test.YteooaaiacpcfoaaGreatDoorP2
import Derived.KernelRfl
set_option linter.all false
namespace Go.Fs
variable {P : Program} {orc : FuncId → List Value → Heap → Option (Value × Heap)} {rnd : Option Nat} {h h' h0 h1 h2 hs : Heap} {S S' S0 B G : List Nat} {σ σ' : Sto} {t t' : Tr} {ms : List Nat} {fl : VL} {ops : Array Oper} {n i mem : Nat} {l : List Oper} {K : VL → Sto → Prop} {Q : Ex → VL → Sto → Prop}
  {d : Tmp} {ty : TypeId} {pos : String} {after : Array Edge} {op : Op} {v : PV} {g : Option (Nat × Bool)} {bs nw : List Nat} {segs : List (Nat × Nat × Nat)} {tail so : Bool}
def nwHas : List Nat → Nat → Bool
  | [], _ => false
  | k :: r, i => bif Nat.beq k i then true else nwHas r i
def nwSet (old : Bool) (d : Nat) (nw : List Nat) : List Nat := bif old then nw.filter (fun k => !Nat.beq k d) else d :: nw
def oldX (nw : List Nat) : Operand → Bool
  | .tmp i => !nwHas nw i
  | _ => true
theorem nwHas_filter {d k : Nat} (hk : k ≠ d) : ∀ {nw : List Nat}, nwHas (nw.filter fun k => !Nat.beq k d) k = nwHas nw k
  | [] => rfl
  | a :: r => by
    rw [List.filter_cons]; by_cases ha : a = d
    · subst ha; rw [Nat.beq_refl]; simp only [Bool.not_true, Bool.false_eq_true, if_false, nwHas]; rw [beq_no (Ne.symm hk)]; exact nwHas_filter hk
    rw [beq_no ha]; simp only [Bool.not_false, if_true, nwHas]; rw [nwHas_filter hk]
def Old (S0 : List Nat) (h : Heap) (σ : Sto) (t : Tr) (fl : VL) (nw : List Nat) (so : Bool) (segs : List (Nat × Nat × Nat)) : Prop := ∃ hs, HOk hs ∧ After hs h ∧ SegsOk hs segs ∧ SLt hs S0 ∧
  (∀ k pv, lkV fl k = some pv → nwHas nw k = false → RepPV hs (own σ ++ S0) pv (t.get k)) ∧ (so = true → ∀ c ∈ σ, CellR hs (own σ ++ S0) c.1 c.2)
section
variable (P orc)
def VD (ops : Array Oper) (n : Nat) (l : List Oper) (i : Nat) (fl : VL) (nw : List Nat) (σ : Sto) (so : Bool) (bs : List Nat) (mem : Nat) (tail : Bool) (K : VL → Sto → Prop) : Prop :=
  ∀ (h0 : Heap) (G S0 : List Nat) (t : Tr) (h : Heap) (ms : List Nat) (segs : List (Nat × Nat × Nat)), Iv h0 G S0 h σ t ms fl → (tail = false → Old S0 h σ t fl nw so segs) →
    EvD P orc ops n l i ⟨t, h, bs, segs, mem, tail⟩ fun s => ∃ fl' σ', Iv h0 G S0 s.h σ' s.t ms fl' ∧ K fl' σ'
end
theorem VC.drawn {id : Nat} {ops : Array Oper} (hx : VD P orc ops n ops.toList 0 fl [] σ true [] 0 false fun fl' σ' => Q .normal fl' σ') (hl : lateB ops = false := by kernel_rfl) : VC P orc rnd (.region id ops true) n fl σ Q := fun h0 G S0 t h ms I => by
  refine EvC.draw hl ?_; obtain ⟨m, s', h1, fl', σ', h2, h3⟩ := hx h0 G S0 t h ms [] I fun _ => ⟨h, I.ok, After.refl h, SegsOk.nil, I.lc.slt, fun k pv hk _ => I.slots k pv hk, fun _ => I.cells⟩; exact ⟨m, s', h1, rfl, fl', σ', h2, h3⟩
theorem VD.nil (hk : K fl σ) : VD P orc ops n [] i fl nw σ so bs mem tail K := fun _ _ _ _ _ _ _ I _ => EvD.nil ⟨fl, σ, I, hk⟩
theorem Old.set {u : Value} {old : Bool} (ho : Old S0 h σ t fl nw so segs) (hd : d < 4000) (hu : old = true → ∀ hs, HOk hs → After hs h → SLt hs S0 → (∀ k pv, lkV fl k = some pv → nwHas nw k = false → RepPV hs (own σ ++ S0) pv (t.get k)) → (so = true → ∀ c ∈ σ, CellR hs (own σ ++ S0) c.1 c.2) → RepPV hs (own σ ++ S0) v u) :
    Old S0 h σ (t.set depth d u) ((d, v) :: fl) (nwSet old d nw) so segs := by
  obtain ⟨hs, h1, h2, h3, h4, h5, h6⟩ := ho; refine ⟨hs, h1, h2, h3, h4, fun k pv hk hn => ?_, h6⟩; rw [get_setD t d u k hd]; simp only [lkV] at hk
  cases hb : Nat.beq d k with
  | true =>
    rw [hb] at hk; simp only [cond_true, Option.some.injEq] at hk; subst hk; rw [if_pos (nbeq hb).symm]
    cases old with
    | true => exact hu rfl hs h1 h2 h4 h5 h6
    | false =>
      simp only [nwSet, cond_false, nwHas, hb, cond_true] at hn
      cases hn
  | false =>
    rw [hb] at hk; simp only [cond_false] at hk; have hne := ne_of_no hb; rw [if_neg (Ne.symm hne)]; refine h5 k pv hk ?_
    cases old with
    | true => rw [nwSet, cond_true, nwHas_filter (Ne.symm hne)] at hn; exact hn
    | false => simpa only [nwSet, cond_false, nwHas, hb] using hn
theorem Old.next {lo hi : Nat} (ho : Old S0 h σ t fl nw so segs) (ha : After h h') (hl : h.next ≤ lo) : Old S0 h' σ t fl nw so ((i, lo, hi) :: segs) := by
  obtain ⟨hs, h1, h2, h3, h4, h5, h6⟩ := ho; exact ⟨hs, h1, h2.trans ha, SegsOk.cons (Nat.le_trans h2.next hl) h3, h4, h5, h6⟩
theorem Old.seg {lo hi : Nat} (ho : Old S0 h σ t fl nw so segs) (hl : h.next ≤ lo) : Old S0 h σ t fl nw so ((i, lo, hi) :: segs) := ho.next (After.refl h) hl
theorem old_sees {fl : VL} (h5 : ∀ k pv, lkV fl k = some pv → nwHas nw k = false → RepPV hs S pv (t.get k)) {x : Operand} {pv : PV} (hx : evV fl x = some pv) (ho : oldX nw x = true) : RepPV hs S pv (evalO t x) := by
  cases x with
  | tmp k => exact h5 k pv hx (by simpa [oldX] using ho)
  | const c =>
    obtain ⟨h1, h2⟩ := constV_ok hx; show RepPV hs S pv (if af c then c else junk)
    rw [if_pos h1]; exact h2 _ _
  | global g => cases hx
  | func f => obtain rfl := Option.some.inj hx; exact ⟨[], [], rfl, rfl, rfl⟩
def oldOp (nw : List Nat) (op : Op) : Bool := op.operands.toList.all (oldX nw)
theorem old_op {fl : VL} (h5 : ∀ k pv, lkV fl k = some pv → nwHas nw k = false → RepPV hs S pv (t.get k)) (ho : oldOp nw op = true) : Sees hs S t fl op := fun x hx pv hp => old_sees h5 hp (List.all_eq_true.1 ho x hx)
theorem VD.c {b : Nat} (hc : CalmV P fl [] op v) (hk : VD P orc ops n l (i + 1) ((d, v) :: fl) (nwSet (oldOp nw op || v.flat0) d nw) σ so (bs ++ [b]) mem tail K)
    (hb : beforeOf bs ⟨some d, op, ty, pos, after, g⟩ = b := by rfl) (hw : wantV ops fl g = some true := by rfl) (hn : (Nat.blt d n && Nat.ble n 4000) = true := by rfl) :
    VD P orc ops n (⟨some d, op, ty, pos, after, g⟩ :: l) i fl nw σ so bs mem tail K := fun h0 G S0 t h ms segs I ho => by
  obtain ⟨n1, n2⟩ := fits hn; obtain ⟨u, e1, e2⟩ := hc.2 h (own σ ++ S0) t I.slots.sees (fun _ hc => by cases hc); refine EvD.op (s' := ⟨t.set depth d u, h, bs ++ [b], segs, mem, tail⟩) ?_ (hk h0 G S0 _ h ms segs (I.set e1 n2) fun ht => (ho ht).set n2 fun hold hs a1 a2 a3 a4 a5 => ?_)
  · unfold fsDraw; have hwt : fsWanted ops t ⟨some d, op, ty, pos, after, g⟩ = some true := want_ok I.slots hw; simp only [hwt, hc.1, if_true, e2, Nat.beq_refl, cond_true, put_fits n1, Option.map_some, hb]
  rcases Bool.or_eq_true_iff.1 hold with hold | hold
  · obtain ⟨u', f1, f2⟩ := hc.2 hs (own σ ++ S0) t (old_op a4 hold) (fun _ hc => by cases hc)
    have : u' = u := by
      have g1 := e2 none 0 "" #[] none h; rw [f2 none 0 "" #[] none h] at g1; simpa using g1
    rw [← this]; exact f1
  exact (RepPV.flat0 hold e1).2 _ _
theorem seen_ok (I : Iv h0 G S0 h σ t ms fl) {o : Oper} {b : Nat} (hb : beforeOf bs o = b) (ho : tail = false → Old S0 h σ t fl nw so segs) :
    ∃ M, seenBy o ⟨t, h, bs, segs, mem, tail⟩ = M ∧ HOk M ∧ M.next = h.next ∧ M.low = h.next ∧ (∀ b o, M.get b = some o → h.get b = some o) ∧ (Nat.beq (mem &&& b) mem = true → M = entry h) ∧ (tail = false → ∃ hs, HOk hs ∧ After hs h ∧ After hs M ∧ SegsOk hs segs ∧ SLt hs S0 ∧
      (∀ k pv, lkV fl k = some pv → nwHas nw k = false → RepPV hs (own σ ++ S0) pv (t.get k)) ∧ (so = true → ∀ c ∈ σ, CellR hs (own σ ++ S0) c.1 c.2)) := by
  have hM4 : ∀ b o', (seenBy o ⟨t, h, bs, segs, mem, tail⟩).get b = some o' → h.get b = some o' := by
    unfold seenBy; simp only [hb]
    cases Nat.beq (mem &&& b) mem with
    | true => exact fun b o hg => hg
    | false => exact fun b o hg => mask_sees segs h.objs hg
  refine ⟨_, rfl, fun b o' hg => I.ok b o' (hM4 b o' hg), rfl, rfl, hM4, fun hord => ?_, fun ht => ?_⟩
  · unfold seenBy entry; simp only [hb, hord, cond_true]
  obtain ⟨hs, h1, h2, h3, h4, h5, h6⟩ := ho ht; refine ⟨hs, h1, h2, ?_, h3, h4, h5, h6⟩; unfold seenBy; simp only [hb]
  cases Nat.beq (mem &&& b) mem with
  | true => exact ⟨h2.next, h2.get, h2.ok, fun e h1 h3 => Nat.le_trans h3 h2.next⟩
  | false => exact msk_after h2 h3
theorem draw_read {b : Nat} {o : Oper} {u : Value} {M : Heap} (hM : seenBy o ⟨t, h, bs, segs, mem, tail⟩ = M) (hMn : M.next = h.next) (hMl : M.low = h.next) (hb : beforeOf bs o = b) (hd : o.dst = some d) (hcalm : calm o.op = false) (hw : fsWanted ops t o = some true) (htl : (tail && !Nat.beq (mem &&& b) mem) = false)
    (hst : stepO P o (evalO t) M = some (u, M)) (n1 : Nat.blt d n = true) : fsDraw (stepO P) ops n o i ⟨t, h, bs, segs, mem, tail⟩ = some ⟨t.set depth d u, h, bs ++ [b], (i, h.next, h.next) :: segs, mem ||| 2 ^ i, tail⟩ := by
  unfold fsDraw
  have hM' : ({ next := h.next, low := h.next, objs := bif Nat.beq (mem &&& b) mem then h.objs else mask b segs h.objs } : Heap) = M := by
    rw [← hM]; unfold seenBy; simp only [hb]
  simp only [hw, hcalm, Bool.false_eq_true, if_false, hb, htl, cond_false, hM', hst]; simp only [hMn, hMl, blt_refl', ble_refl', cond_false, hd, put_fits n1, cond_true, newer_same, List.nil_append]
theorem VD.r {b : Nat} (cs : Sto) (hc : ReadV P fl cs op v) (hcs : cs = [] ∨ (so = true ∧ cs = σ)) (hk : VD P orc ops n l (i + 1) ((d, v) :: fl) (nwSet true d nw) σ so (bs ++ [b]) (mem ||| 2 ^ i) false K)
    (hb : beforeOf bs ⟨some d, op, ty, pos, after, g⟩ = b := by rfl) (hold : oldOp nw op = true := by rfl) (hw : wantV ops fl g = some true := by rfl) (hn : (Nat.blt d n && Nat.ble n 4000) = true := by rfl) :
    VD P orc ops n (⟨some d, op, ty, pos, after, g⟩ :: l) i fl nw σ so bs mem false K := fun h0 G S0 t h ms segs I ho => by
  obtain ⟨n1, n2⟩ := fits hn; obtain ⟨M, m1, m2, m3, m4, m5, m6, m7⟩ := seen_ok (mem := mem) I hb ho; obtain ⟨hs, a1, a2, a3, a4, a5, a6, a7⟩ := m7 rfl
  have hcell : ∀ c ∈ cs, CellR hs (own σ ++ S0) c.1 c.2 := by
    rcases hcs with rfl | ⟨hso, hcs⟩
    · intro c hc; cases hc
    rw [hcs]; exact a7 hso
  obtain ⟨u, e1, e2⟩ := hc.2 hs (own σ ++ S0) t (old_op a6 hold) hcell; have hst := e2 M (fun b o hg => by rw [a3.get b (a1 b o hg)]; exact hg) (some d) ty pos after g; have hrep : RepPV h (own σ ++ S0) v u := e1.nx (a2.nx a1); refine EvD.op (draw_read m1 m3 m4 hb rfl hc.1 (want_ok I.slots hw) rfl hst n1) (hk h0 G S0 _ h ms _ (I.set hrep n2) fun _ => ?_); refine Old.seg ?_ (Nat.le_refl _); refine Old.set (old := true) ⟨hs, a1, a2, a4, a5, a6, a7⟩ n2 fun _ hs' b1 b2 b3 b4 b5 => ?_
  have hcell' : ∀ c ∈ cs, CellR hs' (own σ ++ S0) c.1 c.2 := by
    rcases hcs with rfl | ⟨hso, hcs⟩
    · intro c hc; cases hc
    rw [hcs]; exact b5 hso
  obtain ⟨u', f1, f2⟩ := hc.2 hs' (own σ ++ S0) t (old_op b4 hold) hcell'; have g1 := e2 h (fun b o hg => by rw [a2.get b (a1 b o hg)]; exact hg) (some d) ty pos after g; rw [f2 h (fun b o hg => by rw [b2.get b (b1 b o hg)]; exact hg) (some d) ty pos after g] at g1
  have : u' = u := by simpa using g1
  rw [← this]; exact f1
theorem VD.skip {b : Nat} (hk : VD P orc ops n l (i + 1) ((d, .raw undef) :: fl) (nwSet true d nw) σ so (bs ++ [b]) mem tail K)
    (hb : beforeOf bs ⟨some d, op, ty, pos, after, g⟩ = b := by rfl) (hw : wantV ops fl g = some false := by rfl) (hn : (Nat.blt d n && Nat.ble n 4000) = true := by rfl) :
    VD P orc ops n (⟨some d, op, ty, pos, after, g⟩ :: l) i fl nw σ so bs mem tail K := fun h0 G S0 t h ms segs I ho => by
  obtain ⟨n1, n2⟩ := fits hn; have hwt : fsWanted ops t ⟨some d, op, ty, pos, after, g⟩ = some false := want_ok I.slots hw; refine EvD.op (s' := ⟨t.set depth d undef, h, bs ++ [b], segs, mem, tail⟩) ?_ (hk h0 G S0 _ h ms segs (I.set (show RepPV _ _ (.raw undef) undef from rfl) n2) fun ht => (ho ht).set n2 fun _ _ _ _ _ _ _ => (show RepPV _ _ (.raw undef) undef from rfl)); unfold fsDraw; simp only [hwt, put_fits n1, Option.map_some, hb]
theorem VD.splitB {x : Tmp} {r : Bool} (hc : lkV fl x = some (.v .bool r)) (ht : r = true → VD P orc ops n l i ((x, .v .bool true) :: fl) (nwSet true x nw) σ so bs mem tail K) (hf : r = false → VD P orc ops n l i ((x, .v .bool false) :: fl) (nwSet true x nw) σ so bs mem tail K) :
    VD P orc ops n l i fl nw σ so bs mem tail K := fun h0 G S0 t h ms segs I ho => by
  have hx : Iv h0 G S0 h σ t ms ((x, .v .bool r) :: fl) := { I with slots := I.slots.cons (I.slots x _ hc) }
  have hO : tail = false → Old S0 h σ t ((x, .v .bool r) :: fl) (nwSet true x nw) so segs := fun e => by
    obtain ⟨hs, h1, h2, h3, h4, h5, h6⟩ := ho e; refine ⟨hs, h1, h2, h3, h4, fun k pv hk hn => ?_, h6⟩; simp only [lkV] at hk
    cases hb : Nat.beq x k with
    | true =>
      rw [hb] at hk; simp only [cond_true, Option.some.injEq] at hk; subst hk; rw [← nbeq hb]
      exact (RepPV.flat0 (pv := .v .bool r) rfl (I.slots x _ hc)).2 _ _
    | false =>
      rw [hb] at hk; simp only [cond_false] at hk; refine h5 k pv hk ?_; rw [nwSet, cond_true, nwHas_filter (Ne.symm (ne_of_no hb))] at hn; exact hn
  cases r with
  | true => exact ht rfl h0 G S0 t h ms segs hx hO
  | false => exact hf rfl h0 G S0 t h ms segs hx hO
theorem VD.splitD {x : Tmp} {p : Prop} {inst : Decidable p} (hc : lkV fl x = some (.v .bool (@decide p inst))) (ht : p → VD P orc ops n l i ((x, .v .bool true) :: fl) (nwSet true x nw) σ so bs mem tail K) (hf : ¬ p → VD P orc ops n l i ((x, .v .bool false) :: fl) (nwSet true x nw) σ so bs mem tail K) :
    VD P orc ops n l i fl nw σ so bs mem tail K := VD.splitB hc (fun h => ht (of_decide_eq_true h)) fun h => hf (of_decide_eq_false h)
theorem VD.call {b : Nat} {f : Operand} {args : Array Operand} {ats : Array TypeId} {F r : PV} {asl : List PV} (hf : evV fl f = some F) (ha : evVs fl args.toList = some asl) (hc : VCall P orc F asl r) (hk : VD P orc ops n l (i + 1) ((d, r) :: fl) (nwSet r.flat d nw) σ so (bs ++ [b]) (mem ||| 2 ^ i) false K)
    (hb : beforeOf bs ⟨some d, .call { callee := .value f, args := args, argTypes := ats }, ty, pos, after, g⟩ = b := by rfl) (hold : (oldX nw f && args.toList.all (oldX nw)) = true := by rfl) (hw : wantV ops fl g = some true := by rfl) (hn : (Nat.blt d n && Nat.ble n 4000) = true := by rfl) :
    VD P orc ops n (⟨some d, .call { callee := .value f, args := args, argTypes := ats }, ty, pos, after, g⟩ :: l) i fl nw σ so bs mem false K := fun h0 G S0 t h ms segs I ho => by
  obtain ⟨n1, n2⟩ := fits hn; obtain ⟨o1, o2⟩ := band hold; obtain ⟨M, m1, m2, m3, m4, m5, m6, m7⟩ := seen_ok (mem := mem) I hb ho; obtain ⟨hs, a1, a2, a3, a4, a5, a6, a7⟩ := m7 rfl; have hN : Goes hs (own σ ++ S0) M (own σ ++ S0) := a3.nx a1
  have hargs : ∀ (l : List Operand) (asl : List PV), evVs fl l = some asl → l.all (oldX nw) = true → RepL M (own σ ++ S0) asl (l.map (evalO t)) := by
    intro l
    induction l with
    | nil => intro asl hx _; obtain rfl := Option.some.inj hx; rfl
    | cons x r ih =>
      intro asl hx hl; rw [List.all_cons] at hl; obtain ⟨l1, l2⟩ := band hl; simp only [evVs] at hx; split at hx
      · rename_i v vs0 hv hvs; obtain rfl := Option.some.inj hx; exact ⟨_, _, rfl, (old_sees a6 hv l1).nx hN, ih vs0 hvs l2⟩
      cases hx
  obtain ⟨fid, ca, cc, h1, h2⟩ := hc.ev m2 ⟨fun b hb => by rw [m3]; exact Lc.lt I.lc b hb, I.slots.1.seen a2 a3 a5⟩ ((old_sees a6 hf o1).nx hN) (hargs _ _ ha o2); refine EvD.call (o := ⟨some d, .call { callee := .value f, args := args, argTypes := ats }, ty, pos, after, g⟩) (want_ok I.slots hw) rfl rfl h1 rfl ?_; rw [m1]; refine h2.mono fun u h' hq => ?_; obtain ⟨q1, q2, q3⟩ := hq; have hA := q1.after; have hl : h.next ≤ h'.low := hA.low h.next (by omega) (by omega)
  have hlow : Nat.ble h.next h'.low = true := by rw [Nat.ble_eq]; exact hl
  have hnx : h.next ≤ h'.next := by have := hA.next; omega
  refine ⟨blt_of_le hnx, by simp only [hlow, Bool.true_or], _, put_fits n1 t u, ?_⟩
  have hd : drewOn ⟨some d, .call { callee := .value f, args := args, argTypes := ats }, ty, pos, after, g⟩ i ⟨t, h, bs, segs, mem, false⟩ (t.set depth d u) h' =
      ⟨t.set depth d u, { next := h'.next, low := h.low, objs := newer h.next h'.next h'.objs ++ h.objs }, bs ++ [b], (i, h.next, h'.next) :: segs, mem ||| 2 ^ i, false⟩ := by
    unfold drewOn; simp only [hlow, cond_true, hb]
  rw [hd]; obtain ⟨e1, e2⟩ := newer_left (h' := h') I.ok m5 m3 hA m2; have eA : Aft h { next := h'.next, low := h.low, objs := newer h.next h'.next h'.objs ++ h.objs } [] := ⟨e1.next, fun b hb _ => e1.get b hb, e1.ok, fun e h3 h4 _ => e1.low e h3 h4, fun b hb => .inl (e1.get b hb), Nat.le_refl _⟩; refine hk h0 G S0 _ _ ms _ ((I.calm eA).set (q2.nx (e2 _)) n2) fun _ => ?_; exact ((Old.set (old := r.flat) ⟨hs, a1, a2, a4, a5, a6, a7⟩ n2 fun hfl _ _ _ _ _ _ => (q2.flat hfl).2 _ _)).next e1 (Nat.le_refl _)
theorem VD.callO {b : Nat} {f : Operand} {args : Array Operand} {ats : Array TypeId} {F r : PV} {asl : List PV} (hf : evV fl f = some F) (ha : evVs fl args.toList = some asl) (hc : VCall P orc F asl r) (hk : VD P orc ops n l (i + 1) ((d, r) :: fl) (nwSet r.flat d nw) σ so (bs ++ [b]) (mem ||| 2 ^ i) tail K)
    (hb : beforeOf bs ⟨some d, .call { callee := .value f, args := args, argTypes := ats }, ty, pos, after, g⟩ = b := by rfl) (hord : Nat.beq (mem &&& b) mem = true := by rfl) (hw : wantV ops fl g = some true := by rfl) (hn : (Nat.blt d n && Nat.ble n 4000) = true := by rfl) :
    VD P orc ops n (⟨some d, .call { callee := .value f, args := args, argTypes := ats }, ty, pos, after, g⟩ :: l) i fl nw σ so bs mem tail K := fun h0 G S0 t h ms segs I ho => by
  obtain ⟨n1, n2⟩ := fits hn; obtain ⟨M, m1, m2, m3, m4, m5, m6, m7⟩ := seen_ok (mem := mem) I hb ho; obtain rfl := m6 hord; have Le := I.lc.objs (h' := entry h) (fun _ => rfl) rfl; obtain ⟨fid, ca, cc, h1, h2⟩ := hc.ev m2 Le.sokA (evV_ok Le.slots hf) (evVs_ok Le.slots ha); refine EvD.call (o := ⟨some d, .call { callee := .value f, args := args, argTypes := ats }, ty, pos, after, g⟩) (want_ok I.slots hw) rfl rfl h1 (by simp only [hb, hord]; simp) ?_; rw [m1]; refine h2.mono fun u h' hq => ?_; obtain ⟨q1, q2, q3⟩ := hq; have hA := q1.after; have hl : h.next ≤ h'.low := hA.low h.next (Nat.le_refl _) (Nat.le_refl _)
  have hlow : Nat.ble h.next h'.low = true := by rw [Nat.ble_eq]; exact hl
  have hnx : h.next ≤ h'.next := hA.next; refine ⟨blt_of_le hnx, by simp only [hlow, Bool.true_or], _, put_fits n1 t u, ?_⟩
  have hd : drewOn ⟨some d, .call { callee := .value f, args := args, argTypes := ats }, ty, pos, after, g⟩ i ⟨t, h, bs, segs, mem, tail⟩ (t.set depth d u) h' =
      ⟨t.set depth d u, { next := h'.next, low := h.low, objs := newer h.next h'.next h'.objs ++ h.objs }, bs ++ [b], (i, h.next, h'.next) :: segs, mem ||| 2 ^ i, tail⟩ := by
    unfold drewOn; simp only [hlow, cond_true, hb]
  rw [hd]; obtain ⟨e1, e2⟩ := newer_left (h' := h') I.ok m5 rfl hA m2; have eA : Aft h { next := h'.next, low := h.low, objs := newer h.next h'.next h'.objs ++ h.objs } [] := ⟨e1.next, fun b hb _ => e1.get b hb, e1.ok, fun e h3 h4 _ => e1.low e h3 h4, fun b hb => .inl (e1.get b hb), Nat.le_refl _⟩; refine hk h0 G S0 _ _ ms _ ((I.calm eA).set (q2.nx (e2 _)) n2) fun ht => ?_; exact ((ho ht).set n2 fun hfl _ _ _ _ _ _ => (q2.flat hfl).2 _ _).next e1 (Nat.le_refl _)
end Go.Fs
namespace Go.Fs
variable {P : Program} {orc : FuncId → List Value → Heap → Option (Value × Heap)} {h h' h0 : Heap} {fl : FL} {op : Op} {v : Value} {S S' S0 : List Nat}
theorem SlV.hiEnd {T e : TypeId} {τ : Ty} (hT : ElT P T e τ) {v : Value} {xs : List τ.den} (hv : SlV h S τ v xs) {lo : Option Value} (H : Heap) : fsSlice P T v lo none none H = fsSlice P T v lo (some (.int .i64 (xs.length : Nat))) none H := by
  rcases hv with ⟨rfl, rfl⟩ | ⟨b, o, mk, rfl, _⟩
  · simp only [fsSlice, hT.sl.sl, boundOf, List.length_nil]; rfl
  have h1 : boundOf (some (.int .i64 (xs.length : Nat))) xs.length = some xs.length := by
    simp only [boundOf, Int.natCast_nonneg, if_true, Int.toNat_natCast]
  simp only [fsSlice, hT.sl.sl, h1]; rfl
theorem SlV.cutL {T e : TypeId} {τ : Ty} (hT : ElT P T e τ) {v : Value} {xs : List τ.den} (hv : SlV h S τ v xs) {a : Int} (h0 : 0 ≤ a ∧ a ≤ (xs.length : Nat)) :
    ∃ w, (∀ nn ll, fsSlice P T v (some (.int .i64 a)) none none { next := nn, low := ll, objs := h.objs } = some w) ∧ SlV h S τ w (xs.drop a.toNat) := by
  obtain ⟨w, h1, h2⟩ := hv.cut hT (a := a) (b := (xs.length : Nat)) ⟨h0.1, h0.2, Int.le_refl _⟩; refine ⟨w, fun nn ll => by rw [hv.hiEnd hT]; exact h1 nn ll, ?_⟩
  rwa [Int.toNat_natCast, List.take_length] at h2
theorem max_if (p q : Int) : (if q > p then q else p) = max p q := by
  rw [Int.max_def]; split <;> split <;> omega
end Go.Fs
namespace Go.Fs
variable {P : Program} {orc : FuncId → List Value → Heap → Option (Value × Heap)} {rnd : Option Nat} {h h' h0 h1 h2 : Heap} {S S' S0 B G : List Nat} {σ σ' : Sto} {t t' : Tr} {ms : List Nat} {fl : VL} {ops : Array Oper} {n : Nat} {l : List Oper} {K : VL → Sto → Prop} {Q : Ex → VL → Sto → Prop}
  {d : Tmp} {ty : TypeId} {pos : String} {after : Array Edge} {op : Op} {v pv : PV} {g : Option (Nat × Bool)} {x y z : Operand} {T T' e : TypeId} {τ τ' : Ty}
theorem CalmV.move (hx : evV fl x = some pv) : CalmV P fl σ (.move x) pv := ⟨rfl, fun h S t hs _ => ⟨evalO t x, hs x (by simp [Op.operands]) _ hx, fun _ _ _ _ _ _ => rfl⟩⟩
theorem CalmV.assign (hx : evV fl x = some pv) : CalmV P fl σ (.assign x) pv := ⟨rfl, fun h S t hs _ => ⟨evalO t x, hs x (by simp [Op.operands]) _ hx, fun _ _ _ _ _ _ => rfl⟩⟩
theorem CalmV.pickT (hc : evV fl z = some (.v .bool true)) (hx : evV fl x = some pv) : CalmV P fl σ (.pick z x y) pv := ⟨rfl, fun h S t hs _ => ⟨evalO t x, hs x (by simp [Op.operands]) _ hx, fun _ _ _ _ _ H => by
  have := (hs z (by simp [Op.operands]) _ hc : RepPV h S (.v .bool true) _).bool; show (match evalO t z with | .bool true => some (evalO t x, H) | .bool false => some (evalO t y, H) | _ => none) = _
  rw [this]⟩⟩
theorem CalmV.pickF (hc : evV fl z = some (.v .bool false)) (hy : evV fl y = some pv) : CalmV P fl σ (.pick z x y) pv := ⟨rfl, fun h S t hs _ => ⟨evalO t y, hs y (by simp [Op.operands]) _ hy, fun _ _ _ _ _ H => by
  have := (hs z (by simp [Op.operands]) _ hc : RepPV h S (.v .bool false) _).bool; show (match evalO t z with | .bool true => some (evalO t x, H) | .bool false => some (evalO t y, H) | _ => none) = _
  rw [this]⟩⟩
theorem CalmV.bin {b : BinOp} {p q : PV} (hx : evV fl x = some p) (hy : evV fl y = some q) (hv : ∀ (h : Heap) (S : List Nat) (a c : Value), RepPV h S p a → RepPV h S q c → ∃ u, RepPV h S v u ∧ (af a && af c) = true ∧ purely P (do eqGuard b T x y a c; binOp b T a c) = some u) : CalmV P fl σ (.binOp b T x y T') v :=
  ⟨rfl, fun h S t hs _ => by
    obtain ⟨u, h1, h2, h3⟩ := hv h S _ _ (hs x (by simp [Op.operands]) _ hx) (hs y (by simp [Op.operands]) _ hy); refine ⟨u, h1, fun _ _ _ _ _ H => ?_⟩; show (if (af (evalO t x) && af (evalO t y)) = true then _ else _) = _
    rw [if_pos h2, h3]; rfl⟩
theorem CalmV.binI {b : BinOp} {k k' : IntKind} {p q : Int} {u : Value} (hx : evV fl x = some (.v (.int k) p)) (hy : evV fl y = some (.v (.int k') q)) (hu : purely P (do eqGuard b T x y (.int k p) (.int k' q); binOp b T (.int k p) (.int k' q)) = some u) (hv : ∀ h S, RepPV h S v u) : CalmV P fl σ (.binOp b T x y T') v :=
  .bin hx hy fun h S a c ha hc => by
    obtain rfl := RepV.int ha; obtain rfl := RepV.int hc; exact ⟨u, hv h S, rfl, hu⟩
section
variable {p q : Int}
abbrev fit (n : Int) : Prop := -9223372036854775808 ≤ n ∧ n ≤ 9223372036854775807
theorem CalmV.add (hx : evV fl x = some (.v (.int .i64) p)) (hy : evV fl y = some (.v (.int .i64) q)) (h0 : fit (p + q)) : CalmV P fl σ (.binOp .add T x y T') (.v (.int .i64) (p + q)) :=
  .binI hx hy (u := .int .i64 (IntKind.i64.wrap (p + q))) rfl fun h S => by rw [wrap64 h0.1 h0.2]; exact RepV.ofInt _ _
theorem CalmV.sub (hx : evV fl x = some (.v (.int .i64) p)) (hy : evV fl y = some (.v (.int .i64) q)) (h0 : fit (p - q)) : CalmV P fl σ (.binOp .sub T x y T') (.v (.int .i64) (p - q)) :=
  .binI hx hy (u := .int .i64 (IntKind.i64.wrap (p - q))) rfl fun h S => by rw [wrap64 h0.1 h0.2]; exact RepV.ofInt _ _
theorem CalmV.mul (hx : evV fl x = some (.v (.int .i64) p)) (hy : evV fl y = some (.v (.int .i64) q)) (h0 : fit (p * q)) : CalmV P fl σ (.binOp .mul T x y T') (.v (.int .i64) (p * q)) :=
  .binI hx hy (u := .int .i64 (IntKind.i64.wrap (p * q))) rfl fun h S => by rw [wrap64 h0.1 h0.2]; exact RepV.ofInt _ _
theorem CalmV.quo (hx : evV fl x = some (.v (.int .i64) p)) (hy : evV fl y = some (.v (.int .i64) q)) (hq : q ≠ 0) (h0 : fit (p.tdiv q)) : CalmV P fl σ (.binOp .quo T x y T') (.v (.int .i64) (p.tdiv q)) :=
  .binI hx hy (u := .int .i64 (IntKind.i64.wrap (p.tdiv q))) (by show (runPure P (Op.intDiv .quo .i64 p q)).bind _ = _; unfold Op.intDiv; rw [if_neg hq]; rfl) fun h S => by rw [wrap64 h0.1 h0.2]; exact RepV.ofInt _ _
theorem CalmV.rem (hx : evV fl x = some (.v (.int .i64) p)) (hy : evV fl y = some (.v (.int .i64) q)) (hq : q ≠ 0) : CalmV P fl σ (.binOp .rem T x y T') (.v (.int .i64) (p.tmod q)) :=
  .binI hx hy (u := .int .i64 (p.tmod q)) (by show (runPure P (Op.intDiv .rem .i64 p q)).bind _ = _; unfold Op.intDiv; rw [if_neg hq]; rfl) fun h S => RepV.ofInt _ _
variable {k : IntKind}
theorem cmp_int (b : BinOp) (r : Bool) (hr : Op.intCmp b p q = pure (.bool r)) (ha : ∀ s : Sem Value, binOp b T (.int k p) (.int k q) = s → s = Op.intCmp b p q) (hg : eqGuard b T x y (.int k p) (.int k q) = pure ()) : purely P (do eqGuard b T x y (.int k p) (.int k q); binOp b T (.int k p) (.int k q)) = some (.bool r) := by
  rw [hg, ha _ rfl, hr]; rfl
theorem binCmp {b : BinOp} (hb : binOp b T (.int k p) (.int k q) = if k ≠ k then stuck "BinOp: operands of different kinds" else Op.intCmp b p q) : binOp b T (.int k p) (.int k q) = Op.intCmp b p q := by rw [hb, if_neg (by simp)]
theorem CalmV.lss (hx : evV fl x = some (.v (.int k) p) := by rfl) (hy : evV fl y = some (.v (.int k) q) := by rfl) : CalmV P fl σ (.binOp .lss T x y T') (.v .bool (decide (p < q))) :=
  .binI hx hy (u := .bool (decide (p < q))) (cmp_int .lss _ rfl (fun s hs => by rw [← hs]; exact binCmp rfl) rfl) fun h S => RepV.ofBool _
theorem CalmV.leq (hx : evV fl x = some (.v (.int k) p) := by rfl) (hy : evV fl y = some (.v (.int k) q) := by rfl) : CalmV P fl σ (.binOp .leq T x y T') (.v .bool (decide (p ≤ q))) :=
  .binI hx hy (u := .bool (decide (p ≤ q))) (cmp_int .leq _ rfl (fun s hs => by rw [← hs]; exact binCmp rfl) rfl) fun h S => RepV.ofBool _
theorem CalmV.gtr (hx : evV fl x = some (.v (.int k) p) := by rfl) (hy : evV fl y = some (.v (.int k) q) := by rfl) : CalmV P fl σ (.binOp .gtr T x y T') (.v .bool (decide (q < p))) :=
  .binI hx hy (u := .bool (decide (q < p))) (cmp_int .gtr _ rfl (fun s hs => by rw [← hs]; exact binCmp rfl) rfl) fun h S => RepV.ofBool _
theorem CalmV.geq (hx : evV fl x = some (.v (.int k) p) := by rfl) (hy : evV fl y = some (.v (.int k) q) := by rfl) : CalmV P fl σ (.binOp .geq T x y T') (.v .bool (decide (q ≤ p))) :=
  .binI hx hy (u := .bool (decide (q ≤ p))) (cmp_int .geq _ rfl (fun s hs => by rw [← hs]; exact binCmp rfl) rfl) fun h S => RepV.ofBool _
theorem CalmV.eql (hx : evV fl x = some (.v (.int k) p) := by rfl) (hy : evV fl y = some (.v (.int k) q) := by rfl) : CalmV P fl σ (.binOp .eql T x y T') (.v .bool (decide (p = q))) := by
  have e : (p == q) = decide (p = q) := by by_cases h : p = q <;> simp [h]
  exact .binI hx hy (u := .bool (p == q)) (cmp_int .eql _ rfl (fun s hs => by rw [← hs]; exact binCmp rfl) rfl) fun h S => by rw [e]; exact RepV.ofBool _
theorem CalmV.neq (hx : evV fl x = some (.v (.int k) p) := by rfl) (hy : evV fl y = some (.v (.int k) q) := by rfl) : CalmV P fl σ (.binOp .neq T x y T') (.v .bool (decide (p ≠ q))) := by
  have e : (p != q) = decide (p ≠ q) := by by_cases h : p = q <;> simp [h]
  exact .binI hx hy (u := .bool (p != q)) (cmp_int .neq _ rfl (fun s hs => by rw [← hs]; exact binCmp rfl) rfl) fun h S => by rw [e]; exact RepV.ofBool _
end
theorem CalmV.un {b : UnOp} {p : PV} (hx : evV fl x = some p) (hv : ∀ (h : Heap) (S : List Nat) (a : Value), RepPV h S p a → ∃ u, RepPV h S v u ∧ af a = true ∧ purely P (Op.unary b a) = some u) : CalmV P fl σ (.unOp b T x) v :=
  ⟨rfl, fun h S t hs _ => by
    obtain ⟨u, h1, h2, h3⟩ := hv h S _ (hs x (by simp [Op.operands]) _ hx); refine ⟨u, h1, fun _ _ _ _ _ H => ?_⟩; show (if af (evalO t x) = true then _ else _) = _
    rw [if_pos h2, h3]; rfl⟩
theorem CalmV.not {r : Bool} (hx : evV fl x = some (.v .bool r) := by rfl) : CalmV P fl σ (.unOp .not T x) (.v .bool (!r)) :=
  .un hx fun h S a ha => by
    obtain rfl := RepV.bool ha; exact ⟨_, RepV.ofBool _, rfl, rfl⟩
theorem CalmV.conv {p : PV} {s D : TypeId} (hx : evV fl x = some p) (hv : ∀ (h : Heap) (S : List Nat) (a : Value), RepPV h S p a → ∃ u, RepPV h S v u ∧ af a = true ∧ purely P (convert s D a) = some u) : CalmV P fl σ (.convert s D x) v :=
  ⟨rfl, fun h S t hs _ => by
    obtain ⟨u, h1, h2, h3⟩ := hv h S _ (hs x (by simp [Op.operands]) _ hx); refine ⟨u, h1, fun _ _ _ _ _ H => ?_⟩; show (if af (evalO t x) = true then _ else _) = _
    rw [if_pos h2, h3]; rfl⟩
def convB (P : Program) (s D : TypeId) (k2 : IntKind) : Bool := (P.underlying s).isSome && (match P.underlying D with | some (.int k) => decide (k = k2) | _ => false)
theorem CalmV.convI {p : Int} {s D : TypeId} {k : IntKind} (hx : evV fl x = some (.v (.int k) p)) (k2 : IntKind) (hw : k2.wrap p = p) (hb : convB P s D k2 = true := by kernel_rfl) : CalmV P fl σ (.convert s D x) (.v (.int k2) p) :=
  .conv hx fun h S a ha => by
    obtain rfl := RepV.int ha; unfold convB at hb; obtain ⟨b1, b2⟩ := band hb; obtain ⟨td, hs⟩ := Option.isSome_iff_exists.1 b1; split at b2
    · rename_i k3 hd; obtain rfl : k3 = k2 := of_decide_eq_true b2; refine ⟨.int k3 p, RepV.ofInt _ _, rfl, ?_⟩; unfold purely convert; simp only [runPure_bind, runPure_underlying hs, runPure_underlying hd, Option.bind_some]; show (runPure P (Conv.intToInt k3 p)).bind _ = _; simp only [Conv.intToInt, runPure_pure, Option.bind_some, hw]; rfl
    cases b2
theorem CalmV.func {f : FuncId} {a c : Array Operand} {us vs : List PV} (ha : evVs fl a.toList = some us := by rfl) (hc : evVs fl c.toList = some vs := by rfl) : CalmV P fl σ (.makeFunc (.func f) a c) (.clo f us vs) :=
  ⟨rfl, fun h S t hs _ => by
    have aux : ∀ (l : List Operand) (vs : List PV), (∀ x ∈ l, ∀ pv, evV fl x = some pv → RepPV h S pv (evalO t x)) → evVs fl l = some vs → RepL h S vs (l.map (evalO t)) := by
      intro l
      induction l with
      | nil => intro vs _ hx; obtain rfl := Option.some.inj hx; rfl
      | cons x r ih =>
        intro vs hq hx; simp only [evVs] at hx; split at hx
        · rename_i v vs0 hv hvs; obtain rfl := Option.some.inj hx; exact ⟨_, _, rfl, hq x List.mem_cons_self _ hv, ih vs0 (fun y hy => hq y (List.mem_cons_of_mem _ hy)) hvs⟩
        cases hx
    refine ⟨.func (.func f) (a.map (evalO t)) (c.map (evalO t)), ⟨a.toList.map (evalO t), c.toList.map (evalO t), by congr 1 <;> (apply Array.toList_inj.1; simp), aux _ _ (fun x hx => hs x (by simp [Op.operands]; left; simpa using hx)) ha, aux _ _ (fun x hx => hs x (by simp [Op.operands]; right; simpa using hx)) hc⟩, fun _ _ _ _ _ H => rfl⟩⟩
theorem RepL.get : ∀ {l : List PV} {us : List Value} {i : Nat} {p : PV}, RepL h S l us → l[i]? = some p → ∃ u, us[i]? = some u ∧ RepPV h S p u
  | [], us, i, p, _, hp => by simp at hp
  | q :: qs, us, i, p, ⟨u, r, h1, h2, h3⟩, hp => by
    subst h1
    cases i with
    | zero => simp only [List.getElem?_cons_zero, Option.some.injEq] at hp; subst hp; exact ⟨u, rfl, h2⟩
    | succ i =>
      obtain ⟨w, e1, e2⟩ := RepL.get (l := qs) (us := r) (i := i) h3 (by simpa using hp); exact ⟨w, by simpa using e1, e2⟩
theorem CalmV.extract {l : List PV} {i : Nat} (hx : evV fl x = some (.tup l) := by rfl) (hi : l[i]? = some pv := by rfl) (h2 : Nat.ble 2 l.length = true := by rfl) : CalmV P fl σ (.extract x i) pv :=
  ⟨rfl, fun h S t hs _ => by
    obtain ⟨us, h3, h4⟩ := hs x (by simp [Op.operands]) _ hx; obtain ⟨u, h5, h6⟩ := h4.get hi; have hlen := h4.len; refine ⟨u, h6, fun _ _ _ _ _ H => ?_⟩; show (bif isJunk (evalO t x) then none else (runPure P (Instr.extract (evalO t x) i)).map _) = _; rw [h3]
    have hj : isJunk (.tuple us.toArray) = false := by
      unfold isJunk; split
      · rename_i hh
        have : us = [.tuple ⟨[]⟩] := by simpa using congrArg (fun v => match v with | Value.tuple a => a.toList | _ => []) hh
        rw [this] at hlen; have := nble h2; simp at hlen; omega
      rfl
    rw [hj]; simp only [cond_false, Instr.extract]
    have : us.toArray[i]? = some u := by simpa using h5
    rw [this]
    rfl⟩
inductive Sub : (τ : Ty) → τ.den → Nat → (τ' : Ty) → τ'.den → Prop where
  | o {τ : Ty} {x : τ.den} : Sub τ x 0 τ x
  | l {a b : Ty} {x : (Ty.pair a b).den} {k : Nat} {τ' : Ty} {y : τ'.den} (hs : Sub a x.1 k τ' y) : Sub (.pair a b) x k τ' y
  | r {a b : Ty} {x : (Ty.pair a b).den} {k k' : Nat} {τ' : Ty} {y : τ'.den} (hs : Sub b x.2 k τ' y) (hk : k' = a.size + k := by rfl) : Sub (.pair a b) x k' τ' y
theorem Sub.repC {τ : Ty} {x : τ.den} {k : Nat} {τ' : Ty} {y : τ'.den} (hs : Sub τ x k τ' y) : ∀ {cs : List Value}, RepC h S τ cs x → k + τ'.size ≤ cs.length ∧ RepC h S τ' ((cs.drop k).take τ'.size) y := by
  induction hs with
  | o =>
    intro cs hx; have := hx.len
    exact ⟨by omega, by rw [List.drop_zero, List.take_of_length_le (by omega)]; exact hx⟩
  | @l a b x k τ' y hs ih =>
    intro cs hx; obtain ⟨h1, h2⟩ := ih hx.1; rw [List.length_take] at h1; refine ⟨by omega, ?_⟩; rw [List.drop_take, List.take_take, Nat.min_eq_left (by omega)] at h2
    exact h2
  | @r a b x k k' τ' y hs hk ih =>
    intro cs hx; obtain ⟨h1, h2⟩ := ih hx.2; rw [List.length_drop] at h1; have hl := hx.len; have hsz : (Ty.pair a b).size = a.size + b.size := rfl; subst hk; rw [List.drop_drop] at h2; refine ⟨?_, h2⟩; have := RepC.len h2; rw [List.length_take, List.length_drop] at this; by_cases h0 : τ'.size = 0
    · have hlb := hx.2.len; rw [List.length_drop] at hlb; omega
    omega
theorem CalmV.fa {s : TypeId} {f k : Nat} {dx : τ.den} {dy : τ'.den} (hs : Sub τ dx k τ' dy) (hb : offB P s f k = true := by kernel_rfl) (hx : evV fl x = some (.p τ dx) := by rfl) : CalmV P fl σ (.fieldAddr s x f) (.p τ' dy) :=
  ⟨rfl, fun h S t hq _ => by
    have hp : RepP h S τ (evalO t x) dx := hq x (by simp [Op.operands]) _ hx; refine ⟨padd (evalO t x) k, ?_, fun _ _ _ _ _ H => ?_⟩
    · obtain ⟨b', o, e', rs, own, more, h1, h2, h3, h4, h5⟩ := hp; obtain ⟨h6, h7⟩ := hs.repC h5; rw [List.length_take, List.length_drop] at h6; refine ⟨b', o + k, e', rs, own, more, by rw [h1]; rfl, h2, h3, by omega, ?_⟩; rw [List.drop_take, List.take_take, List.drop_drop, Nat.min_eq_left (by omega)] at h7; exact h7
    show (runPure P (Instr.fieldAt s (evalO t x) f)).map _ = _
    rw [hp.fa hb]; rfl⟩
end Go.Fs
namespace Go.Fs
variable {P : Program} {orc : FuncId → List Value → Heap → Option (Value × Heap)} {rnd : Option Nat} {h h' h0 h1 h2 : Heap} {S S' S0 B G : List Nat} {σ σ' σr : Sto} {t t' : Tr} {ms : List Nat} {fl : VL} {ops : Array Oper} {n i mem : Nat} {l : List Oper} {K : VL → Sto → Prop} {Q : Ex → VL → Sto → Prop}
  {d : Tmp} {ty : TypeId} {pos : String} {after : Array Edge} {op : Op} {v pv : PV} {g : Option (Nat × Bool)} {x y z : Operand} {T T' e : TypeId} {τ τ' : Ty} {bs nw : List Nat} {segs : List (Nat × Nat × Nat)} {tail so : Bool} {w : Value}
theorem CalmV.ix {xs : List τ.den} {j : Nat} (hx : evV fl x = some (.v (.sl τ) xs)) (hy : evV fl y = some (.v (.int .i64) ((j : Nat) : Int))) (hT : ElT P T e τ) (hj : j < xs.length) : CalmV P fl σ (.indexAddr T x y) (.p τ xs[j]) :=
  ⟨rfl, fun h S t hs _ => by
    have h1 := RepV.sl (hs x (by simp [Op.operands]) _ hx : RepV h S (.sl τ) (evalO t x) xs); have h2 := RepV.int (hs y (by simp [Op.operands]) _ hy); refine ⟨_, h1.at hj, fun _ _ _ _ _ H => ?_⟩; show (if af (evalO t y) then (runPure P (Instr.indexAt T (evalO t x) (evalO t y))).map fun v => (v, H) else none) = _
    rw [h2, h1.ix hT hj]; rfl⟩
theorem CalmV.ixZ {xs : List τ.den} {k : Int} (hx : evV fl x = some (.v (.sl τ) xs)) (hy : evV fl y = some (.v (.int .i64) k)) (hT : ElT P T e τ) (h0 : 0 ≤ k) (hk : k < (xs.length : Nat)) : CalmV P fl σ (.indexAddr T x y) (.p τ (xs[k.toNat]'(by omega))) := by
  obtain ⟨j, rfl⟩ := Int.eq_ofNat_of_zero_le h0; exact CalmV.ix hx hy hT (by omega)
theorem CalmV.ixO {xs : List τ.den} {j : Nat} (hx : evV fl x = some (.raw w)) (hy : evV fl y = some (.v (.int .i64) ((j : Nat) : Int))) (hm : (w, Cell.row e τ xs) ∈ σ) (hT : ElT P T e τ) (hj : j < xs.length) : CalmV P fl σ (.indexAddr T x y) (.raw (ptrAt w τ.size j)) :=
  ⟨rfl, fun h S t hs hc => by
    have h1 : evalO t x = w := hs x (by simp [Op.operands]) _ hx; have h2 := RepV.int (hs y (by simp [Op.operands]) _ hy); refine ⟨_, rfl, fun _ _ _ _ _ H => ?_⟩; show (if af (evalO t y) then (runPure P (Instr.indexAt T (evalO t x) (evalO t y))).map fun v => (v, H) else none) = _; rcases hc _ hm with ⟨_, rfl⟩ | ⟨b, rs, m, h3, h4, h5, h6⟩
    · simp at hj
    have hg : GrowR h S 0 e m τ w xs := .inr ⟨b, rs, h4, Nat.zero_le _, h3, h5, h6⟩
    rw [h1, h2, hg.ix hT hj]; rfl⟩
theorem CalmV.ixOZ {xs : List τ.den} {k : Int} (hx : evV fl x = some (.raw w)) (hy : evV fl y = some (.v (.int .i64) k)) (hm : (w, Cell.row e τ xs) ∈ σ) (hT : ElT P T e τ) (h0 : 0 ≤ k) (hk : k < (xs.length : Nat)) : CalmV P fl σ (.indexAddr T x y) (.raw (ptrAt w τ.size k.toNat)) := by
  obtain ⟨j, rfl⟩ := Int.eq_ofNat_of_zero_le h0; exact CalmV.ixO hx hy hm hT (by omega)
theorem CalmV.faO {s : TypeId} {f k : Nat} {cs : List PV} (hm : (w, Cell.var cs) ∈ σ) (hb : offB P s f k = true := by kernel_rfl) (hx : evV fl x = some (.raw w) := by rfl) : CalmV P fl σ (.fieldAddr s x f) (.raw (padd w k)) :=
  ⟨rfl, fun h S t hs hc => by
    have h1 : evalO t x = w := hs x (by simp [Op.operands]) _ hx; obtain ⟨b, e, vs, h3, h4, h5, _⟩ := hc _ hm; have hB : BoxR h 0 w vs := ⟨b, e, h3, Nat.zero_le _, h5⟩; refine ⟨_, rfl, fun _ _ _ _ _ H => ?_⟩; show (runPure P (Instr.fieldAt s (evalO t x) f)).map _ = _
    rw [h1, hB.fa hb]; rfl⟩
theorem ReadV.ld {dx : τ.den} (hT : ValT P T τ) (hx : evV fl x = some (.p τ dx) := by rfl) : ReadV P fl σ (.load T x) (.v τ dx) :=
  ⟨rfl, fun h S t hs _ => by
    have hp : RepP h S τ (evalO t x) dx := hs x (by simp [Op.operands]) _ hx; refine ⟨_, hp.val, fun H hH _ _ _ _ _ => ?_⟩; have hp' : RepP H S τ (evalO t x) dx := hp.nx fun b o hg hb => ⟨hH b o hg, hb⟩
    have e1 : valAt H τ (evalO t x) = valAt h τ (evalO t x) := by
      obtain ⟨b, o, e, rs, own, more, h1, h2, h3, h4, h5⟩ := hp; rw [h1]; simp only [valAt, h3, hH b _ h3]
    show (fsLoad P T (evalO t x) H).map _ = _
    rw [(hp'.load' hT).1, e1]; rfl⟩
theorem ReadV.ldO {xs : List τ.den} {j : Nat} (hx : evV fl x = some (.raw (ptrAt w τ.size j))) (hm : (w, Cell.row T τ xs) ∈ σ) (hT : ValT P T τ) (hj : j < xs.length) : ReadV P fl σ (.load T x) (.v τ xs[j]) :=
  ⟨rfl, fun h S t hs hc => by
    have h1 : evalO t x = ptrAt w τ.size j := hs x (by simp [Op.operands]) _ hx; rcases hc _ hm with ⟨_, rfl⟩ | ⟨b, rs, m, h3, h4, h5, h6⟩
    · simp at hj
    have hg : GrowR h S 0 T m τ w xs := .inr ⟨b, rs, h4, Nat.zero_le _, h3, h5, h6⟩; refine ⟨_, (hg.ld hT hj).2, fun H hH _ _ _ _ _ => ?_⟩; have hg' : GrowR H S 0 T m τ w xs := .inr ⟨b, rs, h4, Nat.zero_le _, h3, hH b _ h5, h6.nx fun b o hg hb => ⟨hH b o hg, hb⟩⟩
    have e1 : valAt H τ (ptrAt w τ.size j) = valAt h τ (ptrAt w τ.size j) := by
      rw [show w = _ from h3]; simp only [ptrAt, valAt, h5, hH b _ h5]
    show (fsLoad P T (evalO t x) H).map _ = _
    rw [h1, (hg'.ld hT hj).1, e1]; rfl⟩
theorem ReadV.ldF {cs : List PV} {k : Nat} (hm : (w, Cell.var cs) ∈ σ) (hT : ValT P T τ) (ha : τ.agg = false := by rfl) (hk : cs[k]? = some v := by rfl) (hx : evV fl x = some (.raw (padd w k)) := by rfl) : ReadV P fl σ (.load T x) v :=
  ⟨rfl, fun h S t hs hc => by
    have h1 : evalO t x = padd w k := hs x (by simp [Op.operands]) _ hx; obtain ⟨b, e, vs, h3, h4, h5, h6, _⟩ := hc _ hm; obtain ⟨u, h7, h8⟩ := h6.get hk; refine ⟨u, h8, fun H hH _ _ _ _ _ => ?_⟩; have hB : BoxR H 0 w vs := ⟨b, e, h3, Nat.zero_le _, hH b _ h5⟩; show (fsLoad P T (evalO t x) H).map _ = _
    rw [h1, hB.ld1 hT ha h7]; rfl⟩
theorem ReadV.ldA {cs : List PV} {dx : τ.den} (hm : (w, Cell.var cs) ∈ σ) (hT : ValT P T τ) (hc : cs = cellsPV τ dx := by rfl) (ha : τ.agg = true := by rfl) (hx : evV fl x = some (.raw w) := by rfl) : ReadV P fl σ (.load T x) (.v τ dx) :=
  ⟨rfl, fun h S t hs hcc => by
    have h1 : evalO t x = w := hs x (by simp [Op.operands]) _ hx; obtain ⟨b, e, vs, h3, h4, h5, h6, _⟩ := hcc _ hm; rw [hc] at h6; have h7 := repC_cells h6; refine ⟨.agg vs.toArray, ⟨ha.symm, by simpa [Value.cells] using h7⟩, fun H hH _ _ _ _ _ => ?_⟩; have hB : BoxR H 0 w vs := ⟨b, e, h3, Nat.zero_le _, hH b _ h5⟩; show (fsLoad P T (evalO t x) H).map _ = _
    rw [h1, hB.ldA hT ha h7.len]; rfl⟩
theorem ReadV.len {xs : List τ.den} (hT : ElT P T e τ) (hx : evV fl x = some (.v (.sl τ) xs) := by rfl) : ReadV P fl σ (.call { callee := .builtin .len, args := #[x], argTypes := #[T] }) (.v (.int .i64) (xs.length : Nat)) :=
  ⟨rfl, fun h S t hs _ => by
    have h1 := RepV.sl (hs x (by simp [Op.operands, Call.operands]) _ hx : RepV h S (.sl τ) (evalO t x) xs); refine ⟨_, RepV.ofInt _ _, fun H _ _ _ _ _ _ => ?_⟩; show (fsLen P #[T] (evalO t x) H).map _ = _
    rw [h1.len hT]; rfl⟩
theorem ReadV.lenO {xs : List τ.den} (hm : (w, Cell.row e τ xs) ∈ σ) (hT : ElT P T e τ) (hx : evV fl x = some (.raw w) := by rfl) : ReadV P fl σ (.call { callee := .builtin .len, args := #[x], argTypes := #[T] }) (.v (.int .i64) (xs.length : Nat)) :=
  ⟨rfl, fun h S t hs hc => by
    have h1 : evalO t x = w := hs x (by simp [Op.operands, Call.operands]) _ hx; refine ⟨_, RepV.ofInt _ _, fun H _ _ _ _ _ _ => ?_⟩; show (fsLen P #[T] (evalO t x) H).map _ = _; rw [h1]; rcases hc _ hm with ⟨rfl, rfl⟩ | ⟨b, rs, m, h3, h4, h5, h6⟩
    · rw [SlV.len (h := h) (S := S) (τ := τ) hT SlV.nil]; rfl
    have hg : GrowR h S 0 e m τ w xs := .inr ⟨b, rs, h4, Nat.zero_le _, h3, h5, h6⟩
    rw [hg.len hT]; rfl⟩
theorem ReadV.lenS {s : ByteArray} (hT : P.underlying T = some .string := by kernel_rfl) (hx : evV fl x = some (.v .str s) := by rfl) : ReadV P fl σ (.call { callee := .builtin .len, args := #[x], argTypes := #[T] }) (.v (.int .i64) (s.size : Nat)) :=
  ⟨rfl, fun h S t hs _ => by
    have h1 := RepV.str (hs x (by simp [Op.operands, Call.operands]) _ hx); refine ⟨_, RepV.ofInt _ _, fun H _ _ _ _ _ _ => ?_⟩; show (fsLen P #[T] (evalO t x) H).map _ = _; rw [h1]
    simp [fsLen, hT]⟩
section
variable {p q r s : Int} {a : Array TypeId}
theorem CalmV.imax (hx : evV fl x = some (.v (.int .i64) p) := by rfl) (hy : evV fl y = some (.v (.int .i64) q) := by rfl) : CalmV P fl σ (.call { callee := .builtin .max, args := #[x, y], argTypes := a }) (.v (.int .i64) (Max.max p q)) :=
  ⟨rfl, fun h S t hs _ => by
    have h1 := RepV.int (hs x (by simp [Op.operands, Call.operands]) _ hx); have h2 := RepV.int (hs y (by simp [Op.operands, Call.operands]) _ hy); refine ⟨_, RepV.ofInt _ _, fun d ty pos after g H => ?_⟩; show (if [evalO t x, evalO t y].all af = true then (purely P (Builtin.max_ a ty [evalO t x, evalO t y].toArray)).map fun v => (v, H) else none) = _; rw [h1, h2]; have : (purely P (Builtin.max_ a ty [Value.int .i64 p, Value.int .i64 q].toArray)) = some (.int .i64 (if q > p then q else p)) := rfl
    rw [this, max_if]; rfl⟩
theorem CalmV.imin (hx : evV fl x = some (.v (.int .i64) p) := by rfl) (hy : evV fl y = some (.v (.int .i64) q) := by rfl) : CalmV P fl σ (.call { callee := .builtin .min, args := #[x, y], argTypes := a }) (.v (.int .i64) (Min.min p q)) :=
  ⟨rfl, fun h S t hs _ => by
    have h1 := RepV.int (hs x (by simp [Op.operands, Call.operands]) _ hx); have h2 := RepV.int (hs y (by simp [Op.operands, Call.operands]) _ hy); refine ⟨_, RepV.ofInt _ _, fun d ty pos after g H => ?_⟩; show (if [evalO t x, evalO t y].all af = true then (purely P (Builtin.min_ a ty [evalO t x, evalO t y].toArray)).map fun v => (v, H) else none) = _; rw [h1, h2]; have : (purely P (Builtin.min_ a ty [Value.int .i64 p, Value.int .i64 q].toArray)) = some (.int .i64 (if q < p then q else p)) := rfl; rw [this]
    have e : (if q < p then q else p) = Min.min p q := by rw [Int.min_def]; split <;> split <;> omega
    rw [e]; rfl⟩
end
theorem SlV.cutH {xs : List τ.den} {a b : Nat} {u : Value} {H : Heap} (hT : ElT P T e τ) (hv : SlV h S τ u xs) (hab : a ≤ b) (hb : b ≤ xs.length) (hH : ∀ b o, h.get b = some o → H.get b = some o) {lo hi : Option Value} (hl : boundOf lo 0 = some a) (hh : ∀ n, n = xs.length → boundOf hi n = some b) : fsSlice P T u lo hi none H = fsSlice P T u lo hi none h := by
  rcases hv with ⟨rfl, rfl⟩ | ⟨bl, o, mk, rfl, h2⟩
  · simp only [fsSlice, hT.sl.sl]
  obtain ⟨i, z, hinf, hsz, _⟩ := hT.sl.info
  have e1 : Nat.ble a b = true := by rw [Nat.ble_eq]; exact hab
  have e2 : Nat.ble b xs.length = true := by rw [Nat.ble_eq]; exact hb
  have hm : markOf e bl a mk H = markOf e bl a mk h := by
    unfold markOf; by_cases ha : a = 0
    · subst ha; rfl
    rcases h2 with rfl | ⟨_, e', rs, own, more, h3, _, _⟩
    · simp at hb; omega
    rw [h3, hH _ _ h3]
  simp only [fsSlice, hT.sl.sl, hinf, hl, hh _ rfl, e1, e2, Bool.and_self, cond_true, hm]
theorem ReadV.cut {xs : List τ.den} {a b : Int} {lo hi : Operand} (hx : evV fl x = some (.v (.sl τ) xs)) (hl : evV fl lo = some (.v (.int .i64) a)) (hh : evV fl hi = some (.v (.int .i64) b)) (hT : ElT P T e τ) (h0 : 0 ≤ a ∧ a ≤ b ∧ b ≤ (xs.length : Nat)) : ReadV P fl σ (.slice T x (some lo) (some hi) none) (.v (.sl τ) ((xs.take b.toNat).drop a.toNat)) :=
  ⟨rfl, fun h S t hs _ => by
    have h1 := RepV.sl (hs x (by simp [Op.operands]) _ hx : RepV h S (.sl τ) (evalO t x) xs); have h2 := RepV.int (hs lo (by simp [Op.operands]) _ hl); have h3 := RepV.int (hs hi (by simp [Op.operands]) _ hh); obtain ⟨u, e1, e2⟩ := h1.cut hT h0; refine ⟨u, e2.rep, fun H hH _ _ _ _ _ => ?_⟩; obtain ⟨a', rfl⟩ := Int.eq_ofNat_of_zero_le h0.1; obtain ⟨b', rfl⟩ := Int.eq_ofNat_of_zero_le (show 0 ≤ b by omega); have e3 := e1 h.next h.low; show (fsSlice P T (evalO t x) (some (evalO t lo)) (some (evalO t hi)) none H).map _ = _; rw [h2, h3, h1.cutH hT (a := a') (b := b') (by omega) (by omega) hH (by simp [boundOf]) (fun _ _ => by simp [boundOf])]
    rw [show h = { next := h.next, low := h.low, objs := h.objs } from rfl, e3]; rfl⟩
theorem ReadV.cutL {xs : List τ.den} {a : Int} {lo : Operand} (hx : evV fl x = some (.v (.sl τ) xs)) (hl : evV fl lo = some (.v (.int .i64) a)) (hT : ElT P T e τ) (h0 : 0 ≤ a ∧ a ≤ (xs.length : Nat)) : ReadV P fl σ (.slice T x (some lo) none none) (.v (.sl τ) (xs.drop a.toNat)) :=
  ⟨rfl, fun h S t hs _ => by
    have h1 := RepV.sl (hs x (by simp [Op.operands]) _ hx : RepV h S (.sl τ) (evalO t x) xs); have h2 := RepV.int (hs lo (by simp [Op.operands]) _ hl); obtain ⟨u, e1, e2⟩ := h1.cutL hT h0; refine ⟨u, e2.rep, fun H hH _ _ _ _ _ => ?_⟩; obtain ⟨a', rfl⟩ := Int.eq_ofNat_of_zero_le h0.1; have e3 := e1 h.next h.low; show (fsSlice P T (evalO t x) (some (evalO t lo)) none none H).map _ = _; rw [h2, h1.cutH hT (a := a') (b := xs.length) (by omega) (by omega) hH (by simp [boundOf]) (fun _ e => by simp [boundOf, e])]
    rw [show h = { next := h.next, low := h.low, objs := h.objs } from rfl, e3]; rfl⟩
theorem ReadV.cutH {xs : List τ.den} {b : Int} {hi : Operand} (hx : evV fl x = some (.v (.sl τ) xs)) (hh : evV fl hi = some (.v (.int .i64) b)) (hT : ElT P T e τ) (h0 : 0 ≤ b ∧ b ≤ (xs.length : Nat)) : ReadV P fl σ (.slice T x none (some hi) none) (.v (.sl τ) (xs.take b.toNat)) :=
  ⟨rfl, fun h S t hs _ => by
    have h1 := RepV.sl (hs x (by simp [Op.operands]) _ hx : RepV h S (.sl τ) (evalO t x) xs); have h3 := RepV.int (hs hi (by simp [Op.operands]) _ hh); obtain ⟨u, e1, e2⟩ := h1.cut hT (a := 0) (b := b) ⟨Int.le_refl _, h0⟩; rw [show (0 : Int).toNat = 0 from rfl, List.drop_zero] at e2; refine ⟨u, e2.rep, fun H hH _ _ _ _ _ => ?_⟩; obtain ⟨b', rfl⟩ := Int.eq_ofNat_of_zero_le h0.1; have e3 := e1 h.next h.low
    have e4 : fsSlice P T (evalO t x) none (some (.int .i64 (b' : Nat))) none h = fsSlice P T (evalO t x) (some (.int .i64 0)) (some (.int .i64 (b' : Nat))) none h := by
      rcases h1 with ⟨hu, _⟩ | ⟨bl, o, mk, hu, _⟩ <;> rw [hu] <;> simp only [fsSlice, hT.sl.sl, boundOf] <;> rfl
    show (fsSlice P T (evalO t x) none (some (evalO t hi)) none H).map _ = _; rw [h3, h1.cutH hT (a := 0) (b := b') (by omega) (by omega) hH (by simp [boundOf]) (fun _ _ => by simp [boundOf])]
    rw [e4, show h = { next := h.next, low := h.low, objs := h.objs } from rfl, e3]; rfl⟩
end Go.Fs
namespace Go.Fs
variable {P : Program} {orc : FuncId → List Value → Heap → Option (Value × Heap)} {rnd : Option Nat} {h h' h0 h1 h2 : Heap} {S S' S0 B G : List Nat} {σ σ' σr : Sto} {t t' : Tr} {ms : List Nat} {fl : VL} {ops : Array Oper} {n i mem : Nat} {l : List Oper} {K : VL → Sto → Prop} {Q : Ex → VL → Sto → Prop}
  {d : Tmp} {ty : TypeId} {pos : String} {after : Array Edge} {op : Op} {v pv : PV} {g : Option (Nat × Bool)} {x y z : Operand} {T T' e : TypeId} {τ τ' : Ty} {bs nw : List Nat} {segs : List (Nat × Nat × Nat)} {tail so : Bool} {w w' : Value} {c c' : Cell}
theorem own_cons : own ((w, c) :: σ) = blk w ++ own σ := rfl
theorem Made.head (L : Lc S0 h ((w, c) :: σ) t fl) (ha : Aft h h' (blk w)) (hn : ∀ b ∈ blk w', b ∈ blk w ∨ h.next ≤ b) (hd : (blk w').Nodup) (hc : Goes h (own ((w, c) :: σ) ++ S0) h' (own ((w', c') :: σ) ++ S0) → CellR h' (own ((w', c') :: σ) ++ S0) w' c') : Made S0 h h' ((w, c) :: σ) ((w', c') :: σ) := by
  have hap := L.apart; rw [own_cons] at hap; obtain ⟨hap1, hap2, hap3⟩ := List.nodup_append.1 hap
  have ha' : Aft h h' (own ((w, c) :: σ)) := ha.weak fun b hb => by rw [own_cons]; exact List.mem_append_left _ hb
  have hnew : ∀ b ∈ own ((w', c') :: σ), b ∈ own ((w, c) :: σ) ∨ h.next ≤ b := fun b hb => by
    rw [own_cons] at hb ⊢; rcases List.mem_append.1 hb with hb | hb
    · rcases hn b hb with h1 | h1
      · exact .inl (List.mem_append_left _ h1)
      exact .inr h1
    exact .inl (List.mem_append_right _ hb)
  have hN : Goes h (own ((w, c) :: σ) ++ S0) h' (own ((w', c') :: σ) ++ S0) := ha'.goes L.ok (fun b hb => List.mem_append_left _ hb) fun b hb => by
    rcases List.mem_append.1 hb with hb | hb
    · rcases hnew b hb with h1 | h1
      · exact .inl (List.mem_append_left _ h1)
      exact .inr h1
    exact .inl (List.mem_append_right _ hb)
  refine ⟨ha', hnew, ?_, fun d hd => ?_⟩
  · rw [own_cons]; refine List.nodup_append.2 ⟨hd, hap2, fun a h1 b h2 he => ?_⟩; subst he; rcases hn a h1 with h3 | h3
    · exact hap3 a h3 a h2 rfl
    have := L.lt a (List.mem_append_left _ (by rw [own_cons]; exact List.mem_append_right _ h2)); omega
  rcases List.mem_cons.1 hd with rfl | hd
  · exact hc hN
  refine (L.cells d (List.mem_cons_of_mem _ hd)).keep (fun b hb => ?_) hN fun b hb => List.mem_append_left _ (by rw [own_cons]; exact List.mem_append_right _ (List.mem_flatMap.2 ⟨d, hd, hb⟩)); have hbo : b ∈ own σ := List.mem_flatMap.2 ⟨d, hd, hb⟩; exact ha.get b (L.lt b (List.mem_append_left _ (by rw [own_cons]; exact List.mem_append_right _ hbo))) fun hm => hap3 b hm b hbo rfl
theorem Made.cons (L : Lc S0 h σ t fl) (ha : Aft h h' []) (hn : ∀ b ∈ blk w', h.next ≤ b) (hd : (blk w').Nodup) (hc : Goes h (own σ ++ S0) h' (own ((w', c') :: σ) ++ S0) → CellR h' (own ((w', c') :: σ) ++ S0) w' c') : Made S0 h h' σ ((w', c') :: σ) := by
  have ha' : Aft h h' (own σ) := ha.weak fun b hb => by cases hb
  have hnew : ∀ b ∈ own ((w', c') :: σ), b ∈ own σ ∨ h.next ≤ b := fun b hb => by
    rw [own_cons] at hb; rcases List.mem_append.1 hb with hb | hb
    · exact .inr (hn b hb)
    exact .inl hb
  have hN : Goes h (own σ ++ S0) h' (own ((w', c') :: σ) ++ S0) := ha.goes L.ok (fun b hb => by cases hb) fun b hb => by
    rcases List.mem_append.1 hb with hb | hb
    · rcases hnew b hb with h1 | h1
      · exact .inl (List.mem_append_left _ h1)
      exact .inr h1
    exact .inl (List.mem_append_right _ hb)
  refine ⟨ha', hnew, ?_, fun d hd => ?_⟩
  · rw [own_cons]; refine List.nodup_append.2 ⟨hd, L.apart, fun a h1 b h2 he => ?_⟩; subst he; have := hn a h1; have := L.lt a (List.mem_append_left _ h2); omega
  rcases List.mem_cons.1 hd with rfl | hd
  · exact hc hN
  exact (L.cells d hd).keep (fun b hb => ha.get b (L.lt b (List.mem_append_left _ (List.mem_flatMap.2 ⟨d, hd, hb⟩))) (by simp)) hN fun b hb => List.mem_append_left _ (by rw [own_cons]; exact List.mem_append_right _ (List.mem_flatMap.2 ⟨d, hd, hb⟩))
theorem Made.same (L : Lc S0 h σ t fl) (ha : Aft h h' []) : Made S0 h h' σ σ := by
  have hN : Goes h (own σ ++ S0) h' (own σ ++ S0) := ha.goes L.ok (fun b hb => by cases hb) fun b hb => .inl hb; exact ⟨ha.weak (fun b hb => by cases hb), fun b hb => .inl hb, L.apart, fun c hc => (L.cells c hc).keep (fun b hb => ha.get b (L.lt b (List.mem_append_left _ (List.mem_flatMap.2 ⟨c, hc, hb⟩))) (by simp)) hN fun b hb => List.mem_append_left _ (List.mem_flatMap.2 ⟨c, hc, hb⟩)⟩
theorem row_grow (hT : ElT P T e τ) (hT' : ElT P T' e τ) {u : Value} {news : List Value} {xs ys : List τ.den} (hok : HOk h) (hg : CellR h S w (.row e τ xs)) 
    (hap : ∀ i z, i.size = τ.size → z.cells.toList.all af0 = true → appended i z (isInt (.slice e)) u h = some (ys.length, news)) (hy : Elems h S τ news ys) (hk0 : 0 < ys.length) (hsz : xs.length + ys.length ≤ 1000000) :
    ∃ h' rs, fsAppend P #[T, T'] w u h = some (.slice (some ⟨h.next, 0, none⟩) (xs.length + ys.length) 0, h') ∧ Aft h h' (blk w) ∧ h'.get h.next = some (.row e rs true true) ∧ (∀ S', Goes h S h' S' → Elems h' S' τ rs (xs ++ ys)) := by
  obtain ⟨i, z, hi1, hi2, hi3, hi3', hi4, hi5, hi6⟩ := hT.sl.info; have hone : news.all oneCell = true := hy.allOne; have hnl : news.length = ys.length * τ.size := hy.1
  have hbytes : (xs.length + ys.length) * i.bytes ≤ 274877906944 := by
    have := Nat.mul_le_mul hsz hi3'; omega
  unfold fsAppend; simp only [List.getElem?_toArray, List.getElem?_cons_zero, List.getElem?_cons_succ, hT.sl.sl, hT'.sl.sl, hi1, hi4, hap i z hi2 hi6, hi2]
  have hc : (Nat.blt 0 τ.size && Nat.blt 0 i.bytes && Nat.beq news.length (ys.length * τ.size) && news.all oneCell && Nat.beq z.cells.size τ.size) = true := by
    have e1 : Nat.blt 0 τ.size = true := by show Nat.ble 1 τ.size = true; rw [Nat.ble_eq]; exact hT.sl.pos
    have e2 : Nat.blt 0 i.bytes = true := by show Nat.ble 1 i.bytes = true; rw [Nat.ble_eq]; exact hi3
    rw [e1, e2, hnl, Nat.beq_refl, hone, hi5, Nat.beq_refl]; rfl
  rw [hc]; simp only [cond_true]; have e0 : Nat.beq ys.length 0 = false := beq_no (by omega); rcases hg with ⟨rfl, rfl⟩ | ⟨b0, rs, m, rfl, hb0, hrow, hel⟩
  · refine ⟨h.push (.row e news true true), news, ?_, Aft.push h _ _, by rw [Heap.get_push, if_pos rfl], fun S' hN => by rw [List.nil_append]; exact hy.nx hN⟩; unfold fsGrow
    have e2 : Nat.ble (ys.length * i.bytes) 274877906944 = true := by rw [Nat.ble_eq]; simpa using hbytes
    simp only [e0, cond_false, e2, cond_true, grown, List.length_nil, Nat.zero_add]
  have hrl := hel.1; have hks : 0 < ys.length * τ.size := Nat.mul_pos hk0 hT.sl.pos; have hadd : (xs.length + ys.length) * τ.size = xs.length * τ.size + ys.length * τ.size := Nat.add_mul _ _ _
  have e1 : (Nat.beq ys.length 0 && Nat.beq 0 1) = false := by rw [e0]; rfl
  have e2 : Nat.beq e e = true := Nat.beq_refl _
  have e3 : Nat.ble ((xs.length + ys.length) * i.bytes) 274877906944 = true := by rw [Nat.ble_eq]; exact hbytes
  have e4 : Nat.ble (0 + xs.length * i.size) rs.length = true := by rw [Nat.ble_eq, hi2]; omega
  have e5 : Nat.ble (0 + (xs.length + ys.length) * i.size) rs.length = false := by
    cases hx : Nat.ble (0 + (xs.length + ys.length) * i.size) rs.length with
    | false => rfl
    | true => have := nble hx; rw [hi2] at this; omega
  have e6 : Nat.beq (xs.length * i.size) rs.length = true := by rw [hi2, hrl]; exact Nat.beq_refl _
  have e7 : Nat.beq 0 1 = false := rfl; have e8 : Nat.beq 0 0 = true := rfl; have hlt0 := hok b0 _ hrow; have hbk : blk (.slice (some ⟨b0, 0, none⟩) xs.length 0) = [b0] := rfl
  cases m with
  | true =>
    refine ⟨(h.drop b0).push (.row e (rs ++ news) true true), rs ++ news, ?_, (Aft.drop (B := blk _) (by rw [hbk]; simp)).trans (Aft.push (h.drop b0) _ []) (fun i hi => by cases hi), ?_, fun S' hN => (hel.append hy).nx hN⟩
    · unfold fsGrow; simp only [hrow, e1, cond_false, e2, e3, e4, Bool.and_self, cond_true, e7, e8, e5, Bool.not_true, e6, grown, Bool.true_and, Bool.and_false]; rfl
    have : (h.drop b0).next = h.next := rfl
    rw [Heap.get_push, if_pos this.symm]
  | false =>
    refine ⟨h.push (.row e (rs ++ news) true true), rs ++ news, ?_, Aft.push h _ _, by rw [Heap.get_push, if_pos rfl], fun S' hN => (hel.append hy).nx hN⟩; unfold fsGrow
    have e9 : (rs.drop 0).take (xs.length * i.size) = rs := by rw [List.drop_zero, hi2, ← hrl, List.take_length]
    simp only [hrow, e1, cond_false, e2, e3, e4, Bool.and_self, cond_true, e7, e8, e5, Bool.not_false, grown, Bool.true_and, Bool.and_false, e9]
theorem row_grow0 (hT : ElT P T e τ) (hT' : ElT P T' e τ) {u : Value} {xs : List τ.den} (hg : CellR h S w (.row e τ xs)) (hw : SlV h S τ u []) (hsz : xs.length ≤ 1000000) : fsAppend P #[T, T'] w u h = some (w, h) := by
  obtain ⟨i, z, hi1, hi2, hi3, hi3', hi4, hi5, hi6⟩ := hT.sl.info
  have hap : appended i z (isInt (.slice e)) u h = some (0, []) := by
    rcases hw with ⟨rfl, _⟩ | ⟨b, o, mk, rfl, _⟩
    · simp [appended, isInt, lenV, cellsOf]
    simp only [appended, isInt, cond_false, lenV, cellsOf, List.length_nil]; have e1 : Nat.ble 0 0 = true := rfl; simp [e1, cond_true, Nat.zero_mul]
  unfold fsAppend; simp only [List.getElem?_toArray, List.getElem?_cons_zero, List.getElem?_cons_succ, hT.sl.sl, hT'.sl.sl, hi1, hi4, hap, hi2]
  have hc : (Nat.blt 0 τ.size && Nat.blt 0 i.bytes && Nat.beq ([] : List Value).length (0 * τ.size) && ([] : List Value).all oneCell && Nat.beq z.cells.size τ.size) = true := by
    have e1 : Nat.blt 0 τ.size = true := by show Nat.ble 1 τ.size = true; rw [Nat.ble_eq]; exact hT.sl.pos
    have e2 : Nat.blt 0 i.bytes = true := by show Nat.ble 1 i.bytes = true; rw [Nat.ble_eq]; exact hi3
    rw [e1, e2, hi5, Nat.beq_refl, Nat.zero_mul]; rfl
  rw [hc]; simp only [cond_true]; rcases hg with ⟨rfl, rfl⟩ | ⟨b0, rs, m, rfl, hb0, hrow, hel⟩
  · rfl
  have hrl := hel.1
  have hbytes : (xs.length + 0) * i.bytes ≤ 274877906944 := by
    have := Nat.mul_le_mul (show xs.length + 0 ≤ 1000000 from by simpa using hsz) hi3'; omega
  have e2 : Nat.beq e e = true := Nat.beq_refl _
  have e3 : Nat.ble ((xs.length + 0) * i.bytes) 274877906944 = true := by rw [Nat.ble_eq]; exact hbytes
  have e4 : Nat.ble (0 + xs.length * i.size) rs.length = true := by rw [Nat.ble_eq, hi2]; omega
  have e5 : Nat.ble (0 + (xs.length + 0) * i.size) rs.length = true := by rw [Nat.ble_eq, hi2]; simp only [Nat.add_zero]; omega
  have e7 : Nat.beq 0 1 = false := rfl; have e8 : Nat.beq 0 0 = true := rfl; unfold fsGrow; simp only [hrow, e2, e3, e4, Bool.and_self, cond_true, e7, e8, e5, Bool.true_and, cond_false, Bool.and_false, Bool.and_true]; simp only [Nat.add_zero] at e3 e4 e5 ⊢
  try simp only [e3, cond_true]
theorem MakeV.app {xs ys : List τ.den} (hT : ElT P T e τ) (hT' : ElT P T' e τ) (hx : evV fl x = some (.raw w)) (hy : evV fl y = some (.v (.sl τ) ys)) (hsz : xs.length + ys.length ≤ 1000000) :
    MakeV P fl ((w, .row e τ xs) :: σ) (.call { callee := .builtin .append, args := #[x, y], argTypes := #[T, T'] }) fun v σ' => ∃ w', v = .raw w' ∧ σ' = (w', .row e τ (xs ++ ys)) :: σ :=
  ⟨rfl, fun S0 h t L => by
    have h1 : evalO t x = w := evV_ok L.slots hx; have h2 := RepV.sl (evV_ok L.slots hy : RepV h _ (.sl τ) (evalO t y) ys); have hc := L.cells _ List.mem_cons_self
    have hst : ∀ u h', fsAppend P #[T, T'] w (evalO t y) h = some (u, h') → ∀ (d : Option Tmp) (ty : TypeId) (pos : String) (after : Array Edge) (g : Option (Nat × Bool)), stepO P ⟨d, .call { callee := .builtin .append, args := #[x, y], argTypes := #[T, T'] }, ty, pos, after, g⟩ (evalO t) h = some (u, h') := fun u h' e _ _ _ _ _ => by
      show fsAppend P #[T, T'] (evalO t x) (evalO t y) h = _; rw [h1, e]
    by_cases hp : 0 < ys.length
    · obtain ⟨b, o, mk, e', rs, ow, more, hu, hb, hr, hl, hel⟩ := h2.row hp; have hpos := hT.sl.pos; have hks : 0 < ys.length * τ.size := Nat.mul_pos hp hpos
      have hne : Elems h (own ((w, .row e τ xs) :: σ) ++ S0) τ ((rs.drop o).take (ys.length * τ.size)) ys := ⟨by rw [List.length_take, List.length_drop]; omega, fun i hi => by
        have h2 : (i + 1) * τ.size ≤ ys.length * τ.size := Nat.mul_le_mul_right _ hi; rw [Nat.add_mul] at h2; have := hel i hi; rw [List.drop_take, List.take_take, List.drop_drop, Nat.min_eq_left (by omega)]
        exact this⟩
      obtain ⟨h', rs', e1, e2, e3, e4⟩ := row_grow hT hT' L.ok hc (u := evalO t y) (news := (rs.drop o).take (ys.length * τ.size)) (fun i z h1 _ => by rw [hu]; exact appended_row (e := e') h1 (by omega) hr (Nat.le_refl _) hl rfl rfl) hne hp hsz; refine ⟨_, h', .raw (.slice (some ⟨h.next, 0, none⟩) (xs.length + ys.length) 0), _, ⟨_, rfl, rfl⟩, Made.head L e2 (fun b hb => .inr (by simp [blk] at hb; omega)) (by simp [blk]) fun hN => ?_, rfl, hst _ _ e1⟩; exact .inr ⟨h.next, rs', true, by rw [List.length_append], List.mem_append_left _ (by rw [own_cons]; simp [blk]), e3, e4 _ hN⟩
    obtain rfl : ys = [] := List.eq_nil_of_length_eq_zero (by omega); refine ⟨w, h, .raw w, _, ⟨w, rfl, rfl⟩, ?_, rfl, hst _ _ (row_grow0 hT hT' hc h2 (by simpa using hsz))⟩; rw [List.append_nil]
    exact Made.same L (Aft.refl _ _)⟩
theorem VO.app {xs ys : List τ.den} (hx : evV fl x = some (.raw w)) (hy : evV fl y = some (.v (.sl τ) ys)) (hT : ElT P T e τ) (hT' : ElT P T' e τ) (hsz : xs.length + ys.length ≤ 1000000) (hk : ∀ w', VO P orc ops n l ((d, .raw w') :: fl) ((w', .row e τ (xs ++ ys)) :: σ) K)
    (hw : wantV ops fl g = some true := by rfl) (hn : (Nat.blt d n && Nat.ble n 4000) = true := by rfl) :
    VO P orc ops n (⟨some d, .call { callee := .builtin .append, args := #[x, y], argTypes := #[T, T'] }, ty, pos, after, g⟩ :: l) fl ((w, .row e τ xs) :: σ) K :=
  VO.mk (MakeV.app hT hT' hx hy hsz) (by rintro _ _ ⟨w', rfl, rfl⟩; exact hk w') hw hn
theorem MakeV.setE {xs : List τ.den} {dx : τ.den} {j : Nat} (hT : ValT P T τ) (hj : j < xs.length) (hx : evV fl x = some (.raw (ptrAt w τ.size j))) (hy : evV fl y = some (.v τ dx)) :
    MakeV P fl ((w, .row T τ xs) :: σ) (.store T x y) fun v σ' => v = .raw undef ∧ σ' = (w, .row T τ (xs.set j dx)) :: σ :=
  ⟨rfl, fun S0 h t L => by
    have h1 : evalO t x = ptrAt w τ.size j := evV_ok L.slots hx; have hu := (evV_ok L.slots hy : RepV h _ τ (evalO t y) dx); rcases L.cells _ List.mem_cons_self with ⟨_, rfl⟩ | ⟨b, rs, m, h3, h4, h5, h6⟩
    · simp at hj
    have hw : w = _ := h3; have hjs : (j + 1) * τ.size ≤ xs.length * τ.size := Nat.mul_le_mul_right _ hj; rw [Nat.add_mul, Nat.one_mul] at hjs; have hrl := h6.1; obtain ⟨i, hi, hs⟩ := hT.info; have hul : (evalO t y).cells.toList.length = τ.size := hu.2.len
    have hbk : blk w = [b] := by rw [hw]; rfl
    refine ⟨undef, h.set b (.row T (splice rs (j * τ.size) (evalO t y).cells.toList) true m), .raw undef, _, ⟨rfl, rfl⟩, Made.head L (Aft.set h5 (by rw [hbk]; simp)) (fun b hb => .inl hb) (by rw [hbk]; simp) fun hN => ?_, rfl, fun _ _ _ _ _ => ?_⟩
    · refine .inr ⟨b, _, m, by rw [List.length_set]; exact h3, ?_, by rw [Heap.get_set h5, if_pos rfl], (elems_set h6 hj hu.2).nx hN⟩; rw [own_cons]; exact List.mem_append_left _ (List.mem_append_left _ (by rw [hbk]; simp))
    show (fsStore P T (evalO t x) (evalO t y) h).map _ = _
    have : fsStore P T (evalO t x) (evalO t y) h = some (h.set b (.row T (splice rs (j * τ.size) (evalO t y).cells.toList) true m)) := by
      rw [h1, hw]; simp only [fsStore, ptrAt, h5, hi, hs, hul, hu.2.allOne, Nat.zero_add]; rw [if_pos ⟨trivial, by omega, trivial⟩]
    rw [this]; rfl⟩
theorem VO.setE {xs : List τ.den} {dx : τ.den} (j : Nat) (hx : evV fl x = some (.raw (ptrAt w τ.size j))) (hy : evV fl y = some (.v τ dx)) (hT : ValT P T τ) (hj : j < xs.length) (hk : VO P orc ops n l fl ((w, .row T τ (xs.set j dx)) :: σ) K) (hw : wantV ops fl g = some true := by rfl) :
    VO P orc ops n (⟨none, .store T x y, ty, pos, after, g⟩ :: l) fl ((w, .row T τ xs) :: σ) K :=
  VO.mk0 (MakeV.setE hT hj hx hy) (by rintro _ _ ⟨rfl, rfl⟩; exact hk) hw
theorem RepL.take : ∀ {l : List PV} {us : List Value} (k : Nat), RepL h S l us → RepL h S (l.take k) (us.take k)
  | [], us, k, hx => by rw [show us = [] from hx]; simp [RepL]
  | p :: ps, us, 0, hx => by simp [RepL]
  | p :: ps, us, k + 1, ⟨u, r, h1, h2, h3⟩ => by subst h1; exact ⟨u, r.take k, rfl, h2, RepL.take k h3⟩
theorem RepL.drop : ∀ {l : List PV} {us : List Value} (k : Nat), RepL h S l us → RepL h S (l.drop k) (us.drop k)
  | [], us, k, hx => by rw [show us = [] from hx]; simp [RepL]
  | p :: ps, us, 0, hx => hx
  | p :: ps, us, k + 1, ⟨u, r, h1, h2, h3⟩ => by subst h1; exact RepL.drop k h3
def spl (l : List PV) (o : Nat) (new : List PV) : List PV := l.take o ++ (new ++ l.drop (o + new.length))
theorem RepL.spl {l new : List PV} {us vs : List Value} (o : Nat) (hl : RepL h S l us) (hn : RepL h S new vs) : RepL h S (spl l o new) (splice us o vs) := by
  unfold Fs.spl splice; rw [List.append_assoc, ← hn.len]; exact (hl.take o).append (hn.append (hl.drop _))
theorem allOne_spl {us vs : List Value} (o : Nat) (h1 : us.all oneCell = true) (h2 : vs.all oneCell = true) : (splice us o vs).all oneCell = true := by
  unfold splice; rw [List.all_append, List.all_append, h2]; have a1 : (us.take o).all oneCell = true := List.all_eq_true.2 fun x hx => List.all_eq_true.1 h1 x (List.mem_of_mem_take hx); have a2 : (us.drop (o + vs.length)).all oneCell = true := List.all_eq_true.2 fun x hx => List.all_eq_true.1 h1 x (List.mem_of_mem_drop hx); rw [a1, a2]; rfl
def PV.one : PV → Bool
  | .v τ _ => !τ.agg
  | .raw u => oneCell u
  | .p _ _ => true
  | .clo _ _ _ => true
  | _ => false
theorem onePV_ok : ∀ {p : PV} {u : Value}, p.one = true → RepPV h S p u → oneCell u = true
  | .v τ x, u, h1, hu => by
    have ha : τ.agg = false := by simpa [PV.one] using h1
    have h2 := hu.2.allOne; rw [cells_one (hu.1.trans ha)] at h2
    simpa using h2
  | .raw w, u, h1, hu => by
    obtain rfl : u = w := hu
    exact h1
  | .p τ x, u, _, hu => by
    obtain ⟨b, o, e, rs, own, more, rfl, _⟩ := hu
    rfl
  | .clo f a c, u, _, hu => by
    obtain ⟨va, vc, rfl, _⟩ := hu; rfl
theorem onePV_all : ∀ {cs : List PV} {us : List Value}, cs.all PV.one = true → RepL h S cs us → us.all oneCell = true
  | [], us, _, hu => by rw [show us = [] from hu]; rfl
  | p :: ps, us, h1, ⟨u, r, h2, h3, h4⟩ => by
    rw [List.all_cons, Bool.and_eq_true] at h1; rw [h2, List.all_cons, onePV_ok h1.1 h3, onePV_all h1.2 h4]; rfl
inductive CellsOf : Ty → PV → List PV → Prop where
  | v {τ : Ty} {x : τ.den} : CellsOf τ (.v τ x) (cellsPV τ x)
  | raw {τ : Ty} {u : Value} (ha : τ.agg = false) (h1 : isAggV u = false) (h2 : oneCell u = true) : CellsOf τ (.raw u) [.raw u]
  | clo {τ : Ty} {f : FuncId} {a c : List PV} (ha : τ.agg = false) : CellsOf τ (.clo f a c) [.clo f a c]
  | p {τ τ' : Ty} {x : τ'.den} (ha : τ.agg = false) : CellsOf τ (.p τ' x) [.p τ' x]
  | agg {τ : Ty} {us : List Value} {cs : List PV} (hl : us.length = τ.size) (h1 : us.all oneCell = true) (hr : ∀ h S, RepL h S cs us) : CellsOf τ (.raw (.agg us.toArray)) cs
  | aggs {τ : Ty} {cs : List PV} (hl : cs.length = τ.size) (h1 : cs.all PV.one = true) : CellsOf τ (.agg cs) cs
theorem CellsOf.ok {p : PV} {cs : List PV} (hc : CellsOf τ p cs) {u : Value} (hu : RepPV h S p u) : RepL h S cs u.cells.toList ∧ u.cells.toList.length = τ.size ∧ u.cells.toList.all oneCell = true := by
  cases hc with
  | v =>
    have hr := hu.2
    exact ⟨cells_repC hr, hr.len, hr.allOne⟩
  | raw ha h1 h2 =>
    obtain rfl : u = _ := hu; rw [cells_one h1]
    exact ⟨⟨u, [], rfl, rfl, rfl⟩, by rw [Ty.size_one ha]; rfl, by simp [h2]⟩
  | clo ha =>
    have hu' := hu; obtain ⟨va, vc, rfl, _⟩ := hu
    exact ⟨⟨_, [], rfl, hu', rfl⟩, by rw [Ty.size_one ha]; rfl, rfl⟩
  | p ha =>
    have hu' := hu; obtain ⟨b, o, e, rs, own, more, rfl, _⟩ := hu
    exact ⟨⟨_, [], rfl, hu', rfl⟩, by rw [Ty.size_one ha]; rfl, rfl⟩
  | agg hl h1 hr =>
    obtain rfl : u = _ := hu
    exact ⟨hr h S, hl, h1⟩
  | aggs hl h1 =>
    obtain ⟨vs, rfl, h2⟩ := hu; exact ⟨h2, by rw [← hl]; exact h2.len, onePV_all h1 h2⟩
theorem MakeV.setF {cs new : List PV} {p : PV} {k : Nat} {q : Value} (hT : ValT P T τ) (hp : CellsOf τ p new) (hkl : k + τ.size ≤ cs.length) (hq : q = padd w k ∨ (k = 0 ∧ q = w)) (hx : evV fl x = some (.raw q)) (hy : evV fl y = some p) :
    MakeV P fl ((w, .var cs) :: σ) (.store T x y) fun v σ' => v = .raw undef ∧ σ' = (w, .var (spl cs k new)) :: σ :=
  ⟨rfl, fun S0 h t L => by
    have h1 : evalO t x = q := evV_ok L.slots hx; obtain ⟨hu1, hu2, hu3⟩ := hp.ok (evV_ok L.slots hy); obtain ⟨b, e, vs, h3, h4, h5, h6, h7⟩ := L.cells _ List.mem_cons_self; have hw : w = _ := h3; have hvl := h6.len; obtain ⟨i, hi, hs⟩ := hT.info
    have hbk : blk w = [b] := by rw [hw]; rfl
    refine ⟨undef, h.set b (.row e (splice vs k (evalO t y).cells.toList) true false), .raw undef, _, ⟨rfl, rfl⟩, Made.head L (Aft.set h5 (by rw [hbk]; simp)) (fun b hb => .inl hb) (by rw [hbk]; simp) fun hN => ?_, rfl, fun _ _ _ _ _ => ?_⟩
    · refine ⟨b, e, _, h3, ?_, by rw [Heap.get_set h5, if_pos rfl], (h6.spl k hu1).nx hN, allOne_spl k h7 hu3⟩; rw [own_cons]; exact List.mem_append_left _ (List.mem_append_left _ (by rw [hbk]; simp))
    show (fsStore P T (evalO t x) (evalO t y) h).map _ = _
    have hqq : q = .pointer (some ⟨b, k, none⟩) := by
      rcases hq with hq | ⟨hk0, hq⟩
      · rw [hq, hw]; simp [padd]
      rw [hq, hw, hk0]
    have : fsStore P T (evalO t x) (evalO t y) h = some (h.set b (.row e (splice vs k (evalO t y).cells.toList) true false)) := by
      rw [h1, hqq]; simp only [fsStore, h5, hi, hs, hu2, hu3]; rw [if_pos ⟨trivial, by omega, trivial⟩]
    rw [this]; rfl⟩
theorem VO.setF {cs new cs' : List PV} {p : PV} (k : Nat) (hT : ValT P T τ) (hp : CellsOf τ p new) (hk : VO P orc ops n l fl ((w, .var cs') :: σ) K) (hkl : Nat.ble (k + τ.size) cs.length = true := by rfl) (hx : evV fl x = some (.raw (padd w k)) := by rfl) (hy : evV fl y = some p := by rfl) (hc : spl cs k new = cs' := by rfl) (hw : wantV ops fl g = some true := by rfl) :
    VO P orc ops n (⟨none, .store T x y, ty, pos, after, g⟩ :: l) fl ((w, .var cs) :: σ) K :=
  VO.mk0 (MakeV.setF hT hp (nble hkl) (.inl rfl) hx hy) (by rintro _ _ ⟨rfl, rfl⟩; rw [hc]; exact hk) hw
theorem VO.setV {cs new cs' : List PV} {p : PV} (hT : ValT P T τ) (hp : CellsOf τ p new) (hk : VO P orc ops n l fl ((w, .var cs') :: σ) K) (hkl : Nat.ble (0 + τ.size) cs.length = true := by rfl) (hx : evV fl x = some (.raw w) := by rfl) (hy : evV fl y = some p := by rfl) (hc : spl cs 0 new = cs' := by rfl) (hw : wantV ops fl g = some true := by rfl) :
    VO P orc ops n (⟨none, .store T x y, ty, pos, after, g⟩ :: l) fl ((w, .var cs) :: σ) K :=
  VO.mk0 (MakeV.setF hT hp (nble hkl) (.inr ⟨rfl, rfl⟩) hx hy) (by rintro _ _ ⟨rfl, rfl⟩; rw [hc]; exact hk) hw
end Go.Fs
namespace Go.Fs
variable {P : Program} {orc : FuncId → List Value → Heap → Option (Value × Heap)} {rnd : Option Nat} {h h' h0 h1 h2 : Heap} {S S' S0 B G : List Nat} {σ σ' σr : Sto} {t t' : Tr} {ms : List Nat} {fl : VL} {ops : Array Oper} {n i mem : Nat} {l : List Oper} {K : VL → Sto → Prop} {Q : Ex → VL → Sto → Prop}
  {d : Tmp} {ty : TypeId} {pos : String} {after : Array Edge} {op : Op} {v pv : PV} {g : Option (Nat × Bool)} {x y z : Operand} {T T' e : TypeId} {τ τ' : Ty} {bs nw : List Nat} {segs : List (Nat × Nat × Nat)} {tail so : Bool} {w w' : Value} {c c' : Cell}
def FreshV (P : Program) (fl : VL) (op : Op) (v : PV) : Prop := calm op = false ∧ ∀ (h : Heap) (S : List Nat) (t : Tr), Sees h S t fl op → HOk h → (∀ b ∈ S, b < h.next) →
  ∃ (mk : Nat → Value) (o : AObj), RepPV (h.push o) S v (mk h.next) ∧ ∀ (H : Heap) (d : Option Tmp) (ty : TypeId) (pos : String) (after : Array Edge) (g : Option (Nat × Bool)), stepO P ⟨d, op, ty, pos, after, g⟩ (evalO t) H = some (mk H.next, H.push o)
def FreshO (P : Program) (fl : VL) (op : Op) (c : Cell) : Prop := calm op = false ∧ ∀ (h : Heap) (S : List Nat) (t : Tr), Sees h S t fl op → HOk h → (∀ b ∈ S, b < h.next) →
  ∃ (mk : Nat → Value) (o : AObj), (∀ k, blk (mk k) = [k]) ∧ (∀ S', Goes h S (h.push o) S' → h.next ∈ S' → CellR (h.push o) S' (mk h.next) c) ∧ ∀ (H : Heap) (d : Option Tmp) (ty : TypeId) (pos : String) (after : Array Edge) (g : Option (Nat × Bool)), stepO P ⟨d, op, ty, pos, after, g⟩ (evalO t) H = some (mk H.next, H.push o)
theorem VO.new (hs : FreshV P fl op v) (hk : VO P orc ops n l ((d, v) :: fl) σ K) (hw : wantV ops fl g = some true := by rfl) (hn : (Nat.blt d n && Nat.ble n 4000) = true := by rfl) : VO P orc ops n (⟨some d, op, ty, pos, after, g⟩ :: l) fl σ K := fun h0 G S0 t h ms I => by
  have L := I.lc; obtain ⟨mk, o, e1, e2⟩ := hs.2 h _ t I.slots.sees I.ok L.lt; obtain ⟨n1, n2⟩ := fits hn; exact EvO.op (want_ok I.slots hw) (e2 h _ _ _ _ _) (put_fits n1 t _) (hk h0 G S0 _ _ ms ((I.calm (Aft.push h o [])).set e1 n2))
theorem VO.cell (hs : FreshO P fl op c) (hk : ∀ w, VO P orc ops n l ((d, .raw w) :: fl) ((w, c) :: σ) K) (hw : wantV ops fl g = some true := by rfl) (hn : (Nat.blt d n && Nat.ble n 4000) = true := by rfl) : VO P orc ops n (⟨some d, op, ty, pos, after, g⟩ :: l) fl σ K := fun h0 G S0 t h ms I => by
  have L := I.lc; obtain ⟨mk, o, e0, e1, e2⟩ := hs.2 h _ t I.slots.sees I.ok L.lt; obtain ⟨n1, n2⟩ := fits hn; have m : Made S0 h (h.push o) σ ((mk h.next, c) :: σ) := Made.cons L (Aft.push h o []) (fun b hb => by rw [e0] at hb; simp at hb; omega) (by rw [e0]; simp) fun hN => e1 _ hN (by rw [own_cons, e0]; simp); exact EvO.op (want_ok I.slots hw) (e2 h _ _ _ _ _) (put_fits n1 t _) (hk (mk h.next) h0 G S0 _ _ ms ((I.made m).set (show RepPV _ _ (.raw (mk h.next)) (mk h.next) from rfl) n2))
theorem look_mem : ∀ {L : List (Nat × AObj)} {k : Nat} {o : AObj}, (k, o) ∈ L → ∃ o', look L k = some o'
  | [], _, _, h => by cases h
  | (k', o') :: r, k, o, h => by
    by_cases hkk : k' = k
    · exact ⟨o', by simp [look, hkk]⟩
    rcases List.mem_cons.1 h with h | h
    · simp only [Prod.mk.injEq] at h; exact absurd h.1.symm hkk
    obtain ⟨o2, h2⟩ := look_mem h; exact ⟨o2, by simp only [look, beq_no hkk, cond_false, h2]⟩
theorem newer_push {m : Nat} {L : List (Nat × AObj)} {o : AObj} (hL : ∀ b o, look L b = some o → b < m) : newer m (m + 1) ((m, o) :: L) = [(m, o)] := by
  unfold newer; rw [beq_no (show m ≠ m + 1 by omega)]; simp only [cond_false]; rw [List.filter_cons]
  have e1 : inside m (m + 1) (m, o) = true := by
    unfold inside
    have : Nat.blt m (m + 1) = true := by show Nat.ble (m + 1) (m + 1) = true; exact ble_refl' _
    simp only [ble_refl', this, Bool.and_self]
  rw [if_pos e1]; congr 1; refine List.filter_eq_nil_iff.2 fun p hp hin => ?_; obtain ⟨k, o2⟩ := p
  have hk1 : m ≤ k := by
    unfold inside at hin; exact nble (band hin).1
  obtain ⟨o', ho'⟩ := look_mem hp; have := hL k o' ho'; omega
theorem draw_fresh {b : Nat} {o : Oper} {ob : AObj} {mk : Nat → Value} {M : Heap} (hM : seenBy o ⟨t, h, bs, segs, mem, tail⟩ = M) (hMok : HOk M) (hMn : M.next = h.next) (hMl : M.low = h.next) (hb : beforeOf bs o = b) (hd : o.dst = some d) (hcalm : calm o.op = false) (hw : fsWanted ops t o = some true)
    (htl : (tail && !Nat.beq (mem &&& b) mem) = false) (hst : stepO P o (evalO t) M = some (mk M.next, M.push ob)) (n1 : Nat.blt d n = true) :
    fsDraw (stepO P) ops n o i ⟨t, h, bs, segs, mem, tail⟩ = some ⟨t.set depth d (mk h.next), h.push ob, bs ++ [b], (i, h.next, h.next + 1) :: segs, mem ||| 2 ^ i, tail⟩ := by
  unfold fsDraw
  have hM' : ({ next := h.next, low := h.next, objs := bif Nat.beq (mem &&& b) mem then h.objs else mask b segs h.objs } : Heap) = M := by
    rw [← hM]; unfold seenBy; simp only [hb]
  simp only [hw, hcalm, Bool.false_eq_true, if_false, hb, htl, cond_false, hM', hst]; have hlt : Nat.blt (h.next + 1) h.next = false := blt_of_le (Nat.le_succ _)
  have e1 : newer h.next (h.next + 1) ((M.next, ob) :: M.objs) = [(h.next, ob)] := by
    rw [hMn]
    exact newer_push fun b o hg => by have := hMok b o hg; omega
  simp only [Heap.push, hMn, hMl, hlt, cond_false, hd, put_fits n1, ble_refl', cond_true]; rw [hMn] at e1; rw [e1]; rfl
theorem VD.new {b : Nat} (hs : FreshV P fl op v) (hk : VD P orc ops n l (i + 1) ((d, v) :: fl) (nwSet false d nw) σ so (bs ++ [b]) (mem ||| 2 ^ i) tail K)
    (hb : beforeOf bs ⟨some d, op, ty, pos, after, g⟩ = b := by rfl) (htl : (tail && !Nat.beq (mem &&& b) mem) = false := by rfl) (hw : wantV ops fl g = some true := by rfl) (hn : (Nat.blt d n && Nat.ble n 4000) = true := by rfl) :
    VD P orc ops n (⟨some d, op, ty, pos, after, g⟩ :: l) i fl nw σ so bs mem tail K := fun h0 G S0 t h ms segs I ho => by
  obtain ⟨n1, n2⟩ := fits hn; obtain ⟨M, m1, m2, m3, m4, m5, m6, m7⟩ := seen_ok (mem := mem) I hb ho; obtain ⟨mk, o, e1, e2⟩ := hs.2 h _ t I.slots.sees I.ok I.lc.lt; refine EvD.op (draw_fresh m1 m2 m3 m4 hb rfl hs.1 (want_ok I.slots hw) htl (e2 M _ _ _ _ _) n1) (hk h0 G S0 _ _ ms _ ((I.calm (Aft.push h o [])).set e1 n2) fun ht => ?_); exact ((ho ht).set (old := false) n2 fun e => by cases e).next (After.push h o) (Nat.le_refl _)
theorem VD.cell {b : Nat} (hs : FreshO P fl op c) (hk : ∀ w, VD P orc ops n l (i + 1) ((d, .raw w) :: fl) (nwSet false d nw) ((w, c) :: σ) false (bs ++ [b]) (mem ||| 2 ^ i) tail K)
    (hb : beforeOf bs ⟨some d, op, ty, pos, after, g⟩ = b := by rfl) (htl : (tail && !Nat.beq (mem &&& b) mem) = false := by rfl) (hw : wantV ops fl g = some true := by rfl) (hn : (Nat.blt d n && Nat.ble n 4000) = true := by rfl) :
    VD P orc ops n (⟨some d, op, ty, pos, after, g⟩ :: l) i fl nw σ so bs mem tail K := fun h0 G S0 t h ms segs I ho => by
  obtain ⟨n1, n2⟩ := fits hn; obtain ⟨M, m1, m2, m3, m4, m5, m6, m7⟩ := seen_ok (mem := mem) I hb ho; obtain ⟨mk, o, e0, e1, e2⟩ := hs.2 h _ t I.slots.sees I.ok I.lc.lt; have hm : Made S0 h (h.push o) σ ((mk h.next, c) :: σ) := Made.cons I.lc (Aft.push h o []) (fun b hb => by rw [e0] at hb; simp at hb; omega) (by rw [e0]; simp) fun hN => e1 _ hN (by rw [own_cons, e0]; simp); refine EvD.op (draw_fresh m1 m2 m3 m4 hb rfl hs.1 (want_ok I.slots hw) htl (e2 M _ _ _ _ _) n1) (hk (mk h.next) h0 G S0 _ _ ms _ ((I.made hm).set (show RepPV _ _ (.raw (mk h.next)) (mk h.next) from rfl) n2) fun ht => ?_)
  obtain ⟨hs', a1, a2, a3, a4, a5, a6⟩ := (ho ht).set (v := .raw (mk h.next)) (u := mk h.next) (old := false) n2 fun e => by cases e
  refine ⟨hs', a1, a2.trans (After.push h o), SegsOk.cons (by have := a2.next; omega) a3, a4, fun k pv hk hn => (a5 k pv hk hn).nx (h := hs') fun b ob hg hb => ⟨hg, ?_⟩, fun e => by cases e⟩; have := a1 b ob hg; have := a2.next; rw [own_cons, e0]; intro hmm; simp only [List.cons_append, List.nil_append, List.mem_cons] at hmm; rcases hmm with hmm | hmm
  · omega
  exact hb hmm
theorem draw_make {b : Nat} {o : Oper} {u : Value} {t2 : Tr} (hb : beforeOf bs o = b) (hp : put n t o.dst u = some t2) (hcalm : calm o.op = false) (hw : fsWanted ops t o = some true) (hord : Nat.beq (mem &&& b) mem = true) (hok : HOk h) (hst : stepO P o (evalO t) (entry h) = some (u, h')) (hB : Aft (entry h) h' B) :
    ∃ h2 tail', fsDraw (stepO P) ops n o i ⟨t, h, bs, segs, mem, tail⟩ = some ⟨t2, h2, bs ++ [b], (i, h.next, h'.next) :: segs, mem ||| 2 ^ i, tail'⟩ ∧ (∀ b, h2.get b = h'.get b) ∧ h2.next = h'.next ∧ Aft h h2 B ∧ (tail' = false → After h h2 ∧ tail = false) := by
  have hnx := hB.next; have hnx' : Nat.blt h'.next h.next = false := blt_of_le hnx; unfold fsDraw
  have hM' : ({ next := h.next, low := h.next, objs := bif Nat.beq (mem &&& b) mem then h.objs else mask b segs h.objs } : Heap) = entry h := by
    rw [hord]; rfl
  simp only [hw, hcalm, Bool.false_eq_true, if_false, hb, hord, Bool.not_true, Bool.and_false, cond_false]; simp only [hord] at hM'; rw [hM', hst]; simp only [hnx', cond_false, hp]
  cases hlow : Nat.ble h.next h'.low with
  | true =>
    have hl := nble hlow
    have hsame : ∀ b, b < h.next → h'.get b = h.get b := fun b hb => by
      rcases hB.chg b hb with h3 | h3
      · exact h3
      omega
    have hget : ∀ b, look (newer h.next h'.next h'.objs ++ h.objs) b = h'.get b := fun b => by
      rw [look_append]; by_cases hb : b < h.next
      · cases hl2 : look (newer h.next h'.next h'.objs) b with
        | some o => have := (newer_some _ _ _ hl2).1; omega
        | none => exact (hsame b hb).symm
      have hold : look h.objs b = none := by
        cases hl2 : look h.objs b with
        | none => rfl
        | some o => exact absurd (hok b o hl2) hb
      rw [hold, Option.or_none]
      cases hl2 : look h'.objs b with
      | some o =>
        have : b < h'.next := hB.ok hok b o hl2; rw [newer_in _ _ (by omega) this, hl2]
        exact hl2.symm
      | none =>
        cases hl3 : look (newer h.next h'.next h'.objs) b with
        | none => exact hl2.symm
        | some o => rw [(newer_some _ _ _ hl3).2] at hl2; cases hl2
    refine ⟨_, _, rfl, hget, rfl, ⟨hnx, fun b hb hn => (hget b).trans (hB.get b hb hn), fun _ b o hg => ?_, fun e h3 _ _ => h3, fun b hb => .inl ((hget b).trans (hsame b hb)), Nat.le_refl _⟩, fun ht => ⟨⟨hnx, fun b hb => (hget b).trans (hsame b hb), fun _ b o hg => ?_, fun e h3 _ => h3⟩, ht⟩⟩
    · exact hB.ok hok b o ((hget b).symm.trans hg)
    exact hB.ok hok b o ((hget b).symm.trans hg)
  | false =>
    refine ⟨_, _, rfl, fun _ => rfl, rfl, ⟨hnx, hB.get, fun _ => hB.ok hok, fun e h3 h4 h5 => Nat.le_min.2 ⟨h3, hB.low e h4 h4 h5⟩, fun b hb => ?_, Nat.min_le_left _ _⟩, fun e => by cases e⟩; rcases hB.chg b hb with h3 | h3
    · exact .inl h3
    exact .inr (Nat.le_trans (Nat.min_le_right _ _) h3)
theorem made_objs (m : Made S0 (entry h) h' σ σ') (hg : ∀ b, h2.get b = h'.get b) (ha : Aft h h2 (own σ)) : Made S0 h h2 σ σ' := ⟨ha, m.new, m.apart, fun c hc => (m.cells c hc).keep (fun b _ => hg b) (Goes.objs hg) fun b hb => List.mem_append_left _ (List.mem_flatMap.2 ⟨c, hc, hb⟩)⟩
theorem VD.mk {b : Nat} {Tt : PV → Sto → Prop} (hs : MakeV P fl σ op Tt) (hk : ∀ v σ' tail', Tt v σ' → VD P orc ops n l (i + 1) ((d, v) :: fl) (nwSet false d nw) σ' false (bs ++ [b]) (mem ||| 2 ^ i) tail' K)
    (hb : beforeOf bs ⟨some d, op, ty, pos, after, g⟩ = b := by rfl) (hord : Nat.beq (mem &&& b) mem = true := by rfl) (hw : wantV ops fl g = some true := by rfl) (hn : (Nat.blt d n && Nat.ble n 4000) = true := by rfl) :
    VD P orc ops n (⟨some d, op, ty, pos, after, g⟩ :: l) i fl nw σ so bs mem tail K := fun h0 G S0 t h ms segs I ho => by
  obtain ⟨n1, n2⟩ := fits hn; have Le := I.lc.objs (h' := entry h) (fun _ => rfl) rfl; obtain ⟨u, h', v, σ', e1, e2, e3, e4⟩ := hs.2 S0 (entry h) t Le; obtain ⟨h2, tail', f1, f2, f3, f4, f5⟩ := draw_make (i := i) (segs := segs) (tail := tail) hb (put_fits n1 t u) hs.1 (want_ok I.slots hw) hord I.ok (e4 (some d) ty pos after g) e2.aft; have I2 := (I.made (made_objs e2 f2 f4)).set (e3.nx (Goes.objs f2)) n2; refine EvD.op f1 (hk v σ' tail' e1 h0 G S0 _ _ ms _ I2 fun ht => ?_); obtain ⟨f6, f7⟩ := f5 ht
  obtain ⟨hs', a1, a2, a3, a4, a5, a6⟩ := (ho f7).set (v := v) (u := u) (old := false) n2 fun e => by cases e
  refine ⟨hs', a1, a2.trans f6, SegsOk.cons a2.next a3, a4, fun k pv hk hn => (a5 k pv hk hn).nx (h := hs') fun b ob hg hb => ⟨hg, ?_⟩, fun e => by cases e⟩; have h3 := a1 b ob hg; have h4 := a2.next; intro hmm; rcases List.mem_append.1 hmm with hmm | hmm
  · rcases e2.new b hmm with h5 | h5
    · exact hb (List.mem_append_left _ h5)
    have : (entry h).next = h.next := rfl; omega
  exact hb (List.mem_append_right _ hmm)
theorem VD.mk0 {b : Nat} {Tt : PV → Sto → Prop} (hs : MakeV P fl σ op Tt) (hk : ∀ v σ' tail', Tt v σ' → VD P orc ops n l (i + 1) fl nw σ' false (bs ++ [b]) (mem ||| 2 ^ i) tail' K)
    (hb : beforeOf bs ⟨none, op, ty, pos, after, g⟩ = b := by rfl) (hord : Nat.beq (mem &&& b) mem = true := by rfl) (hw : wantV ops fl g = some true := by rfl) :
    VD P orc ops n (⟨none, op, ty, pos, after, g⟩ :: l) i fl nw σ so bs mem tail K := fun h0 G S0 t h ms segs I ho => by
  have Le := I.lc.objs (h' := entry h) (fun _ => rfl) rfl; obtain ⟨u, h', v, σ', e1, e2, e3, e4⟩ := hs.2 S0 (entry h) t Le; obtain ⟨h2, tail', f1, f2, f3, f4, f5⟩ := draw_make (n := n) (i := i) (segs := segs) (tail := tail) (o := ⟨none, op, ty, pos, after, g⟩) hb (put_none n t u) hs.1 (want_ok I.slots hw) hord I.ok (e4 none ty pos after g) e2.aft; have I2 := I.made (made_objs e2 f2 f4); refine EvD.op f1 (hk v σ' tail' e1 h0 G S0 _ _ ms _ I2 fun ht => ?_); obtain ⟨f6, f7⟩ := f5 ht; obtain ⟨hs', a1, a2, a3, a4, a5, a6⟩ := ho f7; refine ⟨hs', a1, a2.trans f6, SegsOk.cons a2.next a3, a4, fun k pv hk hn => (a5 k pv hk hn).nx (h := hs') fun b ob hg hb => ⟨hg, ?_⟩, fun e => by cases e⟩; have h3 := a1 b ob hg; have h4 := a2.next; intro hmm; rcases List.mem_append.1 hmm with hmm | hmm
  · rcases e2.new b hmm with h5 | h5
    · exact hb (List.mem_append_left _ h5)
    have : (entry h).next = h.next := rfl; omega
  exact hb (List.mem_append_right _ hmm)
end Go.Fs
namespace Go.Fs
variable {P : Program} {orc : FuncId → List Value → Heap → Option (Value × Heap)} {rnd : Option Nat} {h h' h0 h1 h2 : Heap} {S S' S0 B G : List Nat} {σ σ' σr : Sto} {t t' : Tr} {ms : List Nat} {fl : VL} {ops : Array Oper} {n i mem : Nat} {l : List Oper} {K : VL → Sto → Prop} {Q : Ex → VL → Sto → Prop}
  {d : Tmp} {ty : TypeId} {pos : String} {after : Array Edge} {op : Op} {v pv : PV} {g : Option (Nat × Bool)} {x y z : Operand} {T T' e : TypeId} {τ τ' : Ty} {bs nw : List Nat} {segs : List (Nat × Nat × Nat)} {tail so : Bool} {w w' : Value} {c c' : Cell}
theorem sees_list {fl : VL} : ∀ {l : List Operand} {vs : List PV}, (∀ x ∈ l, ∀ pv, evV fl x = some pv → RepPV h S pv (evalO t x)) → evVs fl l = some vs → RepL h S vs (l.map (evalO t))
  | [], vs, _, hx => by obtain rfl := Option.some.inj hx; rfl
  | x :: r, vs, hq, hx => by
    simp only [evVs] at hx; split at hx
    · rename_i v vs0 hv hvs; obtain rfl := Option.some.inj hx; exact ⟨_, _, rfl, hq x List.mem_cons_self _ hv, sees_list (fun y hy => hq y (List.mem_cons_of_mem _ hy)) hvs⟩
    cases hx
theorem RepL.vs : ∀ {xs : List τ.den} {us : List Value}, RepL h S (xs.map (PV.v τ)) us → us.length = xs.length ∧ ∀ i (hi : i < us.length) (hx : i < xs.length), RepV h S τ us[i] xs[i]
  | [], us, hx => ⟨by rw [show us = [] from hx]; rfl, fun i _ h => by simp at h⟩
  | a :: xs, us, ⟨u, r, h1, h2, h3⟩ => by
    subst h1; obtain ⟨e1, e2⟩ := RepL.vs h3; refine ⟨by simp [e1], fun i hi hx => ?_⟩
    cases i with
    | zero => exact h2
    | succ i => exact e2 i (by simpa using hi) (by simpa using hx)
theorem numbered_of : ∀ {ps : List (Nat × Operand)} {k : Nat}, ps.map (·.1) = List.range' k ps.length → ps.map (fun p => (p.1, evalO t p.2)) = numbered k (ps.map fun p => evalO t p.2)
  | [], k, _ => rfl
  | (i, x) :: r, k, hk => by
    simp only [List.map_cons, List.length_cons, List.range'_succ, List.cons.injEq] at hk; simp only [List.map_cons, numbered, hk.1]; rw [numbered_of hk.2]
theorem lit_run {parts : Array (Nat × Operand)} {len : Nat} {xs : List τ.den} (hT : ElT P T e τ) (hxs : evVs fl (parts.toList.map (·.2)) = some (xs.map (PV.v τ))) (hnum : parts.toList.map (·.1) = List.range' 0 parts.toList.length) (hl : len = xs.length) (hp : 0 < xs.length) (hsz : xs.length ≤ 1000) (hτ : τ.size ≤ 100) (hs : Sees h S t fl (.buildSlice T len parts)) :
    ∃ us : List Value, us.length = xs.length ∧ Elems h S τ (flat us) xs ∧ ∀ (H : Heap) (d : Option Tmp) (ty : TypeId) (pos : String) (after : Array Edge) (g : Option (Nat × Bool)), stepO P ⟨d, .buildSlice T len parts, ty, pos, after, g⟩ (evalO t) H = some (.slice (some ⟨H.next, 0, none⟩) xs.length 0, H.push (.row e (flat us) true false)) := by
  have hr : RepL h S (xs.map (PV.v τ)) ((parts.toList.map (·.2)).map (evalO t)) := sees_list (fun x hx => hs x (by simpa [Op.operands] using hx)) hxs; obtain ⟨e1, e2⟩ := RepL.vs hr; refine ⟨_, e1, Elems.flat _ xs e1 e2, fun H _ _ _ _ _ => ?_⟩; show fsBuildSlice P T len (parts.map fun p => (p.1, evalO t p.2)) H = _
  have hpm : parts.map (fun p => (p.1, evalO t p.2)) = (numbered 0 ((parts.toList.map (·.2)).map (evalO t))).toArray := by
    apply Array.toList_inj.1; rw [Array.toList_map, numbered_of hnum, List.map_map]; rfl
  have := buildEl hT e1 e2 (by intro e; rw [e] at e1; simp at e1; omega) (by omega) hτ H; rw [hpm, hl, ← e1]; exact this
theorem FreshV.lit {parts : Array (Nat × Operand)} {len : Nat} (xs : List τ.den) (hT : ElT P T e τ) (hxs : evVs fl (parts.toList.map (·.2)) = some (xs.map (PV.v τ)) := by rfl) (hnum : parts.toList.map (·.1) = List.range' 0 parts.toList.length := by rfl) (hl : len = xs.length := by rfl) (hp : (Nat.blt 0 xs.length && Nat.ble xs.length 1000 && Nat.ble τ.size 100) = true := by rfl) : FreshV P fl (.buildSlice T len parts) (.v (.sl τ) xs) :=
  ⟨rfl, fun h S t hs hok hS => by
    obtain ⟨p1, p2⟩ := band hp; obtain ⟨p0, p1⟩ := band p1; obtain ⟨us, e1, e2, e3⟩ := lit_run hT hxs hnum hl (nblt p0) (nble p1) (nble p2) hs; refine ⟨fun k => .slice (some ⟨k, 0, none⟩) xs.length 0, .row e (flat us) true false, ?_, e3⟩; have hN : Goes h S (h.push (.row e (flat us) true false)) S := (After.push h _).nx hok
    exact ((e2.nx hN).slv (by rw [Heap.get_push, if_pos rfl]) fun hm => by have := hS _ hm; omega).rep⟩
theorem FreshO.lit {parts : Array (Nat × Operand)} {len : Nat} (xs : List τ.den) (hT : ElT P T e τ) (hxs : evVs fl (parts.toList.map (·.2)) = some (xs.map (PV.v τ)) := by rfl) (hnum : parts.toList.map (·.1) = List.range' 0 parts.toList.length := by rfl) (hl : len = xs.length := by rfl) (hp : (Nat.blt 0 xs.length && Nat.ble xs.length 1000 && Nat.ble τ.size 100) = true := by rfl) : FreshO P fl (.buildSlice T len parts) (.row e τ xs) :=
  ⟨rfl, fun h S t hs hok hS => by
    obtain ⟨p1, p2⟩ := band hp; obtain ⟨p0, p1⟩ := band p1; obtain ⟨us, e1, e2, e3⟩ := lit_run hT hxs hnum hl (nblt p0) (nble p1) (nble p2) hs; refine ⟨fun k => .slice (some ⟨k, 0, none⟩) xs.length 0, .row e (flat us) true false, fun _ => rfl, fun S' hN hm => ?_, e3⟩
    exact .inr ⟨h.next, _, false, rfl, hm, by rw [Heap.get_push, if_pos rfl], e2.nx hN⟩⟩
theorem lit0_run (hT : ElT P T e τ) (H : Heap) (d : Option Tmp) (ty : TypeId) (pos : String) (after : Array Edge) (g : Option (Nat × Bool)) : stepO P ⟨d, .buildSlice T 0 #[], ty, pos, after, g⟩ (evalO t) H = some (.slice (some ⟨H.next, 0, none⟩) 0 0, H.push (.row e [] true false)) := by
  show fsBuildSlice P T 0 ((#[] : Array (Nat × Operand)).map fun p => (p.1, evalO t p.2)) H = _; obtain ⟨i, z, hi1, hi2, _⟩ := hT.sl.info; simp [fsBuildSlice, hT.sl.sl, hi1]
theorem FreshO.lit0 (hT : ElT P T e τ) : FreshO P fl (.buildSlice T 0 #[]) (.row e τ []) :=
  ⟨rfl, fun h S t hs hok hS => ⟨fun k => .slice (some ⟨k, 0, none⟩) 0 0, .row e [] true false, fun _ => rfl, fun S' hN hm => .inr ⟨h.next, [], false, rfl, hm, by rw [Heap.get_push, if_pos rfl], Elems.nil⟩, lit0_run hT⟩⟩
theorem FreshV.box {dx : τ.den} (hx : evV fl x = some (.v τ dx) := by rfl) : FreshV P fl (.box e x) (.p τ dx) :=
  ⟨rfl, fun h S t hs hok hS => by
    have hu : RepV h S τ (evalO t x) dx := hs x (by simp [Op.operands]) _ hx; refine ⟨fun k => .pointer (some ⟨k, 0, none⟩), .row e (evalO t x).cells.toList true false, ?_, fun H _ _ _ _ _ => ?_⟩
    · exact hu.box hok hS
    show fsBox e (evalO t x) H = _; unfold fsBox
    rw [if_pos hu.2.allOne]⟩
theorem FreshO.box {p : PV} {cs : List PV} (hp : CellsOf τ p cs) (hx : evV fl x = some p := by rfl) : FreshO P fl (.box e x) (.var cs) :=
  ⟨rfl, fun h S t hs hok hS => by
    obtain ⟨h1, h2, h3⟩ := hp.ok (hs x (by simp [Op.operands]) _ hx); refine ⟨fun k => .pointer (some ⟨k, 0, none⟩), .row e (evalO t x).cells.toList true false, fun _ => rfl, fun S' hN hm => ?_, fun H _ _ _ _ _ => ?_⟩
    · exact ⟨h.next, e, _, rfl, hm, by rw [Heap.get_push, if_pos rfl], h1.nx hN, h3⟩
    show fsBox e (evalO t x) H = _; unfold fsBox
    rw [if_pos h3]⟩
def zeroD : (τ : Ty) → τ.den
  | .int _ => (0 : Int)
  | .bool => false
  | .str => ByteArray.empty
  | .flt _ => (0 : Nat)
  | .sl _ => []
  | .mp _ _ => []
  | .fn => none
  | .hnd => none
  | .pair a b => (zeroD a, zeroD b)
  | .unit => ()
def zeroC : Ty → List Value
  | .int k => [.int k 0]
  | .bool => [.bool false]
  | .str => [.string ByteArray.empty]
  | .flt k => [.float k 0]
  | .sl _ => [.slice none 0 0]
  | .mp _ _ => [.map none]
  | .fn => [.nilFunc]
  | .hnd => [.slice none 0 0]
  | .pair a b => zeroC a ++ zeroC b
  | .unit => []
theorem zero_rep (h : Heap) (S : List Nat) : ∀ (τ : Ty), RepC h S τ (zeroC τ) (zeroD τ) ∧ (zeroC τ).all af0 = true
  | .int _ => ⟨rfl, rfl⟩
  | .bool => ⟨rfl, rfl⟩
  | .str => ⟨rfl, rfl⟩
  | .flt _ => ⟨rfl, rfl⟩
  | .sl _ => ⟨⟨_, rfl, .inl ⟨rfl, rfl⟩⟩, rfl⟩
  | .mp _ _ => ⟨⟨_, rfl, .inl ⟨rfl, rfl⟩⟩, rfl⟩
  | .fn => ⟨rfl, rfl⟩
  | .hnd => ⟨rfl, rfl⟩
  | .unit => ⟨rfl, rfl⟩
  | .pair a b => by
    obtain ⟨a1, a2⟩ := zero_rep h S a; obtain ⟨b1, b2⟩ := zero_rep h S b; refine ⟨⟨?_, ?_⟩, ?_⟩
    · show RepC h S a ((zeroC a ++ zeroC b).take a.size) _; rw [List.take_left' a1.len]; exact a1
    · show RepC h S b ((zeroC a ++ zeroC b).drop a.size) _; rw [List.drop_left' a1.len]; exact b1
    show (zeroC a ++ zeroC b).all af0 = true; rw [List.all_append, a2, b2]; rfl
structure ZerT (P : Program) (e : TypeId) (τ : Ty) : Prop where
  zero : ∃ z, (P.info? e).bind (·.zero) = some z ∧ z.cells.toList = zeroC τ ∧ isAggV z = τ.agg
theorem zerT_of {z : Value} (hz : (P.info? e).bind (·.zero) = some z) (hc : z.cells.toList = zeroC τ) (ha : isAggV z = τ.agg) : ZerT P e τ := ⟨z, hz, hc, ha⟩
theorem af_cells {u : Value} (h : u.cells.toList.all af0 = true) : af u = true ∧ u.cells.toList.all oneCell = true := by
  refine ⟨?_, af0_one h⟩
  cases u with
  | agg cs => exact h
  | tuple vs => simp [Value.cells, af0] at h
  | _ => simpa [Value.cells, af, af1] using h
theorem FreshO.alloc (hZ : ZerT P e τ) : FreshO P fl (.alloc e) (.var (cellsPV τ (zeroD τ))) :=
  ⟨rfl, fun h S t hs hok hS => by
    obtain ⟨z, h1, h2, h3⟩ := hZ.zero; obtain ⟨z1, z2⟩ := zero_rep h S τ; obtain ⟨a1, a2⟩ := af_cells (u := z) (by rw [h2]; exact z2); refine ⟨fun k => .pointer (some ⟨k, 0, none⟩), .row e z.cells.toList true false, fun _ => rfl, fun S' hN hm => ?_, fun H _ _ _ _ _ => ?_⟩
    · exact ⟨h.next, e, _, rfl, hm, by rw [Heap.get_push, if_pos rfl], by have := (cells_repC z1).nx hN; rwa [← h2] at this, a2⟩
    show (match (P.info? e).bind (·.zero) with | some z => if af z then fsBox e z H else none | none => none) = _; rw [h1]; simp only [a1, if_true]; unfold fsBox
    rw [if_pos a2]⟩
theorem zeros_flat {z : Value} (hz : 0 < z.cells.size) : ∀ n : Nat, zeros z n = (List.replicate n z.cells.toList).flatten
  | 0 => by simp [zeros]
  | n + 1 => by
    have ih := zeros_flat hz n; unfold zeros at ih ⊢; rw [List.replicate_succ', List.flatten_append, ← ih, Nat.add_mul, Nat.one_mul, List.range_add, List.map_append]; congr 1; refine List.ext_getElem (by simp) fun i h1 h2 => ?_
    have hi : i < z.cells.size := by simpa using h1
    simp only [List.getElem_map, List.getElem_range, List.flatten_cons, List.flatten_nil, List.append_nil, List.map_map]
    have h3 : (n * z.cells.size + i) % z.cells.size = i := by rw [Nat.mul_comm, Nat.mul_add_mod, Nat.mod_eq_of_lt hi]
    simp only [Function.comp, List.getElem_range, h3]; rw [getElem!_pos z.cells i hi]; simp
theorem elems_rep {cs : List Value} {dx : τ.den} (hx : RepC h S τ cs dx) : ∀ n : Nat, Elems h S τ (List.replicate n cs).flatten (List.replicate n dx)
  | 0 => Elems.nil
  | n + 1 => by
    have h1 : Elems h S τ cs [dx] := ⟨by simpa using hx.len, fun i hi => by
      obtain rfl : i = 0 := by simpa using hi
      simp only [Nat.zero_mul, List.drop_zero, List.getElem_cons_zero]; rw [List.take_of_length_le (by rw [hx.len]; exact Nat.le_refl _)]
      exact hx⟩
    have := h1.append (elems_rep hx n); simpa [List.replicate_succ] using this
theorem FreshO.make {k : Nat} (hx : evV fl x = some (.v (.int .i64) ((k : Nat) : Int))) (hy : evV fl y = some (.v (.int .i64) ((k : Nat) : Int))) (hT : ElT P T e τ) (hZ : ZerT P e τ) (hk : k ≤ 1000000) : FreshO P fl (.makeSlice T x y) (.row e τ (List.replicate k (zeroD τ))) :=
  ⟨rfl, fun h S t hs hok hS => by
    have u1 := RepV.int (hs x (by simp [Op.operands]) _ hx); have u2 := RepV.int (hs y (by simp [Op.operands]) _ hy); obtain ⟨z, h1, h2, h3⟩ := hZ.zero; obtain ⟨i, z', hi1, hi2, hi3, hi3', hi4, hi5, hi6⟩ := hT.sl.info
    obtain rfl : z' = z := by
      rw [hi1] at h1; simpa [hi4] using h1
    have hpos := hT.sl.pos; refine ⟨fun m => .slice (some ⟨m, 0, none⟩) k 0, .row e (zeros z' k) true false, fun _ => rfl, fun S' hN hm => ?_, fun H _ _ _ _ _ => ?_⟩
    · refine .inr ⟨h.next, _, false, by simp, hm, by rw [Heap.get_push, if_pos rfl], ?_⟩; rw [zeros_flat (by omega), h2]; exact elems_rep (zero_rep _ _ τ).1 k
    show fsMakeSlice P T (evalO t x) (evalO t y) H = _; rw [u1, u2]; unfold fsMakeSlice; simp only [hT.sl.sl, hi1, hi4]
    have hb : i.bytes * k ≤ 1099511627776 := by
      have := Nat.mul_le_mul hi3' hk; omega
    have hc : (decide (0 ≤ ((k : Nat) : Int)) && decide (((k : Nat) : Int) ≤ ((k : Nat) : Int)) && decide (((k : Nat) : Int) ≤ 1099511627776) && Nat.ble (i.bytes * ((k : Nat) : Int).toNat) 1099511627776 && Nat.blt 0 i.size && Nat.beq z'.cells.size i.size && z'.cells.toList.all af0) = true := by
      have e1 : Nat.ble (i.bytes * ((k : Nat) : Int).toNat) 1099511627776 = true := by rw [Nat.ble_eq, Int.toNat_natCast]; exact hb
      have e2 : Nat.blt 0 i.size = true := by show Nat.ble 1 i.size = true; rw [Nat.ble_eq, hi2]; exact hpos
      rw [e1, e2, hi5, hi2, Nat.beq_refl, hi6]; simp; omega
    rw [hc]
    rfl⟩
def bldL (pl : List (Nat × Nat)) : List PV → List Nat → List PV → Option (List PV)
  | L, [], [] => some L
  | L, i :: is, p :: ps => match pl[i]? with
    | some (o, s) => bif Nat.ble (o + s) L.length then
        (match p with
        | .v τ x => bif Nat.beq τ.size s then bldL pl (spl L o (cellsPV τ x)) is ps else none
        | .raw (.slice none 0 0) => bif Nat.beq s 1 then (match L[o]? with | some (.v (.sl _) []) => bldL pl L is ps | _ => none) else none
        | _ => none)
      else none
    | none => none
  | _, _, _ => none
structure BldT (P : Program) (T : TypeId) (τ : Ty) (pl : List (Nat × Nat)) : Prop where
  zer : ZerT P T τ
  agg : τ.agg = true
  run : ∀ (z : Value) (parts : Array (Nat × Value)) (cs : Array Value), (P.info? T).bind (·.zero) = some z → Instr.fill (pl[·]?) z.cells parts.toList = some cs → runPure P (Instr.build T parts) = some (.agg cs)
def plB (P : Program) (T : TypeId) : Option (List (Nat × Nat)) :=
  match P.underlying T with
  | some (.struct fields) => (runPure P (fields.mapM fun f => do pure (f.offset, ← sizeOf f.type))).map (·.toList)
  | some (.array n e) => (P.info? e).map fun i => (List.range n).map fun j => (j * i.size, i.size)
  | _ => none
theorem fill_more {pl pl' : Nat → Option (Nat × Nat)} (hp : ∀ i q, pl i = some q → pl' i = some q) : ∀ (ps : List (Nat × Value)) (cells out : Array Value), Instr.fill pl cells ps = some out → Instr.fill pl' cells ps = some out
  | [], cells, out, hf => hf
  | (i, v) :: rest, cells, out, hf => by
    unfold Instr.fill at hf ⊢
    cases hq : pl i with
    | none => rw [hq] at hf; cases hf
    | some q =>
      rw [hq] at hf; rw [hp i q hq]; obtain ⟨o, sz⟩ := q; simp only at hf ⊢; split at hf
      · cases hf
      rename_i hne; rw [if_neg hne]; exact fill_more hp rest _ out hf
theorem zeroV_run {z : Value} (hz : (P.info? T).bind (·.zero) = some z) : runPure P (zeroValue T) = some z := by
  obtain ⟨i, hi, hzi⟩ := Option.bind_eq_some_iff.1 hz; unfold zeroValue; rw [runPure_bind, runPure_typeInfo hi]; simp only [Option.bind_some, hzi]; rfl
theorem bldT_of {pl : List (Nat × Nat)} (hZ : ZerT P T τ) (ha : τ.agg = true) (hp : plB P T = some pl) : BldT P T τ pl := by
  refine ⟨hZ, ha, fun z parts cs hz hf => ?_⟩; unfold plB at hp; split at hp
  · rename_i fields hu; obtain ⟨places, h1, h2⟩ := Option.map_eq_some_iff.1 hp; refine runPure_build hu (zeroV_run hz) h1 ?_; rw [← hf]; congr 1; funext i; rw [← h2]; simp
  · rename_i m e hu; obtain ⟨i, hi, h2⟩ := Option.map_eq_some_iff.1 hp
    have hf' : Instr.fill (fun j => some (j * i.size, i.size)) z.cells parts.toList = some cs := fill_more (fun j q hq => by
      rw [← h2] at hq; simp only [List.getElem?_map] at hq; obtain ⟨k, hk, rfl⟩ := Option.map_eq_some_iff.1 hq; obtain ⟨hk1, rfl⟩ := List.getElem?_eq_some_iff.1 hk
      simp) _ _ _ hf
    have hsz : runPure P (sizeOf e) = some i.size := runPure_sizeOf hi; unfold Instr.build; simp only [runPure_bind, zeroV_run hz, runPure_underlying hu, Option.bind_some, hsz, hf']; rfl
  cases hp
theorem fill_bld {pl : List (Nat × Nat)} : ∀ {is : List Nat} {ps : List PV} {us : List Value} {L L' : List PV} {cs : List Value}, bldL pl L is ps = some L' → RepL h S ps us → RepL h S L cs → cs.all oneCell = true →
    ∃ cs', Instr.fill (pl[·]?) cs.toArray (is.zip us) = some cs'.toArray ∧ RepL h S L' cs' ∧ us.all (fun u => u.cells.toList.all oneCell) = true ∧ is.length = us.length
  | [], [], us, L, L', cs, hb, hp, hL, ho => by
    obtain rfl : us = [] := hp; obtain rfl := Option.some.inj hb
    exact ⟨cs, rfl, hL, rfl, rfl⟩
  | i :: is, p :: ps, us, L, L', cs, hb, ⟨u, r, h1, h2, h3⟩, hL, ho => by
    subst h1; have hlen := hL.len; simp only [bldL] at hb; split at hb
    · rename_i o s hpl
      cases hbb : Nat.ble (o + s) L.length with
      | false => rw [hbb] at hb; cases hb
      | true =>
        rw [hbb] at hb; have hos := nble hbb; simp only [cond_true] at hb; split at hb
        · rename_i τ x
          cases hs : Nat.beq τ.size s with
          | false => rw [hs] at hb; cases hb
          | true =>
            rw [hs] at hb; simp only [cond_true] at hb; obtain rfl := nbeq hs; have hu : RepV h S τ u x := h2; have hul : u.cells.toList.length = τ.size := hu.2.len
            have hus : u.cells.size = τ.size := by simpa using hul
            obtain ⟨cs', f1, f2, f3, f4⟩ := fill_bld hb h3 (hL.spl o (cells_repC hu.2)) (allOne_spl o ho hu.2.allOne); refine ⟨cs', ?_, f2, by rw [List.all_cons, hu.2.allOne, f3]; rfl, by simp [f4]⟩; simp only [List.zip_cons_cons, Instr.fill, hpl]
            have h9 : (u.cells.size ≠ τ.size || o + u.cells.size > cs.toArray.size) = false := by simp [hus]; omega
            rw [h9]; simp only [Bool.false_eq_true, if_false]
            have hsp : u.cells.zipIdx.foldl (fun (cs : Array Value) (p : Value × Nat) => cs.setIfInBounds (o + p.2) p.1) cs.toArray = (splice cs o u.cells.toList).toArray := by
              have e0 : cs = cs.take o ++ ((cs.drop o).take τ.size) ++ cs.drop (o + τ.size) := by
                rw [← List.drop_drop, List.append_assoc, List.take_append_drop, List.take_append_drop]
              have := fill_at τ.size o u (cs.take o) ((cs.drop o).take τ.size) (cs.drop (o + τ.size)) (by rw [List.length_take]; omega) (by rw [List.length_take, List.length_drop]; omega) hus; rw [← e0] at this; rw [this]; unfold splice; rw [hul]
            rw [hsp]; exact f1
        · cases hs : Nat.beq s 1 with
          | false => rw [hs] at hb; cases hb
          | true =>
            rw [hs] at hb; simp only [cond_true] at hb; obtain rfl := nbeq hs; split at hb
            · rename_i ee hLo; obtain rfl : u = .slice none 0 0 := h2
              obtain ⟨cs', f1, f2, f3, f4⟩ := fill_bld (cs := splice cs o [.slice none 0 0]) hb h3 (by
                have := hL.spl o (show RepL h S [.v (.sl ee) []] [.slice none 0 0] from ⟨_, [], rfl, SlV.nil.rep, rfl⟩)
                have e9 : spl L o [.v (.sl ee) []] = L := by
                  unfold Fs.spl
                  have hol : o < L.length := by omega
                  have hg : L[o] = .v (.sl ee) [] := by rw [List.getElem?_eq_getElem hol] at hLo; exact Option.some.inj hLo
                  rw [← hg]; simp only [List.length_cons, List.length_nil, Nat.zero_add, List.cons_append, List.nil_append]; rw [← List.drop_eq_getElem_cons hol, List.take_append_drop]
                rwa [e9] at this) (allOne_spl o ho rfl)
              refine ⟨cs', ?_, f2, by rw [List.all_cons, f3]; rfl, by simp [f4]⟩; simp only [List.zip_cons_cons, Instr.fill, hpl]
              have h9 : ((Value.slice none 0 0).cells.size ≠ 1 || o + (Value.slice none 0 0).cells.size > cs.toArray.size) = false := by simp [Value.cells]; omega
              rw [h9]; simp only [Bool.false_eq_true, if_false]
              have hsp : (Value.slice none 0 0).cells.zipIdx.foldl (fun (cs : Array Value) (p : Value × Nat) => cs.setIfInBounds (o + p.2) p.1) cs.toArray = (splice cs o [.slice none 0 0]).toArray := by
                have e0 : cs = cs.take o ++ ((cs.drop o).take 1) ++ cs.drop (o + 1) := by
                  rw [← List.drop_drop, List.append_assoc, List.take_append_drop, List.take_append_drop]
                have := fill_at 1 o (.slice none 0 0) (cs.take o) ((cs.drop o).take 1) (cs.drop (o + 1)) (by rw [List.length_take]; omega) (by rw [List.length_take, List.length_drop]; omega) rfl; rw [← e0] at this; rw [this]; unfold splice; rfl
              rw [hsp]; exact f1
            cases hb
        cases hb
    cases hb
  | [], p :: ps, us, L, L', cs, hb, _, _, _ => by simp [bldL] at hb
  | i :: is, [], us, L, L', cs, hb, _, _, _ => by simp [bldL] at hb
theorem zip_map {α β γ : Type} (f : α → β) (k : α → γ) : ∀ l : List α, (l.map f).zip (l.map k) = l.map fun a => (f a, k a)
  | [] => rfl
  | a :: l => by simp [zip_map f k l]
theorem CalmV.build {pl : List (Nat × Nat)} {parts : Array (Nat × Operand)} {ps : List PV} (dx : τ.den) (hT : BldT P T τ pl) (hps : evVs fl (parts.toList.map (·.2)) = some ps := by rfl) (hb : bldL pl (cellsPV τ (zeroD τ)) (parts.toList.map (·.1)) ps = some (cellsPV τ dx) := by rfl) : CalmV P fl σ (.build T parts) (.v τ dx) :=
  ⟨rfl, fun h S t hs _ => by
    obtain ⟨z, z1, z2, z3⟩ := hT.zer.zero; obtain ⟨y1, y2⟩ := zero_rep h S τ; have hr : RepL h S ps ((parts.toList.map (·.2)).map (evalO t)) := sees_list (fun x hx => hs x (by simpa [Op.operands] using hx)) hps; obtain ⟨cs', f1, f2, f3, f4⟩ := fill_bld hb hr (cells_repC y1) (af0_one y2); refine ⟨.agg cs'.toArray, ⟨by rw [hT.agg]; rfl, by simpa [Value.cells] using repC_cells f2⟩, fun _ _ _ _ _ H => ?_⟩; show (bif (parts.toList.all fun p => (evalO t p.2).cells.toList.all oneCell) && ((((P.info? T).bind (·.zero)).map fun z => z.cells.toList.all af0) == some true) then (runPure P (Instr.build T (parts.map fun p => (p.1, evalO t p.2)))).map fun v => (v, H) else none) = _
    have c1 : (parts.toList.all fun p => (evalO t p.2).cells.toList.all oneCell) = true := by
      rw [List.map_map, List.all_map] at f3; exact f3
    have c2 : ((((P.info? T).bind (·.zero)).map fun z => z.cells.toList.all af0) == some true) = true := by
      rw [z1]
      have e : z.cells.toList.all af0 = true := by rw [z2]; exact y2
      simp only [Option.map_some, e]; rfl
    have hrun := hT.run z (parts.map fun p => (p.1, evalO t p.2)) cs'.toArray z1 (by
      rw [← f1, Array.toList_map, ← zip_map, List.map_map]; congr 1
      rw [← z2])
    rw [c1, c2, hrun]
    rfl⟩
end Go.Fs
namespace Go.Fs
variable {P : Program} {orc : FuncId → List Value → Heap → Option (Value × Heap)} {rnd : Option Nat} {h h' h0 h1 h2 : Heap} {S S' S0 : List Nat} {σ σ' σr : Sto} {t t' : Tr} {ms : List Nat} {fl : VL} {ops : Array Oper} {n i mem : Nat} {l : List Oper} {K : VL → Sto → Prop} {Q : Ex → VL → Sto → Prop}
  {d : Tmp} {ty : TypeId} {pos : String} {after : Array Edge} {op : Op} {v pv : PV} {g : Option (Nat × Bool)} {x y z : Operand} {T T' e : TypeId} {τ τ' : Ty} {bs nw : List Nat} {segs : List (Nat × Nat × Nat)} {tail so : Bool} {w w' : Value} {c c' : Cell}
abbrev I (n : Int) : PV := .v (.int .i64) n
abbrev B (b : Bool) : PV := .v .bool b
abbrev D (p : Prop) [Decidable p] : PV := .v .bool (decide p)
abbrev St (s : ByteArray) : PV := .v .str s
abbrev nilV : PV := .raw (.slice none 0 0)
theorem m0 {a : Value × Cell} {r : Sto} : a ∈ a :: r := List.mem_cons_self
theorem m1 {a b : Value × Cell} {r : Sto} : b ∈ a :: b :: r := List.mem_cons_of_mem _ m0
theorem m2 {a b c : Value × Cell} {r : Sto} : c ∈ a :: b :: c :: r := List.mem_cons_of_mem _ m1
theorem m3 {a b c d : Value × Cell} {r : Sto} : d ∈ a :: b :: c :: d :: r := List.mem_cons_of_mem _ m2
theorem swap1 {a b : Value × Cell} {r : Sto} : (a :: b :: r).Perm (b :: a :: r) := List.Perm.swap b a r
theorem swap2 {a b c : Value × Cell} {r : Sto} : (a :: b :: c :: r).Perm (c :: a :: b :: r) := ((List.Perm.swap c b r).cons a).trans (List.Perm.swap c a (b :: r))
theorem swap3 {a b c d : Value × Cell} {r : Sto} : (a :: b :: c :: d :: r).Perm (d :: a :: b :: c :: r) := (swap2.cons a).trans (List.Perm.swap d a (b :: c :: r))
theorem CalmV.ixD {xs : List τ.den} {j : Nat} (hx : evV fl x = some (.v (.sl τ) xs)) (hy : evV fl y = some (.v (.int .i64) ((j : Nat) : Int))) (d0 : τ.den) (hT : ElT P T e τ) (hj : j < xs.length) : CalmV P fl σ (.indexAddr T x y) (.p τ (xs.getD j d0)) := by
  have := CalmV.ix (σ := σ) hx hy hT hj
  rwa [show xs[j] = xs.getD j d0 by simp [hj]] at this
def subG (b : Bool) (fl : VL) : VL → Prop
  | [] => True
  | (k, v) :: r => lkV fl k = some (.gd b v) ∧ subG b fl r
theorem Slots.there {b : Bool} {t : Tr} {fl : VL} (hs : Slots h S t fl) (hb : b = true) : ∀ {nw : VL}, subG b fl nw → Slots h S t (nw ++ fl)
  | [], _ => hs
  | (k, v) :: r, hn => (Slots.there hs hb hn.2).cons ((hs k _ hn.1 : RepPV h S (.gd b v) (t.get k)).1 hb)
theorem VO.cg {j : Nat} {w r : Bool} {k : Tmp} (nw : VL) (hnw : subG (r == w) fl nw) (hs : (r == w) = true → CalmV P (nw ++ fl) σ op v) (hk : VO P orc ops n l ((d, .gd (r == w) v) :: fl) σ K) (hj : (ops[j]?).bind (·.dst) = some k := by rfl) (hr : lkV fl k = some (.v .bool r) := by rfl) (hn : (Nat.blt d n && Nat.ble n 4000) = true := by rfl) :
    VO P orc ops n (⟨some d, op, ty, pos, after, some (j, w)⟩ :: l) fl σ K := fun h0 G S0 t h ms Iv0 => by
  obtain ⟨n1, n2⟩ := fits hn; have hw : fsWanted ops t ⟨some d, op, ty, pos, after, some (j, w)⟩ = some (r == w) := want_ok Iv0.slots (by unfold wantV; simp only [hj, hr])
  cases hrw : (r == w) with
  | true =>
    obtain ⟨u, h1, h2⟩ := (hs hrw).2 h _ t (Iv0.slots.there hrw hnw).sees Iv0.cells; refine EvO.op (by rw [hw, hrw]) (h2 _ _ _ _ _ h) (put_fits n1 t u) (hk h0 G S0 _ h ms ?_); rw [hrw]
    exact Iv0.set (show RepPV _ _ (.gd true v) u from ⟨fun _ => h1, fun e => by cases e⟩) n2
  | false =>
    refine EvO.skip (by rw [hw, hrw]) (put_fits n1 t undef) (hk h0 G S0 _ h ms ?_); rw [hrw]; exact Iv0.set (show RepPV _ _ (.gd false v) undef from ⟨fun e => (by cases e), fun _ => rfl⟩) n2
theorem VO.rg {j : Nat} {w r : Bool} {k : Tmp} (nw : VL) (hnw : subG (r == w) fl nw) (hs : (r == w) = true → ReadV P (nw ++ fl) σ op v) (hk : VO P orc ops n l ((d, .gd (r == w) v) :: fl) σ K) (hj : (ops[j]?).bind (·.dst) = some k := by rfl) (hr : lkV fl k = some (.v .bool r) := by rfl) (hn : (Nat.blt d n && Nat.ble n 4000) = true := by rfl) :
    VO P orc ops n (⟨some d, op, ty, pos, after, some (j, w)⟩ :: l) fl σ K := fun h0 G S0 t h ms Iv0 => by
  obtain ⟨n1, n2⟩ := fits hn; have hw : fsWanted ops t ⟨some d, op, ty, pos, after, some (j, w)⟩ = some (r == w) := want_ok Iv0.slots (by unfold wantV; simp only [hj, hr])
  cases hrw : (r == w) with
  | true =>
    obtain ⟨u, h1, h2⟩ := (hs hrw).2 h _ t (Iv0.slots.there hrw hnw).sees Iv0.cells; refine EvO.op (by rw [hw, hrw]) (h2 h (fun _ _ x => x) _ _ _ _ _) (put_fits n1 t u) (hk h0 G S0 _ h ms ?_); rw [hrw]
    exact Iv0.set (show RepPV _ _ (.gd true v) u from ⟨fun _ => h1, fun e => by cases e⟩) n2
  | false =>
    refine EvO.skip (by rw [hw, hrw]) (put_fits n1 t undef) (hk h0 G S0 _ h ms ?_); rw [hrw]; exact Iv0.set (show RepPV _ _ (.gd false v) undef from ⟨fun e => (by cases e), fun _ => rfl⟩) n2
theorem VO.callg {j : Nat} {w r0 : Bool} {k : Tmp} {f : Operand} {args : Array Operand} {ats : Array TypeId} {F F' r : PV} {asl as' : List PV} (nw : VL) (hnw : subG (r0 == w) fl nw) (hf : evV (nw ++ fl) f = some F) (ha : evVs (nw ++ fl) args.toList = some asl) (cF : Co σ F F') (ca : CoL σ asl as') (hr : r.flat = true) (hc : (r0 == w) = true → VCall P orc F' as' r)
    (hk : VO P orc ops n l ((d, .gd (r0 == w) r) :: fl) σ K) (hj : (ops[j]?).bind (·.dst) = some k := by rfl) (hr0 : lkV fl k = some (.v .bool r0) := by rfl) (hn : (Nat.blt d n && Nat.ble n 4000) = true := by rfl) : VO P orc ops n (⟨some d, .call { callee := .value f, args := args, argTypes := ats }, ty, pos, after, some (j, w)⟩ :: l) fl σ K := fun h0 G S0 t h ms Iv0 => by
  obtain ⟨n1, n2⟩ := fits hn; have hw : fsWanted ops t ⟨some d, .call { callee := .value f, args := args, argTypes := ats }, ty, pos, after, some (j, w)⟩ = some (r0 == w) := want_ok Iv0.slots (by unfold wantV; simp only [hj, hr0])
  cases hrw : (r0 == w) with
  | true =>
    have L := Iv0.lc; have hsl := Iv0.slots.there hrw hnw; obtain ⟨fid, a, c, h1, h2⟩ := (hc hrw).ev Iv0.ok L.sok (cF.ok L.cells L.sep (evV_ok hsl hf)) (ca.ok L.cells L.sep (evVs_ok hsl ha)); refine EvO.call (by rw [hw, hrw]) rfl rfl h1 (h2.mono fun u h' hq => ?_); obtain ⟨_, q2, q3⟩ := hq; obtain rfl := q3 hr; refine ⟨_, put_fits n1 t u, hk h0 G S0 _ h' ms ?_⟩; rw [hrw]
    exact Iv0.set (show RepPV _ _ (.gd true r) u from ⟨fun _ => (q2.flat hr).2 _ _, fun e => by cases e⟩) n2
  | false =>
    refine EvO.skip (by rw [hw, hrw]) (put_fits n1 t undef) (hk h0 G S0 _ h ms ?_); rw [hrw]; exact Iv0.set (show RepPV _ _ (.gd false r) undef from ⟨fun e => (by cases e), fun _ => rfl⟩) n2
theorem CalmV.or {r s : Bool} (hz : evV fl z = some (.v .bool r) := by rfl) (hx : evV fl x = some (.v .bool true) := by rfl) (hy : evV fl y = some (.gd (r == false) (.v .bool s)) := by rfl) : CalmV P fl σ (.pick z x y) (.v .bool (r || s)) := ⟨rfl, fun h S t hs _ => by
  have h1 := (hs z (by simp [Op.operands]) _ hz : RepPV h S (.v .bool r) _).bool; have h2 := (hs x (by simp [Op.operands]) _ hx : RepPV h S (.v .bool true) _).bool; have h3 : RepPV h S (.gd (r == false) (.v .bool s)) (evalO t y) := hs y (by simp [Op.operands]) _ hy; refine ⟨.bool (r || s), RepV.ofBool _, fun _ _ _ _ _ H => ?_⟩; show (match evalO t z with | .bool true => some (evalO t x, H) | .bool false => some (evalO t y, H) | _ => none) = _; rw [h1, h2]
  cases r with
  | true => rfl
  | false =>
    have := (h3.1 rfl : RepPV h S (.v .bool s) _).bool
    rw [this]; rfl⟩
theorem CalmV.and {r s : Bool} (hz : evV fl z = some (.v .bool r) := by rfl) (hy : evV fl y = some (.v .bool false) := by rfl) (hx : evV fl x = some (.gd (r == true) (.v .bool s)) := by rfl) : CalmV P fl σ (.pick z x y) (.v .bool (r && s)) := ⟨rfl, fun h S t hs _ => by
  have h1 := (hs z (by simp [Op.operands]) _ hz : RepPV h S (.v .bool r) _).bool; have h2 := (hs y (by simp [Op.operands]) _ hy : RepPV h S (.v .bool false) _).bool; have h3 : RepPV h S (.gd (r == true) (.v .bool s)) (evalO t x) := hs x (by simp [Op.operands]) _ hx; refine ⟨.bool (r && s), RepV.ofBool _, fun _ _ _ _ _ H => ?_⟩; show (match evalO t z with | .bool true => some (evalO t x, H) | .bool false => some (evalO t y, H) | _ => none) = _; rw [h1, h2]
  cases r with
  | false => rfl
  | true =>
    have := (h3.1 rfl : RepPV h S (.v .bool s) _).bool
    rw [this]; rfl⟩
theorem VO.go {b : Code} (hx : VC P orc rnd b n fl σ Q) : VO P orc ops n [] fl σ fun fl σ => thenV P orc rnd n b Q .normal fl σ := VO.nil hx
theorem VD.go {b : Code} (hx : VC P orc rnd b n fl σ Q) : VD P orc ops n [] i fl nw σ so bs mem tail fun fl σ => thenV P orc rnd n b Q .normal fl σ := VD.nil hx
def joinV (flJ : VL) (σJ : Sto) (Q : Ex → VL → Sto → Prop) : Ex → VL → Sto → Prop
  | .normal, fl, σ => subV fl flJ ∧ σ = σJ
  | .exit i, fl, σ => Q (.exit i) fl σ
  | .ret, fl, σ => Q .ret fl σ
theorem VC.join {a : Code} (flJ : VL) (σJ : Sto) (ha : VC P orc rnd a n fl σ (joinV flJ σJ Q)) (hb : Q .normal flJ σJ) : VC P orc rnd a n fl σ Q := fun h0 G S0 t h ms Iv0 => (ha h0 G S0 t h ms Iv0).mono fun e fr h' hq => by
  obtain ⟨hn, fl', σ', I', q⟩ := hq
  cases e with
  | normal =>
    obtain ⟨q1, rfl⟩ := q
    exact ⟨hn, flJ, σ', I'.sub flJ (subV_all q1), hb⟩
  | exit i => exact ⟨hn, fl', σ', I', q⟩
  | ret => exact ⟨hn, fl', σ', I', q⟩
theorem VEnd.one {fn : Func} {r : ResultVar} {p q : PV} (hr : fn.results = #[r]) (h1 : EndV P fl σ r p) (he : p = q) : VEnd P fn q .ret fl σ := ⟨rfl, [p], by rw [hr]; exact .cons h1 .nil, he⟩
theorem VEnd.two {fn : Func} {r r' : ResultVar} {p p' q q' : PV} (hr : fn.results = #[r, r']) (h1 : EndV P fl σ r p) (h2 : EndV P fl σ r' p') (he : p = q) (he' : p' = q') : VEnd P fn (.tup [q, q']) .ret fl σ := ⟨rfl, [p, p'], by rw [hr]; exact .cons h1 (.cons h2 .nil), by rw [he, he']; rfl⟩
theorem VEnd.three {fn : Func} {r r' r'' : ResultVar} {p p' p'' q q' q'' : PV} (hr : fn.results = #[r, r', r'']) (h1 : EndV P fl σ r p) (h2 : EndV P fl σ r' p') (h3 : EndV P fl σ r'' p'') (he : p = q) (he' : p' = q') (he'' : p'' = q'') : VEnd P fn (.tup [q, q', q'']) .ret fl σ := ⟨rfl, [p, p', p''], by rw [hr]; exact .cons h1 (.cons h2 (.cons h3 .nil)), by rw [he, he', he'']; rfl⟩
theorem pvE {a b : τ.den} (h : a = b) : PV.v τ a = PV.v τ b := by rw [h]
theorem slE {k : Nat} {a b : τ.den} (hk : lkV fl k = some (.v τ a)) (h : a = b) : lkV fl k = some (.v τ b) := by rw [hk, h]
theorem evT {i : Nat} {p : PV} (hi : lkV fl i = some p := by rfl) : EndV P fl σ (.tmp i) p := .tmp hi .same
theorem evC {i : Nat} {p p' : PV} (hc : Co σ p p') (hi : lkV fl i = some p := by rfl) : EndV P fl σ (.tmp i) p' := .tmp hi hc
theorem VF.law {f : FuncId} {args : List PV} {us : List Value} (hv : VF P orc f args (.v .bool true)) (hok : HOkG h) (hr : RepL h [] args us) : EvF P orc f us h fun r h' => r = .bool true ∧ h' = h :=
  (hv h [] us hok.1 ⟨fun b hb => (by cases hb), hok.2⟩ hr).mono fun u h' ⟨_, h2, h3⟩ => ⟨RepV.bool h2, h3 rfl⟩
end Go.Fs
namespace Go.Fs
variable {P : Program} {orc : FuncId → List Value → Heap → Option (Value × Heap)} {rnd : Option Nat} {h h' h0 h1 h2 : Heap} {S S' S0 : List Nat} {σ σ' σr γ γ' : Sto} {t t' : Tr} {ms : List Nat} {fl : VL} {ops : Array Oper} {n i mem : Nat} {l : List Oper} {K : VL → Sto → Prop} {Q : Ex → VL → Sto → Prop}
  {d : Tmp} {ty : TypeId} {pos : String} {after : Array Edge} {op : Op} {v pv : PV} {g : Option (Nat × Bool)} {x y z : Operand} {T T' e : TypeId} {τ τ' : Ty} {bs nw : List Nat} {segs : List (Nat × Nat × Nat)} {tail so : Bool} {w w' : Value} {c c' : Cell}
section
variable (P orc)
def VFG (f : FuncId) (args : List PV) (γ : Sto) (Q : PV → Sto → Prop) : Prop := ∀ (h : Heap) (S : List Nat) (us : List Value), HOk h → SOk h S → (∀ c ∈ γ, CellR h (own γ ++ S) c.1 c.2) → (own γ).Nodup → (∀ b ∈ own γ, b ∉ S) → RepL h (own γ ++ S) args us →
  EvF P orc f us h fun u h' => ∃ r γ', Q r γ' ∧ Made S h h' γ γ' ∧ RepPV h' (own γ' ++ S) r u
def VCallG (F : PV) (args : List PV) (γ : Sto) (Q : PV → Sto → Prop) : Prop := ∃ f a c, F = .clo f a c ∧ VFG P orc f (a ++ args ++ c) γ Q
end
theorem VFG.call {f : FuncId} {args : List PV} {Q : PV → Sto → Prop} (hf : VFG P orc f args γ Q) : VCallG P orc (.clo f [] []) args γ Q := ⟨f, [], [], rfl, by simpa using hf⟩
theorem VFG.clo {f : FuncId} {a args c : List PV} {Q : PV → Sto → Prop} (hf : VFG P orc f (a ++ (args ++ c)) γ Q) : VCallG P orc (.clo f a c) args γ Q := ⟨f, a, c, rfl, by rw [List.append_assoc]; exact hf⟩
theorem own_app : own (γ ++ σ) = own γ ++ own σ := List.flatMap_append
theorem Lc.sokR (L : Lc S0 h (γ ++ σ) t fl) : SOk h (own σ ++ S0) :=
  have hm : ∀ b, b ∈ own σ ++ S0 → b ∈ own (γ ++ σ) ++ S0 := fun b hb => by
    rcases List.mem_append.1 hb with hb | hb
    · exact List.mem_append_left _ (by rw [own_app]; exact List.mem_append_right _ hb)
    exact List.mem_append_right _ hb
  ⟨fun b hb => L.lt b (hm b hb), L.slots.1.less hm⟩
theorem Made.app (L : Lc S0 h (γ ++ σ) t fl) (m : Made (own σ ++ S0) h h' γ γ') : Made S0 h h' (γ ++ σ) (γ' ++ σ) := by
  have hap := L.apart; rw [own_app] at hap; obtain ⟨_, hap2, hap3⟩ := List.nodup_append.1 hap
  have ha : Aft h h' (own (γ ++ σ)) := m.aft.weak fun b hb => by rw [own_app]; exact List.mem_append_left _ hb
  have hnew : ∀ b ∈ own (γ' ++ σ), b ∈ own (γ ++ σ) ∨ h.next ≤ b := fun b hb => by
    rw [own_app] at hb ⊢; rcases List.mem_append.1 hb with hb | hb
    · rcases m.new b hb with h1 | h1
      · exact .inl (List.mem_append_left _ h1)
      exact .inr h1
    exact .inl (List.mem_append_right _ hb)
  have hN : Goes h (own (γ ++ σ) ++ S0) h' (own (γ' ++ σ) ++ S0) := ha.goes L.ok (fun b hb => List.mem_append_left _ hb) fun b hb => by
    rcases List.mem_append.1 hb with hb | hb
    · rcases hnew b hb with h1 | h1
      · exact .inl (List.mem_append_left _ h1)
      exact .inr h1
    exact .inl (List.mem_append_right _ hb)
  refine ⟨ha, hnew, ?_, fun d hd => ?_⟩
  · rw [own_app]; refine List.nodup_append.2 ⟨m.apart, hap2, fun a h1 b h2 he => ?_⟩; subst he; rcases m.new a h1 with h3 | h3
    · exact hap3 a h3 a h2 rfl
    have := L.lt a (List.mem_append_left _ (by rw [own_app]; exact List.mem_append_right _ h2)); omega
  rcases List.mem_append.1 hd with hd | hd
  · have := m.cells d hd; rw [← List.append_assoc, ← own_app] at this; exact this
  have hbo : ∀ b ∈ blk d.1, b ∈ own σ := fun b hb => List.mem_flatMap.2 ⟨d, hd, hb⟩; refine (L.cells d (List.mem_append_right _ hd)).keep (fun b hb => ?_) hN fun b hb => List.mem_append_left _ (by rw [own_app]; exact List.mem_append_right _ (hbo b hb)); exact m.aft.get b (L.lt b (List.mem_append_left _ (by rw [own_app]; exact List.mem_append_right _ (hbo b hb)))) fun hm => hap3 b hm b (hbo b hb) rfl
theorem VO.callG {f : Operand} {args : Array Operand} {ats : Array TypeId} {F : PV} {asl : List PV} {Q : PV → Sto → Prop} (γ : Sto) (hσ : γ ++ σ = σr) (hf : evV fl f = some F) (ha : evVs fl args.toList = some asl) (hc : VCallG P orc F asl γ Q) (hk : ∀ r γ', Q r γ' → VO P orc ops n l ((d, r) :: fl) (γ' ++ σ) K)
    (hw : wantV ops fl g = some true := by rfl) (hn : (Nat.blt d n && Nat.ble n 4000) = true := by rfl) : VO P orc ops n (⟨some d, .call { callee := .value f, args := args, argTypes := ats }, ty, pos, after, g⟩ :: l) fl σr K := fun h0 G S0 t h ms Iv0 => by
  subst hσ; obtain ⟨n1, n2⟩ := fits hn; have L := Iv0.lc; have hap := L.apart; rw [own_app] at hap; obtain ⟨hap1, hap2, hap3⟩ := List.nodup_append.1 hap; obtain ⟨fid, a, c, rfl, hv⟩ := hc; obtain ⟨va, vc, h1, h2, h3⟩ := (evV_ok Iv0.slots hf : RepPV h _ (.clo fid a c) (evalO t f)); have hargs := (h2.append (evVs_ok Iv0.slots ha)).append h3; rw [own_app, List.append_assoc] at hargs
  have hcells : ∀ c ∈ γ, CellR h (own γ ++ (own σ ++ S0)) c.1 c.2 := fun c hc => by
    have := L.cells c (List.mem_append_left _ hc)
    rwa [own_app, List.append_assoc] at this
  refine EvO.call (want_ok Iv0.slots hw) rfl rfl h1 ((hv h (own σ ++ S0) _ Iv0.ok ⟨fun b hb => L.lt b ?_, L.slots.1.less fun b hb => ?_⟩ hcells hap1 (fun b hb hm => ?_) hargs).mono fun u h' hq => ?_)
  · rcases List.mem_append.1 hb with hb | hb
    · exact List.mem_append_left _ (by rw [own_app]; exact List.mem_append_right _ hb)
    exact List.mem_append_right _ hb
  · rcases List.mem_append.1 hb with hb | hb
    · exact List.mem_append_left _ (by rw [own_app]; exact List.mem_append_right _ hb)
    exact List.mem_append_right _ hb
  · rcases List.mem_append.1 hm with hm | hm
    · exact hap3 b hb b hm rfl
    exact L.sep b (by rw [own_app]; exact List.mem_append_left _ hb) hm
  obtain ⟨r, γ', q1, q2, q3⟩ := hq; refine ⟨_, put_fits n1 t u, hk r γ' q1 h0 G S0 _ h' ms ((Iv0.made (Made.app L q2)).set ?_ n2)⟩; rw [own_app, List.append_assoc]; exact q3
def Cell.flat : Cell → Bool
  | .row _ τ _ => τ.isFlat
  | .var cs => cs.all PV.flat0
  | .cap _ _ τ _ => τ.isFlat
  | .mp κ ν _ => κ.isFlat && ν.isFlat
  | .it _ _ => true
  | .loop _ _ _ _ _ _ _ => false
  | .cel _ _ _ => false
theorem RepV.flat' {τ : Ty} {u : Value} {x : τ.den} (hf : τ.isFlat = true) (hx : RepV h S τ u x) : RepV h' S' τ u x := hx.anyHeap (repV_af1 hf hx)
theorem Elems.flat' {rs : List Value} {xs : List τ.den} (hf : τ.isFlat = true) (he : Elems h S τ rs xs) : Elems h' S' τ rs xs :=
  ⟨he.1, fun i hi => RepC.anyHeap (by
    have h1 := flat_cells (he.2 i hi) hf
    rw [h1]; exact flatC_af τ _) (he.2 i hi)⟩
theorem CellR.flat {w : Value} : ∀ {c : Cell}, c.flat = true → CellR h S w c → (∀ b ∈ blk w, h'.get b = h.get b ∧ b ∈ S') → CellR h' S' w c
  | .row e τ xs, hf, hc, hg => by
    rcases hc with hc | ⟨b, rs, m, rfl, h2, h3, h4⟩
    · exact .inl hc
    obtain ⟨g1, g2⟩ := hg b (by simp [blk])
    exact .inr ⟨b, rs, m, rfl, g2, by rw [g1]; exact h3, h4.flat' hf⟩
  | .var cs, hf, ⟨b, e, vs, h1, h2, h3, h4, h5⟩, hg => by
    subst h1; obtain ⟨g1, g2⟩ := hg b (by simp [blk])
    exact ⟨b, e, vs, rfl, g2, by rw [g1]; exact h3, (RepL.flat0 hf h4).2 _ _, h5⟩
  | .cap e k τ xs, hf, ⟨b, rs, m, h1, h2, h3, h4, h5, h6⟩, hg => by
    subst h1; obtain ⟨g1, g2⟩ := hg b (by simp [blk])
    exact ⟨b, rs, m, rfl, g2, by rw [g1]; exact h3, h4, h5, h6.flat' hf⟩
  | .mp κ ν kvs, hf, ⟨b, es, c, h1, h2, h3, h4, h5⟩, hg => by
    subst h1; obtain ⟨g1, g2⟩ := hg b (by simp [blk]); obtain ⟨f1, f2⟩ := band (show (κ.isFlat && ν.isFlat) = true from hf)
    exact ⟨b, es, c, rfl, g2, by rw [g1]; exact h3, h4, fun i hi hj => ⟨(h5 i hi hj).1.flat' f1, (h5 i hi hj).2.flat' f2⟩⟩
  | .it s pos, hf, ⟨b, h1, h2, h3⟩, hg => by
    subst h1; obtain ⟨g1, g2⟩ := hg b (by simp [blk])
    exact ⟨b, rfl, g2, by rw [g1]; exact h3⟩
  | .loop st jump n fl ps assign body, hf, _, hg => by cases hf
  | .cel e n cs, hf, _, hg => by cases hf
def VEndG (P : Program) (fn : Func) (γ : Sto) (Q : PV → Sto → Prop) : Ex → VL → Sto → Prop := fun e fl σ => e.goes = true ∧ ∃ ps, EndL P fl [] fn.results.toList ps ∧ Q (tupV ps) σ ∧ ((∃ w e k τ xs, tupV ps = .raw w ∧ (w, Cell.cap e k τ xs) ∈ σ) ∨ (own σ = own γ ∧ ∀ c ∈ σ, c.2.flat = true) ∨ (∃ w e τ xs, tupV ps = .raw w ∧ γ = [] ∧ σ = [(w, Cell.row e τ xs)]) ∨ (γ = [] ∧ ∀ (h : Heap) (S : List Nat) (u : Value), RepPV h S (tupV ps) u → (∀ c ∈ σ, CellR h S c.1 c.2) → af u = true → own σ = [] ∧ ∀ (h' : Heap) (S' : List Nat), ∀ c ∈ σ, CellR h' S' c.1 c.2))
theorem VFG.enter {f : FuncId} {args : List PV} {fn : Func} {c : Code} {Q : PV → Sto → Prop} (hfn : P.funcs[f]? = some fn) (hc : fn.body = some c) (ho : ∀ us h, orc f us h = none) (hn : (Nat.blt 4000 fn.ntmps || Nat.blt fn.ntmps args.length) = false)
    (hb : VC P orc none c fn.ntmps (argVL 0 args) γ (VEndG P fn γ Q)) : VFG P orc f args γ Q := fun h S us hok hS hcells hnd hsep ha => by
  have hl := ha.len
  have hn2 : Nat.blt 4000 fn.ntmps = false ∧ Nat.blt fn.ntmps args.length = false := by simpa using hn
  have n3 := nble_no hn2.1; have n4 := nble_no hn2.2; have ha' : RepL (entry h) (own γ ++ S) args us := RepL.nx (h := h) (h' := entry h) (fun _ _ a b => ⟨a, b⟩) ha
  have I0 : Iv (entry h) (own γ) S (entry h) γ (fillTr .leaf 0 us) [] (argVL 0 args) := {
    ok := hok
    s0 := hS.1
    aft := Aft.refl _ _
    cells := fun c hc => (hcells c hc).keep (fun _ _ => rfl) (fun _ _ a b => ⟨a, b⟩) fun b hb => List.mem_append_left _ (List.mem_flatMap.2 ⟨c, hc, hb⟩)
    new := fun b hb => ⟨.inl hb, hsep b hb⟩
    apart := hnd
    mark := fun d hd => by cases hd
    marks := List.nodup_nil
    slots := slots_args (hS.2.ent hcells) ha' (by omega) }
  refine EvF.enter hfn hc (ho us h) (by rw [hl]; exact hn) ((hb (entry h) (own γ) S _ (entry h) [] I0).mono fun e fr h1 hq => ?_); obtain ⟨_, fl', σ', Iv1, he, ps, hps, hQ, hkd⟩ := hq; obtain ⟨h2, d1, d2, d3⟩ := drops_ok Iv1.marks fun d hd => (Iv1.mark d hd).2
  have hgd : ∀ b o, h1.get b = some o → o ≠ .defd → h2.get b = some o := fun b o hg hne => by
    rw [d3 b (fun hm => hne (by have := (Iv1.mark b hm).2; rw [hg] at this; exact Option.some.inj this))]; exact hg
  have a2 : Aft (entry h) h2 (own γ) := Iv1.aft.trans d2 fun i hi => .inr (Iv1.mark i hi).1; have L1 := Iv1.lc; have Lz : Lc (own σ' ++ S) h1 [] fr.t fl' := ⟨L1.ok, L1.lt, (fun c hc => by cases hc), (fun b hb => by cases hb), List.nodup_nil, L1.slots⟩; obtain ⟨us', e1, e2⟩ := hps.ok Lz hgd (fun b _ hg hne hbS => ⟨hgd b _ hg hne, hbS⟩); have hrep := tup_rep e2
  have hrow : ∀ c ∈ σ', ∀ b ∈ blk c.1, h2.get b = h1.get b := fun c hc b hb => by
    obtain ⟨o, hg, hne⟩ := (Iv1.cells c hc).isObj b hb; rw [hgd b _ hg hne, hg]
  have hcell2 : ∀ c ∈ σ', CellR h2 (own σ' ++ S) c.1 c.2 := fun c hc => by
    have hx := Iv1.cells c hc; have hN : GoesR h1 (own σ' ++ S) h2 (own σ' ++ S) := fun b _ hg hne hbS => ⟨hgd b _ hg hne, hbS⟩; have hgb := hrow c hc; obtain ⟨w, cc⟩ := c
    cases cc with
    | row e τ xs =>
      rcases hx with hx | ⟨b, rs, m, h3, h4, h5, h6⟩
      · exact .inl hx
      exact .inr ⟨b, rs, m, h3, h4, hgd b _ h5 (by simp), h6.1, fun i hi => (h6.2 i hi).nxR hN⟩
    | var cs =>
      obtain ⟨b, e, vs, h3, h4, h5, h6, h7⟩ := hx
      exact ⟨b, e, vs, h3, h4, hgd b _ h5 (by simp), h6.nxR hN, h7⟩
    | cap e k τ xs =>
      obtain ⟨b, rs, m, h3, h4, h5, h6, h7, h8⟩ := hx
      exact ⟨b, rs, m, h3, h4, hgd b _ h5 (by simp), h6, h7, h8.1, fun i hi => (h8.2 i hi).nxR hN⟩
    | mp κ ν kvs =>
      obtain ⟨b, es, c, h3, h4, h5, h6, h7⟩ := hx
      exact ⟨b, es, c, h3, h4, hgd b _ h5 (by simp), h6, fun i hi hj => ⟨⟨(h7 i hi hj).1.1, (h7 i hi hj).1.2.nxR hN⟩, ⟨(h7 i hi hj).2.1, (h7 i hi hj).2.2.nxR hN⟩⟩⟩
    | it s pos =>
      obtain ⟨b, h3, h4, h5⟩ := hx
      exact ⟨b, h3, h4, hgd b _ h5 (by simp)⟩
    | loop st jump n fl ps assign body =>
      obtain ⟨l, tmps, d, h3, h4, h5, h6⟩ := hx
      exact ⟨l, tmps, d, h3, h4, hgd l _ h5 (by simp), h6.nxR hN⟩
    | cel e n cs =>
      rcases hx with hx | ⟨b, rs, m, h3, h4, h5, h6, h7⟩
      · exact .inl hx
      exact .inr ⟨b, rs, m, h3, h4, hgd b _ h5 (by simp), h6.nxR hN, h7⟩
  have hnew2 : ∀ b ∈ own σ', b ∈ own γ ∨ h.next ≤ b := fun b hb => (Iv1.new b hb).1; refine ⟨he, h2, us', d1, e1, ?_⟩; unfold leftOf
  cases haf : (af (tupled us') && Nat.ble h.next h2.low) with
  | true =>
    obtain ⟨af1', hlow⟩ := band haf; have hlow := nble hlow; rcases hkd with ⟨w, e, k, τ, xs, hw1, hw2⟩ | ⟨ho1, ho2⟩ | ⟨w, e, τ, xs, hw1, hw2, hw3⟩ | ⟨hg0, hany⟩
    · exfalso; rw [hw1] at hrep; have hw3 : tupled us' = w := hrep; obtain ⟨b, rs, _, h3, _⟩ := Iv1.cells _ hw2; have h3' : w = .slice (some ⟨b, 0, none⟩) xs.length 0 := h3; rw [hw3, h3'] at af1'; cases hx : xs.length <;> rw [hx] at af1' <;> cases af1'
    · have hsame : ∀ b, b < h.next → h2.get b = h.get b := fun b hb => by
        rcases a2.chg b hb with h3 | h3
        · exact h3
        omega
      refine ⟨_, σ', hQ, ⟨Aft.refl _ _, fun b hb => .inl (by rw [← ho1]; exact hb), by rw [ho1]; exact hnd, fun c hc => ?_⟩, hrep.anyAf af1'⟩; refine (hcell2 c hc).flat (ho2 c hc) fun b hb => ?_; have hbo : b ∈ own σ' := List.mem_flatMap.2 ⟨c, hc, hb⟩; have hbl : b < h.next := own_lt hcells hok b (by rw [← ho1]; exact hbo); exact ⟨(hsame b hbl).symm, List.mem_append_left _ hbo⟩
    · subst hw2 hw3; rw [hw1] at hrep; have hw4 : tupled us' = w := hrep; rcases Iv1.cells _ List.mem_cons_self with ⟨hn1, hn2⟩ | ⟨b, rs, m, h3, _⟩
      · have hn1' : w = .slice none 0 0 := hn1; refine ⟨_, _, hQ, ⟨Aft.refl _ _, fun b hb => ?_, ?_, fun c hc => ?_⟩, ?_⟩
        · rw [hn1'] at hb; cases hb
        · rw [hn1']; exact List.nodup_nil
        · rw [List.mem_singleton.1 hc]; exact .inl ⟨hn1, hn2⟩
        rw [hw1]; exact hw4
      exfalso; have h3' : w = .slice (some ⟨b, 0, none⟩) xs.length 0 := h3; rw [hw4, h3'] at af1'; cases hx : xs.length <;> rw [hx] at af1' <;> cases af1'
    obtain ⟨z1, z2⟩ := hany h2 (own σ' ++ S) _ hrep hcell2 af1'; refine ⟨_, σ', hQ, ⟨Aft.refl _ _, fun b hb => ?_, ?_, fun c hc => z2 _ _ c hc⟩, hrep.anyAf af1'⟩
    · rw [z1] at hb; cases hb
    rw [z1]; exact List.nodup_nil
  | false =>
    refine ⟨_, σ', hQ, ⟨⟨a2.next, a2.get, fun x => a2.ok x, fun e h3 h4 h5 => Nat.le_min.2 ⟨h3, a2.low e (Nat.le_trans h4 (Nat.le_refl _)) h4 h5⟩, fun b hb => ?_, Nat.min_le_left _ _⟩, hnew2, Iv1.apart, fun c hc => (hcell2 c hc).keep (fun _ _ => rfl) (fun _ _ a b => ⟨a, b⟩) fun b hb => List.mem_append_left _ (List.mem_flatMap.2 ⟨c, hc, hb⟩)⟩, RepPV.nx (h := h2) (h' := { next := h2.next, low := min h.low h2.low, objs := h2.objs }) (fun _ _ a b => ⟨a, b⟩) hrep⟩; rcases a2.chg b hb with h3 | h3
    · exact .inl h3
    exact .inr (Nat.le_trans (Nat.min_le_right _ _) h3)
end Go.Fs
