/- Parts of the proof: an evaluator of the model, what it is sound for, and contracts of functions. No condition. -/
import Derived.Test.YteooaaiacpcfoaaGreatDoorP2
import Derived.KernelRfl
set_option linter.all false
namespace Go.Fs
variable {P : Program} {orc : FuncId -> List Value -> Heap -> Option (Value × Heap)} {aR : Option Nat} {h h' h0 h1 h2 hs : Heap} {S S' S0 B G : List Nat} {σ σ' : aM} {t t' : Tr} {ms : List Nat} {fl : VL} {ops : Array Oper} {n i mem : Nat} {l : List Oper} {K : VL -> aM -> Prop} {Q : Ex -> VL -> aM -> Prop}
  {d : Tmp} {ty : TypeId} {pos : String} {after : Array Edge} {op : Op} {v : PV} {g : Option (Nat × Bool)} {bs nw : List Nat} {segs : List (Nat × Nat × Nat)} {tail so : Bool}
def nK : List Nat -> Nat -> Bool
  | [], _ => false
  | k :: r, i => bif Nat.beq k i then true else nK r i
def fG (old : Bool) (d : Nat) (nw : List Nat) : List Nat := bif old then nw.filter (fun k => !Nat.beq k d) else d :: nw
def KS (nw : List Nat) : Operand -> Bool
  | .tmp i => !nK nw i
  | _ => true
theorem o3 {d k : Nat} (hk : k ≠ d) : ∀ {nw : List Nat}, nK (nw.filter fun k => !Nat.beq k d) k = nK nw k
  | [] => rfl
  | a :: r => by
    rw [List.filter_cons]; by_cases ha : a = d
    . subst ha; rw [Nat.beq_refl]; simp only [Bool.not_true, Bool.false_eq_true, if_false, nK]; rw [dO (Ne.symm hk)]; exact o3 hk
    rw [dO ha]; simp only [Bool.not_false, if_true, nK]; rw [o3 hk]
def Old (S0 : List Nat) (h : Heap) (σ : aM) (t : Tr) (fl : VL) (nw : List Nat) (so : Bool) (segs : List (Nat × Nat × Nat)) : Prop := ∃ hs, nY hs /\ eN hs h /\ mC hs segs /\ TX hs S0 /\
  (∀ k pv, kN fl k = some pv -> nK nw k = false -> aI hs (own σ ++ S0) pv (t.get k)) /\ (so = true -> ∀ c ∈ σ, bL hs (own σ ++ S0) c.1 c.2)
section
variable (P orc)
def VD (ops : Array Oper) (n : Nat) (l : List Oper) (i : Nat) (fl : VL) (nw : List Nat) (σ : aM) (so : Bool) (bs : List Nat) (mem : Nat) (tail : Bool) (K : VL -> aM -> Prop) : Prop :=
  ∀ (h0 : Heap) (G S0 : List Nat) (t : Tr) (h : Heap) (ms : List Nat) (segs : List (Nat × Nat × Nat)), Iv h0 G S0 h σ t ms fl -> (tail = false -> Old S0 h σ t fl nw so segs) ->
    tQ P orc ops n l i ⟨t, h, bs, segs, mem, tail⟩ fun s => ∃ dJ σ', Iv h0 G S0 s.h σ' s.t ms dJ /\ K dJ σ'
end
theorem U.drawn {id : Nat} {ops : Array Oper} (hx : VD P orc ops n ops.toList 0 fl [] σ true [] 0 false fun dJ σ' => Q .normal dJ σ') (hl : xX ops = false := by kernel_rfl) : U P orc aR (.region id ops true) n fl σ Q := fun h0 G S0 t h ms I => by
  refine iP.draw hl ?_; obtain ⟨m, s', h1, dJ, σ', h2, h3⟩ := hx h0 G S0 t h ms [] I fun _ => ⟨h, I.ok, eN.refl h, mC.nil, I.lc.slt, fun k pv hk _ => I.aH k pv hk, fun _ => I.cells⟩; exact ⟨m, s', h1, rfl, dJ, σ', h2, h3⟩
theorem VD.nil (hk : K fl σ) : VD P orc ops n [] i fl nw σ so bs mem tail K := fun _ _ _ _ _ _ _ I _ => tQ.nil ⟨fl, σ, I, hk⟩
theorem Old.set {u : Value} {old : Bool} (ho : Old S0 h σ t fl nw so segs) (hd : d < 4000) (hu : old = true -> ∀ hs, nY hs -> eN hs h -> TX hs S0 -> (∀ k pv, kN fl k = some pv -> nK nw k = false -> aI hs (own σ ++ S0) pv (t.get k)) -> (so = true -> ∀ c ∈ σ, bL hs (own σ ++ S0) c.1 c.2) -> aI hs (own σ ++ S0) v u) :
    Old S0 h σ (t.set depth d u) ((d, v) :: fl) (fG old d nw) so segs := by
  obtain ⟨hs, h1, h2, h3, h4, h5, h6⟩ := ho; refine ⟨hs, h1, h2, h3, h4, fun k pv hk hn => ?_, h6⟩; rw [vH t d u k hd]; simp only [kN] at hk
  cases hb : Nat.beq d k with
  | true =>
    rw [hb] at hk; simp only [cond_true, Option.some.injEq] at hk; subst hk; rw [if_pos (bD hb).symm]
    cases old with
    | true => exact hu rfl hs h1 h2 h4 h5 h6
    | false =>
      simp only [fG, cond_false, nK, hb, cond_true] at hn
      cases hn
  | false =>
    rw [hb] at hk; simp only [cond_false] at hk; have cA := fP hb; rw [if_neg (Ne.symm cA)]; refine h5 k pv hk ?_
    cases old with
    | true => rw [fG, cond_true, o3 (Ne.symm cA)] at hn; exact hn
    | false => simpa only [fG, cond_false, nK, hb] using hn
theorem Old.next {lo hi : Nat} (ho : Old S0 h σ t fl nw so segs) (ha : eN h h') (hl : h.next <= lo) : Old S0 h' σ t fl nw so ((i, lo, hi) :: segs) := by
  obtain ⟨hs, h1, h2, h3, h4, h5, h6⟩ := ho; exact ⟨hs, h1, h2.trans ha, mC.cons (Nat.le_trans h2.next hl) h3, h4, h5, h6⟩
theorem Old.vE {lo hi : Nat} (ho : Old S0 h σ t fl nw so segs) (hl : h.next <= lo) : Old S0 h σ t fl nw so ((i, lo, hi) :: segs) := ho.next (eN.refl h) hl
theorem zR {fl : VL} (h5 : ∀ k pv, kN fl k = some pv -> nK nw k = false -> aI hs S pv (t.get k)) {x : Operand} {pv : PV} (hx : aQ fl x = some pv) (ho : KS nw x = true) : aI hs S pv (aA t x) := by
  cases x with
  | tmp k => exact h5 k pv hx (by simpa [KS] using ho)
  | const c =>
    obtain ⟨h1, h2⟩ := KN hx; show aI hs S pv (if af c then c else gP)
    rw [if_pos h1]; exact h2 _ _
  | global g => cases hx
  | func f => obtain rfl := Option.some.inj hx; exact ⟨[], [], rfl, rfl, rfl⟩
def EV (nw : List Nat) (op : Op) : Bool := op.operands.toList.all (KS nw)
theorem zS {fl : VL} (h5 : ∀ k pv, kN fl k = some pv -> nK nw k = false -> aI hs S pv (t.get k)) (ho : EV nw op = true) : AS hs S t fl op := fun x hx pv hp => zR h5 hp (List.all_eq_true.1 ho x hx)
theorem VD.c {b : Nat} (hc : aF P fl [] op v) (hk : VD P orc ops n l (i + 1) ((d, v) :: fl) (fG (EV nw op || v.jA) d nw) σ so (bs ++ [b]) mem tail K)
    (hb : aJ bs ⟨some d, op, ty, pos, after, g⟩ = b := by rfl) (hw : cV ops fl g = some true := by rfl) (hn : (Nat.blt d n && Nat.ble n 4000) = true := by rfl) :
    VD P orc ops n (⟨some d, op, ty, pos, after, g⟩ :: l) i fl nw σ so bs mem tail K := fun h0 G S0 t h ms segs I ho => by
  obtain ⟨n1, n2⟩ := fits hn; obtain ⟨u, e1, e2⟩ := hc.2 h (own σ ++ S0) t I.aH.rG (fun _ hc => by cases hc); refine tQ.op (s' := ⟨t.set depth d u, h, bs ++ [b], segs, mem, tail⟩) ?_ (hk h0 G S0 _ h ms segs (I.set e1 n2) fun ht => (ho ht).set n2 fun hold hs a1 a2 a3 a4 a5 => ?_)
  . unfold eF; have sJ : b9 ops t ⟨some d, op, ty, pos, after, g⟩ = some true := cE I.aH hw; simp only [sJ, hc.1, if_true, e2, Nat.beq_refl, cond_true, bN n1, Option.map_some, hb]
  rcases Bool.or_eq_true_iff.1 hold with hold | hold
  . obtain ⟨u', f1, f2⟩ := hc.2 hs (own σ ++ S0) t (zS a4 hold) (fun _ hc => by cases hc)
    have : u' = u := by
      have g1 := e2 none 0 "" #[] none h; rw [f2 none 0 "" #[] none h] at g1; simpa using g1
    rw [<- this]; exact f1
  exact (aI.jA hold e1).2 _ _
theorem vL (I : Iv h0 G S0 h σ t ms fl) {o : Oper} {b : Nat} (hb : aJ bs o = b) (ho : tail = false -> Old S0 h σ t fl nw so segs) :
    ∃ M, l4 o ⟨t, h, bs, segs, mem, tail⟩ = M /\ nY M /\ M.next = h.next /\ M.low = h.next /\ (∀ b o, M.get b = some o -> h.get b = some o) /\ (Nat.beq (mem &&& b) mem = true -> M = entry h) /\ (tail = false -> ∃ hs, nY hs /\ eN hs h /\ eN hs M /\ mC hs segs /\ TX hs S0 /\
      (∀ k pv, kN fl k = some pv -> nK nw k = false -> aI hs (own σ ++ S0) pv (t.get k)) /\ (so = true -> ∀ c ∈ σ, bL hs (own σ ++ S0) c.1 c.2)) := by
  have hM4 : ∀ b o', (l4 o ⟨t, h, bs, segs, mem, tail⟩).get b = some o' -> h.get b = some o' := by
    unfold l4; simp only [hb]
    cases Nat.beq (mem &&& b) mem with
    | true => exact fun b o hg => hg
    | false => exact fun b o hg => x4 segs h.aB hg
  refine ⟨_, rfl, fun b o' hg => I.ok b o' (hM4 b o' hg), rfl, rfl, hM4, fun fU => ?_, fun ht => ?_⟩
  . unfold l4 entry; simp only [hb, fU, cond_true]
  obtain ⟨hs, h1, h2, h3, h4, h5, h6⟩ := ho ht; refine ⟨hs, h1, h2, ?_, h3, h4, h5, h6⟩; unfold l4; simp only [hb]
  cases Nat.beq (mem &&& b) mem with
  | true => exact ⟨h2.next, h2.get, h2.ok, fun e h1 h3 => Nat.le_trans h3 h2.next⟩
  | false => exact YD h2 h3
theorem YG {b : Nat} {o : Oper} {u : Value} {M : Heap} (hM : l4 o ⟨t, h, bs, segs, mem, tail⟩ = M) (hMn : M.next = h.next) (hMl : M.low = h.next) (hb : aJ bs o = b) (hd : o.dst = some d) (qG : calm o.op = false) (hw : b9 ops t o = some true) (mI : (tail && !Nat.beq (mem &&& b) mem) = false)
    (cO : fJ P o (aA t) M = some (u, M)) (n1 : Nat.blt d n = true) : eF (fJ P) ops n o i ⟨t, h, bs, segs, mem, tail⟩ = some ⟨t.set depth d u, h, bs ++ [b], (i, h.next, h.next) :: segs, mem ||| 2 ^ i, tail⟩ := by
  unfold eF
  have hM' : ({ next := h.next, low := h.next, aB := bif Nat.beq (mem &&& b) mem then h.aB else mask b segs h.aB } : Heap) = M := by
    rw [<- hM]; unfold l4; simp only [hb]
  simp only [hw, qG, Bool.false_eq_true, if_false, hb, mI, cond_false, hM', cO]; simp only [hMn, hMl, KI, oK, cond_false, hd, bN n1, cond_true, TT, List.nil_append]
theorem VD.r {b : Nat} (cs : aM) (hc : dV P fl cs op v) (gX : cs = [] \/ (so = true /\ cs = σ)) (hk : VD P orc ops n l (i + 1) ((d, v) :: fl) (fG true d nw) σ so (bs ++ [b]) (mem ||| 2 ^ i) false K)
    (hb : aJ bs ⟨some d, op, ty, pos, after, g⟩ = b := by rfl) (hold : EV nw op = true := by rfl) (hw : cV ops fl g = some true := by rfl) (hn : (Nat.blt d n && Nat.ble n 4000) = true := by rfl) :
    VD P orc ops n (⟨some d, op, ty, pos, after, g⟩ :: l) i fl nw σ so bs mem false K := fun h0 G S0 t h ms segs I ho => by
  obtain ⟨n1, n2⟩ := fits hn; obtain ⟨M, m1, m2, m3, m4, m5, m6, m7⟩ := vL (mem := mem) I hb ho; obtain ⟨hs, a1, a2, a3, a4, a5, a6, a7⟩ := m7 rfl
  have oH : ∀ c ∈ cs, bL hs (own σ ++ S0) c.1 c.2 := by
    rcases gX with rfl | ⟨hso, gX⟩
    . intro c hc; cases hc
    rw [gX]; exact a7 hso
  obtain ⟨u, e1, e2⟩ := hc.2 hs (own σ ++ S0) t (zS a6 hold) oH; have cO := e2 M (fun b o hg => by rw [a3.get b (a1 b o hg)]; exact hg) (some d) ty pos after g; have mD : aI h (own σ ++ S0) v u := e1.nx (a2.nx a1); refine tQ.op (YG m1 m3 m4 hb rfl hc.1 (cE I.aH hw) rfl cO n1) (hk h0 G S0 _ h ms _ (I.set mD n2) fun _ => ?_); refine Old.vE ?_ (Nat.le_refl _); refine Old.set (old := true) ⟨hs, a1, a2, a4, a5, a6, a7⟩ n2 fun _ D0 b1 b2 b3 b4 b5 => ?_
  have akK : ∀ c ∈ cs, bL D0 (own σ ++ S0) c.1 c.2 := by
    rcases gX with rfl | ⟨hso, gX⟩
    . intro c hc; cases hc
    rw [gX]; exact b5 hso
  obtain ⟨u', f1, f2⟩ := hc.2 D0 (own σ ++ S0) t (zS b4 hold) akK; have g1 := e2 h (fun b o hg => by rw [a2.get b (a1 b o hg)]; exact hg) (some d) ty pos after g; rw [f2 h (fun b o hg => by rw [b2.get b (b1 b o hg)]; exact hg) (some d) ty pos after g] at g1
  have : u' = u := by simpa using g1
  rw [<- this]; exact f1
theorem VD.skip {b : Nat} (hk : VD P orc ops n l (i + 1) ((d, .raw undef) :: fl) (fG true d nw) σ so (bs ++ [b]) mem tail K)
    (hb : aJ bs ⟨some d, op, ty, pos, after, g⟩ = b := by rfl) (hw : cV ops fl g = some false := by rfl) (hn : (Nat.blt d n && Nat.ble n 4000) = true := by rfl) :
    VD P orc ops n (⟨some d, op, ty, pos, after, g⟩ :: l) i fl nw σ so bs mem tail K := fun h0 G S0 t h ms segs I ho => by
  obtain ⟨n1, n2⟩ := fits hn; have sJ : b9 ops t ⟨some d, op, ty, pos, after, g⟩ = some false := cE I.aH hw; refine tQ.op (s' := ⟨t.set depth d undef, h, bs ++ [b], segs, mem, tail⟩) ?_ (hk h0 G S0 _ h ms segs (I.set (show aI _ _ (.raw undef) undef from rfl) n2) fun ht => (ho ht).set n2 fun _ _ _ _ _ _ _ => (show aI _ _ (.raw undef) undef from rfl)); unfold eF; simp only [sJ, bN n1, Option.map_some, hb]
theorem VD.splitB {x : Tmp} {r : Bool} (hc : kN fl x = some (.v .bool r)) (ht : r = true -> VD P orc ops n l i ((x, .v .bool true) :: fl) (fG true x nw) σ so bs mem tail K) (hf : r = false -> VD P orc ops n l i ((x, .v .bool false) :: fl) (fG true x nw) σ so bs mem tail K) :
    VD P orc ops n l i fl nw σ so bs mem tail K := fun h0 G S0 t h ms segs I ho => by
  have hx : Iv h0 G S0 h σ t ms ((x, .v .bool r) :: fl) := { I with aH := I.aH.cons (I.aH x _ hc) }
  have hO : tail = false -> Old S0 h σ t ((x, .v .bool r) :: fl) (fG true x nw) so segs := fun e => by
    obtain ⟨hs, h1, h2, h3, h4, h5, h6⟩ := ho e; refine ⟨hs, h1, h2, h3, h4, fun k pv hk hn => ?_, h6⟩; simp only [kN] at hk
    cases hb : Nat.beq x k with
    | true =>
      rw [hb] at hk; simp only [cond_true, Option.some.injEq] at hk; subst hk; rw [<- bD hb]
      exact (aI.jA (pv := .v .bool r) rfl (I.aH x _ hc)).2 _ _
    | false =>
      rw [hb] at hk; simp only [cond_false] at hk; refine h5 k pv hk ?_; rw [fG, cond_true, o3 (Ne.symm (fP hb))] at hn; exact hn
  cases r with
  | true => exact ht rfl h0 G S0 t h ms segs hx hO
  | false => exact hf rfl h0 G S0 t h ms segs hx hO
theorem VD.jK {x : Tmp} {p : Prop} {inst : Decidable p} (hc : kN fl x = some (.v .bool (@decide p inst))) (ht : p -> VD P orc ops n l i ((x, .v .bool true) :: fl) (fG true x nw) σ so bs mem tail K) (hf : ¬ p -> VD P orc ops n l i ((x, .v .bool false) :: fl) (fG true x nw) σ so bs mem tail K) :
    VD P orc ops n l i fl nw σ so bs mem tail K := VD.splitB hc (fun h => ht (of_decide_eq_true h)) fun h => hf (of_decide_eq_false h)
theorem VD.call {b : Nat} {f : Operand} {args : Array Operand} {lR : Array TypeId} {F r : PV} {q9 : List PV} (hf : aQ fl f = some F) (ha : lG fl args.toList = some q9) (hc : qQ P orc F q9 r) (hk : VD P orc ops n l (i + 1) ((d, r) :: fl) (fG r.flat d nw) σ so (bs ++ [b]) (mem ||| 2 ^ i) false K)
    (hb : aJ bs ⟨some d, .call { callee := .value f, args := args, argTypes := lR }, ty, pos, after, g⟩ = b := by rfl) (hold : (KS nw f && args.toList.all (KS nw)) = true := by rfl) (hw : cV ops fl g = some true := by rfl) (hn : (Nat.blt d n && Nat.ble n 4000) = true := by rfl) :
    VD P orc ops n (⟨some d, .call { callee := .value f, args := args, argTypes := lR }, ty, pos, after, g⟩ :: l) i fl nw σ so bs mem false K := fun h0 G S0 t h ms segs I ho => by
  obtain ⟨n1, n2⟩ := fits hn; obtain ⟨o1, o2⟩ := aT hold; obtain ⟨M, m1, m2, m3, m4, m5, m6, m7⟩ := vL (mem := mem) I hb ho; obtain ⟨hs, a1, a2, a3, a4, a5, a6, a7⟩ := m7 rfl; have hN : dC hs (own σ ++ S0) M (own σ ++ S0) := a3.nx a1
  have lW : ∀ (l : List Operand) (q9 : List PV), lG fl l = some q9 -> l.all (KS nw) = true -> aX M (own σ ++ S0) q9 (l.map (aA t)) := by
    intro l
    induction l with
    | nil => intro q9 hx _; obtain rfl := Option.some.inj hx; rfl
    | cons x r ih =>
      intro q9 hx hl; rw [List.all_cons] at hl; obtain ⟨l1, l2⟩ := aT hl; simp only [lG] at hx; split at hx
      . rename_i v QY hv B2; obtain rfl := Option.some.inj hx; exact ⟨_, _, rfl, (zR a6 hv l1).nx hN, ih QY B2 l2⟩
      cases hx
  obtain ⟨NT, ca, cc, h1, h2⟩ := hc.ev m2 ⟨fun b hb => by rw [m3]; exact Lc.lt I.lc b hb, I.aH.1.seen a2 a3 a5⟩ ((zR a6 hf o1).nx hN) (lW _ _ ha o2); refine tQ.call (o := ⟨some d, .call { callee := .value f, args := args, argTypes := lR }, ty, pos, after, g⟩) (cE I.aH hw) rfl rfl h1 rfl ?_; rw [m1]; refine h2.mono fun u h' hq => ?_; obtain ⟨q1, q2, q3⟩ := hq; have hA := q1.after; have hl : h.next <= h'.low := hA.low h.next (by omega) (by omega)
  have dN : Nat.ble h.next h'.low = true := by rw [Nat.ble_eq]; exact hl
  have fH : h.next <= h'.next := by have := hA.next; omega
  refine ⟨l5 fH, by simp only [dN, Bool.true_or], _, bN n1 t u, ?_⟩
  have hd : jI ⟨some d, .call { callee := .value f, args := args, argTypes := lR }, ty, pos, after, g⟩ i ⟨t, h, bs, segs, mem, false⟩ (t.set depth d u) h' =
      ⟨t.set depth d u, { next := h'.next, low := h.low, aB := bE h.next h'.next h'.aB ++ h.aB }, bs ++ [b], (i, h.next, h'.next) :: segs, mem ||| 2 ^ i, false⟩ := by
    unfold jI; simp only [dN, cond_true, hb]
  rw [hd]; obtain ⟨e1, e2⟩ := yI (h' := h') I.ok m5 m3 hA m2; have eA : cK h { next := h'.next, low := h.low, aB := bE h.next h'.next h'.aB ++ h.aB } [] := ⟨e1.next, fun b hb _ => e1.get b hb, e1.ok, fun e h3 h4 _ => e1.low e h3 h4, fun b hb => .inl (e1.get b hb), Nat.le_refl _⟩; refine hk h0 G S0 _ _ ms _ ((I.calm eA).set (q2.nx (e2 _)) n2) fun _ => ?_; exact ((Old.set (old := r.flat) ⟨hs, a1, a2, a4, a5, a6, a7⟩ n2 fun U0 _ _ _ _ _ _ => (q2.flat U0).2 _ _)).next e1 (Nat.le_refl _)
theorem VD.x8 {b : Nat} {f : Operand} {args : Array Operand} {lR : Array TypeId} {F r : PV} {q9 : List PV} (hf : aQ fl f = some F) (ha : lG fl args.toList = some q9) (hc : qQ P orc F q9 r) (hk : VD P orc ops n l (i + 1) ((d, r) :: fl) (fG r.flat d nw) σ so (bs ++ [b]) (mem ||| 2 ^ i) tail K)
    (hb : aJ bs ⟨some d, .call { callee := .value f, args := args, argTypes := lR }, ty, pos, after, g⟩ = b := by rfl) (fU : Nat.beq (mem &&& b) mem = true := by rfl) (hw : cV ops fl g = some true := by rfl) (hn : (Nat.blt d n && Nat.ble n 4000) = true := by rfl) :
    VD P orc ops n (⟨some d, .call { callee := .value f, args := args, argTypes := lR }, ty, pos, after, g⟩ :: l) i fl nw σ so bs mem tail K := fun h0 G S0 t h ms segs I ho => by
  obtain ⟨n1, n2⟩ := fits hn; obtain ⟨M, m1, m2, m3, m4, m5, m6, m7⟩ := vL (mem := mem) I hb ho; obtain rfl := m6 fU; have Le := I.lc.aB (h' := entry h) (fun _ => rfl) rfl; obtain ⟨NT, ca, cc, h1, h2⟩ := hc.ev m2 Le.ag6 (cR Le.aH hf) (rF Le.aH ha); refine tQ.call (o := ⟨some d, .call { callee := .value f, args := args, argTypes := lR }, ty, pos, after, g⟩) (cE I.aH hw) rfl rfl h1 (by simp only [hb, fU]; simp) ?_; rw [m1]; refine h2.mono fun u h' hq => ?_; obtain ⟨q1, q2, q3⟩ := hq; have hA := q1.after; have hl : h.next <= h'.low := hA.low h.next (Nat.le_refl _) (Nat.le_refl _)
  have dN : Nat.ble h.next h'.low = true := by rw [Nat.ble_eq]; exact hl
  have fH : h.next <= h'.next := hA.next; refine ⟨l5 fH, by simp only [dN, Bool.true_or], _, bN n1 t u, ?_⟩
  have hd : jI ⟨some d, .call { callee := .value f, args := args, argTypes := lR }, ty, pos, after, g⟩ i ⟨t, h, bs, segs, mem, tail⟩ (t.set depth d u) h' =
      ⟨t.set depth d u, { next := h'.next, low := h.low, aB := bE h.next h'.next h'.aB ++ h.aB }, bs ++ [b], (i, h.next, h'.next) :: segs, mem ||| 2 ^ i, tail⟩ := by
    unfold jI; simp only [dN, cond_true, hb]
  rw [hd]; obtain ⟨e1, e2⟩ := yI (h' := h') I.ok m5 rfl hA m2; have eA : cK h { next := h'.next, low := h.low, aB := bE h.next h'.next h'.aB ++ h.aB } [] := ⟨e1.next, fun b hb _ => e1.get b hb, e1.ok, fun e h3 h4 _ => e1.low e h3 h4, fun b hb => .inl (e1.get b hb), Nat.le_refl _⟩; refine hk h0 G S0 _ _ ms _ ((I.calm eA).set (q2.nx (e2 _)) n2) fun ht => ?_; exact ((ho ht).set n2 fun U0 _ _ _ _ _ _ => (q2.flat U0).2 _ _).next e1 (Nat.le_refl _)
end Go.Fs
namespace Go.Fs
variable {P : Program} {orc : FuncId -> List Value -> Heap -> Option (Value × Heap)} {h h' h0 : Heap} {fl : FL} {op : Op} {v : Value} {S S' S0 : List Nat}
theorem kE.ao0 {T e : TypeId} {τ : Ty} (hT : fW P T e τ) {v : Value} {xs : List τ.den} (hv : kE h S τ v xs) {lo : Option Value} (H : Heap) : bV P T v lo none none H = bV P T v lo (some (.int .i64 (xs.length : Nat))) none H := by
  rcases hv with ⟨rfl, rfl⟩ | ⟨b, o, mk, rfl, _⟩
  . simp only [bV, hT.sl.sl, dA, List.length_nil]; rfl
  have h1 : dA (some (.int .i64 (xs.length : Nat))) xs.length = some xs.length := by
    simp only [dA, Int.natCast_nonneg, if_true, Int.toNat_natCast]
  simp only [bV, hT.sl.sl, h1]; rfl
theorem kE.xL {T e : TypeId} {τ : Ty} (hT : fW P T e τ) {v : Value} {xs : List τ.den} (hv : kE h S τ v xs) {a : Int} (h0 : 0 <= a /\ a <= (xs.length : Nat)) :
    ∃ w, (∀ nn ll, bV P T v (some (.int .i64 a)) none none { next := nn, low := ll, aB := h.aB } = some w) /\ kE h S τ w (xs.drop a.toNat) := by
  obtain ⟨w, h1, h2⟩ := hv.cut hT (a := a) (b := (xs.length : Nat)) ⟨h0.1, h0.2, Int.le_refl _⟩; refine ⟨w, fun nn ll => by rw [hv.ao0 hT]; exact h1 nn ll, ?_⟩
  rwa [Int.toNat_natCast, List.take_length] at h2
theorem akL (p q : Int) : (if q > p then q else p) = max p q := by
  rw [Int.max_def]; split <;> split <;> omega
end Go.Fs
namespace Go.Fs
variable {P : Program} {orc : FuncId -> List Value -> Heap -> Option (Value × Heap)} {aR : Option Nat} {h h' h0 h1 h2 : Heap} {S S' S0 B G : List Nat} {σ σ' : aM} {t t' : Tr} {ms : List Nat} {fl : VL} {ops : Array Oper} {n : Nat} {l : List Oper} {K : VL -> aM -> Prop} {Q : Ex -> VL -> aM -> Prop}
  {d : Tmp} {ty : TypeId} {pos : String} {after : Array Edge} {op : Op} {v pv : PV} {g : Option (Nat × Bool)} {x y z : Operand} {T T' e : TypeId} {τ τ' : Ty}
theorem aF.move (hx : aQ fl x = some pv) : aF P fl σ (.move x) pv := ⟨rfl, fun h S t hs _ => ⟨aA t x, hs x (by simp [Op.operands]) _ hx, fun _ _ _ _ _ _ => rfl⟩⟩
theorem aF.assign (hx : aQ fl x = some pv) : aF P fl σ (.assign x) pv := ⟨rfl, fun h S t hs _ => ⟨aA t x, hs x (by simp [Op.operands]) _ hx, fun _ _ _ _ _ _ => rfl⟩⟩
theorem aF.iD (hc : aQ fl z = some (.v .bool true)) (hx : aQ fl x = some pv) : aF P fl σ (.pick z x y) pv := ⟨rfl, fun h S t hs _ => ⟨aA t x, hs x (by simp [Op.operands]) _ hx, fun _ _ _ _ _ H => by
  have := (hs z (by simp [Op.operands]) _ hc : aI h S (.v .bool true) _).bool; show (match aA t z with | .bool true => some (aA t x, H) | .bool false => some (aA t y, H) | _ => none) = _
  rw [this]⟩⟩
theorem aF.dK (hc : aQ fl z = some (.v .bool false)) (hy : aQ fl y = some pv) : aF P fl σ (.pick z x y) pv := ⟨rfl, fun h S t hs _ => ⟨aA t y, hs y (by simp [Op.operands]) _ hy, fun _ _ _ _ _ H => by
  have := (hs z (by simp [Op.operands]) _ hc : aI h S (.v .bool false) _).bool; show (match aA t z with | .bool true => some (aA t x, H) | .bool false => some (aA t y, H) | _ => none) = _
  rw [this]⟩⟩
theorem aF.bin {b : BinOp} {p q : PV} (hx : aQ fl x = some p) (hy : aQ fl y = some q) (hv : ∀ (h : Heap) (S : List Nat) (a c : Value), aI h S p a -> aI h S q c -> ∃ u, aI h S v u /\ (af a && af c) = true /\ bU P (do eqGuard b T x y a c; binOp b T a c) = some u) : aF P fl σ (.binOp b T x y T') v :=
  ⟨rfl, fun h S t hs _ => by
    obtain ⟨u, h1, h2, h3⟩ := hv h S _ _ (hs x (by simp [Op.operands]) _ hx) (hs y (by simp [Op.operands]) _ hy); refine ⟨u, h1, fun _ _ _ _ _ H => ?_⟩; show (if (af (aA t x) && af (aA t y)) = true then _ else _) = _
    rw [if_pos h2, h3]; rfl⟩
theorem aF.rI {b : BinOp} {k k' : IntKind} {p q : Int} {u : Value} (hx : aQ fl x = some (.v (.int k) p)) (hy : aQ fl y = some (.v (.int k') q)) (hu : bU P (do eqGuard b T x y (.int k p) (.int k' q); binOp b T (.int k p) (.int k' q)) = some u) (hv : ∀ h S, aI h S v u) : aF P fl σ (.binOp b T x y T') v :=
  .bin hx hy fun h S a c ha hc => by
    obtain rfl := aE.int ha; obtain rfl := aE.int hc; exact ⟨u, hv h S, rfl, hu⟩
section
variable {p q : Int}
abbrev fit (n : Int) : Prop := -9223372036854775808 <= n /\ n <= 9223372036854775807
theorem aF.add (hx : aQ fl x = some (.v (.int .i64) p)) (hy : aQ fl y = some (.v (.int .i64) q)) (h0 : fit (p + q)) : aF P fl σ (.binOp .add T x y T') (.v (.int .i64) (p + q)) :=
  .rI hx hy (u := .int .i64 (IntKind.i64.wrap (p + q))) rfl fun h S => by rw [wrap64 h0.1 h0.2]; exact aE.ofInt _ _
theorem aF.sub (hx : aQ fl x = some (.v (.int .i64) p)) (hy : aQ fl y = some (.v (.int .i64) q)) (h0 : fit (p - q)) : aF P fl σ (.binOp .sub T x y T') (.v (.int .i64) (p - q)) :=
  .rI hx hy (u := .int .i64 (IntKind.i64.wrap (p - q))) rfl fun h S => by rw [wrap64 h0.1 h0.2]; exact aE.ofInt _ _
theorem aF.mul (hx : aQ fl x = some (.v (.int .i64) p)) (hy : aQ fl y = some (.v (.int .i64) q)) (h0 : fit (p * q)) : aF P fl σ (.binOp .mul T x y T') (.v (.int .i64) (p * q)) :=
  .rI hx hy (u := .int .i64 (IntKind.i64.wrap (p * q))) rfl fun h S => by rw [wrap64 h0.1 h0.2]; exact aE.ofInt _ _
variable {k : IntKind}
theorem vM (b : BinOp) (r : Bool) (hr : Op.intCmp b p q = pure (.bool r)) (ha : ∀ s : Sem Value, binOp b T (.int k p) (.int k q) = s -> s = Op.intCmp b p q) (hg : eqGuard b T x y (.int k p) (.int k q) = pure ()) : bU P (do eqGuard b T x y (.int k p) (.int k q); binOp b T (.int k p) (.int k q)) = some (.bool r) := by
  rw [hg, ha _ rfl, hr]; rfl
theorem zT {b : BinOp} (hb : binOp b T (.int k p) (.int k q) = if k ≠ k then stuck "BinOp: operands of different kinds" else Op.intCmp b p q) : binOp b T (.int k p) (.int k q) = Op.intCmp b p q := by rw [hb, if_neg (by simp)]
theorem aF.lss (hx : aQ fl x = some (.v (.int k) p) := by rfl) (hy : aQ fl y = some (.v (.int k) q) := by rfl) : aF P fl σ (.binOp .lss T x y T') (.v .bool (decide (p < q))) :=
  .rI hx hy (u := .bool (decide (p < q))) (vM .lss _ rfl (fun s hs => by rw [<- hs]; exact zT rfl) rfl) fun h S => aE.ofBool _
theorem aF.leq (hx : aQ fl x = some (.v (.int k) p) := by rfl) (hy : aQ fl y = some (.v (.int k) q) := by rfl) : aF P fl σ (.binOp .leq T x y T') (.v .bool (decide (p <= q))) :=
  .rI hx hy (u := .bool (decide (p <= q))) (vM .leq _ rfl (fun s hs => by rw [<- hs]; exact zT rfl) rfl) fun h S => aE.ofBool _
theorem aF.gtr (hx : aQ fl x = some (.v (.int k) p) := by rfl) (hy : aQ fl y = some (.v (.int k) q) := by rfl) : aF P fl σ (.binOp .gtr T x y T') (.v .bool (decide (q < p))) :=
  .rI hx hy (u := .bool (decide (q < p))) (vM .gtr _ rfl (fun s hs => by rw [<- hs]; exact zT rfl) rfl) fun h S => aE.ofBool _
theorem aF.geq (hx : aQ fl x = some (.v (.int k) p) := by rfl) (hy : aQ fl y = some (.v (.int k) q) := by rfl) : aF P fl σ (.binOp .geq T x y T') (.v .bool (decide (q <= p))) :=
  .rI hx hy (u := .bool (decide (q <= p))) (vM .geq _ rfl (fun s hs => by rw [<- hs]; exact zT rfl) rfl) fun h S => aE.ofBool _
theorem aF.eql (hx : aQ fl x = some (.v (.int k) p) := by rfl) (hy : aQ fl y = some (.v (.int k) q) := by rfl) : aF P fl σ (.binOp .eql T x y T') (.v .bool (decide (p = q))) := by
  have e : (p == q) = decide (p = q) := by by_cases h : p = q <;> simp [h]
  exact .rI hx hy (u := .bool (p == q)) (vM .eql _ rfl (fun s hs => by rw [<- hs]; exact zT rfl) rfl) fun h S => by rw [e]; exact aE.ofBool _
theorem aF.neq (hx : aQ fl x = some (.v (.int k) p) := by rfl) (hy : aQ fl y = some (.v (.int k) q) := by rfl) : aF P fl σ (.binOp .neq T x y T') (.v .bool (decide (p ≠ q))) := by
  have e : (p != q) = decide (p ≠ q) := by by_cases h : p = q <;> simp [h]
  exact .rI hx hy (u := .bool (p != q)) (vM .neq _ rfl (fun s hs => by rw [<- hs]; exact zT rfl) rfl) fun h S => by rw [e]; exact aE.ofBool _
end
theorem aF.un {b : UnOp} {p : PV} (hx : aQ fl x = some p) (hv : ∀ (h : Heap) (S : List Nat) (a : Value), aI h S p a -> ∃ u, aI h S v u /\ af a = true /\ bU P (Op.unary b a) = some u) : aF P fl σ (.unOp b T x) v :=
  ⟨rfl, fun h S t hs _ => by
    obtain ⟨u, h1, h2, h3⟩ := hv h S _ (hs x (by simp [Op.operands]) _ hx); refine ⟨u, h1, fun _ _ _ _ _ H => ?_⟩; show (if af (aA t x) = true then _ else _) = _
    rw [if_pos h2, h3]; rfl⟩
theorem aF.not {r : Bool} (hx : aQ fl x = some (.v .bool r) := by rfl) : aF P fl σ (.unOp .not T x) (.v .bool (!r)) :=
  .un hx fun h S a ha => by
    obtain rfl := aE.bool ha; exact ⟨_, aE.ofBool _, rfl, rfl⟩
theorem aF.conv {p : PV} {s D : TypeId} (hx : aQ fl x = some p) (hv : ∀ (h : Heap) (S : List Nat) (a : Value), aI h S p a -> ∃ u, aI h S v u /\ af a = true /\ bU P (convert s D a) = some u) : aF P fl σ (.convert s D x) v :=
  ⟨rfl, fun h S t hs _ => by
    obtain ⟨u, h1, h2, h3⟩ := hv h S _ (hs x (by simp [Op.operands]) _ hx); refine ⟨u, h1, fun _ _ _ _ _ H => ?_⟩; show (if af (aA t x) = true then _ else _) = _
    rw [if_pos h2, h3]; rfl⟩
def BB (P : Program) (s D : TypeId) (k2 : IntKind) : Bool := (P.underlying s).isSome && (match P.underlying D with | some (.int k) => decide (k = k2) | _ => false)
theorem aF.EW {p : Int} {s D : TypeId} {k : IntKind} (hx : aQ fl x = some (.v (.int k) p)) (k2 : IntKind) (hw : k2.wrap p = p) (hb : BB P s D k2 = true := by kernel_rfl) : aF P fl σ (.convert s D x) (.v (.int k2) p) :=
  .conv hx fun h S a ha => by
    obtain rfl := aE.int ha; unfold BB at hb; obtain ⟨b1, b2⟩ := aT hb; obtain ⟨td, hs⟩ := Option.isSome_iff_exists.1 b1; split at b2
    . rename_i k3 hd; obtain rfl : k3 = k2 := of_decide_eq_true b2; refine ⟨.int k3 p, aE.ofInt _ _, rfl, ?_⟩; unfold bU convert; simp only [aD, aG hs, aG hd, Option.bind_some]; show (aC P (Conv.intToInt k3 p)).bind _ = _; simp only [Conv.intToInt, aK, Option.bind_some, hw]; rfl
    cases b2
theorem aF.func {f : FuncId} {a c : Array Operand} {us vs : List PV} (ha : lG fl a.toList = some us := by rfl) (hc : lG fl c.toList = some vs := by rfl) : aF P fl σ (.makeFunc (.func f) a c) (.mR f us vs) :=
  ⟨rfl, fun h S t hs _ => by
    have aux : ∀ (l : List Operand) (vs : List PV), (∀ x ∈ l, ∀ pv, aQ fl x = some pv -> aI h S pv (aA t x)) -> lG fl l = some vs -> aX h S vs (l.map (aA t)) := by
      intro l
      induction l with
      | nil => intro vs _ hx; obtain rfl := Option.some.inj hx; rfl
      | cons x r ih =>
        intro vs hq hx; simp only [lG] at hx; split at hx
        . rename_i v QY hv B2; obtain rfl := Option.some.inj hx; exact ⟨_, _, rfl, hq x List.mem_cons_self _ hv, ih QY (fun y hy => hq y (List.mem_cons_of_mem _ hy)) B2⟩
        cases hx
    refine ⟨.func (.func f) (a.map (aA t)) (c.map (aA t)), ⟨a.toList.map (aA t), c.toList.map (aA t), by congr 1 <;> (apply Array.toList_inj.1; simp), aux _ _ (fun x hx => hs x (by simp [Op.operands]; left; simpa using hx)) ha, aux _ _ (fun x hx => hs x (by simp [Op.operands]; right; simpa using hx)) hc⟩, fun _ _ _ _ _ H => rfl⟩⟩
theorem aX.get : ∀ {l : List PV} {us : List Value} {i : Nat} {p : PV}, aX h S l us -> l[i]? = some p -> ∃ u, us[i]? = some u /\ aI h S p u
  | [], us, i, p, _, hp => by simp at hp
  | q :: qs, us, i, p, ⟨u, r, h1, h2, h3⟩, hp => by
    subst h1
    cases i with
    | zero => simp only [List.getElem?_cons_zero, Option.some.injEq] at hp; subst hp; exact ⟨u, rfl, h2⟩
    | succ i =>
      obtain ⟨w, e1, e2⟩ := aX.get (l := qs) (us := r) (i := i) h3 (by simpa using hp); exact ⟨w, by simpa using e1, e2⟩
theorem aF.extract {l : List PV} {i : Nat} (hx : aQ fl x = some (.nD l) := by rfl) (hi : l[i]? = some pv := by rfl) (h2 : Nat.ble 2 l.length = true := by rfl) : aF P fl σ (.extract x i) pv :=
  ⟨rfl, fun h S t hs _ => by
    obtain ⟨us, h3, h4⟩ := hs x (by simp [Op.operands]) _ hx; obtain ⟨u, h5, h6⟩ := h4.get hi; have hlen := h4.len; refine ⟨u, h6, fun _ _ _ _ _ H => ?_⟩; show (bif tS (aA t x) then none else (aC P (Instr.extract (aA t x) i)).map _) = _; rw [h3]
    have hj : tS (.tuple us.toArray) = false := by
      unfold tS; split
      . rename_i hh
        have : us = [.tuple ⟨[]⟩] := by simpa using congrArg (fun v => match v with | Value.tuple a => a.toList | _ => []) hh
        rw [this] at hlen; have := eP h2; simp at hlen; omega
      rfl
    rw [hj]; simp only [cond_false, Instr.extract]
    have : us.toArray[i]? = some u := by simpa using h5
    rw [this]
    rfl⟩
inductive Sub : (τ : Ty) -> τ.den -> Nat -> (τ' : Ty) -> τ'.den -> Prop where
  | o {τ : Ty} {x : τ.den} : Sub τ x 0 τ x
  | l {a b : Ty} {x : (Ty.pair a b).den} {k : Nat} {τ' : Ty} {y : τ'.den} (hs : Sub a x.1 k τ' y) : Sub (.pair a b) x k τ' y
  | r {a b : Ty} {x : (Ty.pair a b).den} {k k' : Nat} {τ' : Ty} {y : τ'.den} (hs : Sub b x.2 k τ' y) (hk : k' = a.size + k := by rfl) : Sub (.pair a b) x k' τ' y
theorem Sub.U1 {τ : Ty} {x : τ.den} {k : Nat} {τ' : Ty} {y : τ'.den} (hs : Sub τ x k τ' y) : ∀ {cs : List Value}, cG h S τ cs x -> k + τ'.size <= cs.length /\ cG h S τ' ((cs.drop k).take τ'.size) y := by
  induction hs with
  | o =>
    intro cs hx; have := hx.len
    exact ⟨by omega, by rw [List.drop_zero, List.take_of_length_le (by omega)]; exact hx⟩
  | @l a b x k τ' y hs ih =>
    intro cs hx; obtain ⟨h1, h2⟩ := ih hx.1; rw [List.length_take] at h1; refine ⟨by omega, ?_⟩; rw [List.drop_take, List.take_take, Nat.min_eq_left (by omega)] at h2
    exact h2
  | @r a b x k k' τ' y hs hk ih =>
    intro cs hx; obtain ⟨h1, h2⟩ := ih hx.2; rw [List.length_drop] at h1; have hl := hx.len; have cY : (Ty.pair a b).size = a.size + b.size := rfl; subst hk; rw [List.drop_drop] at h2; refine ⟨?_, h2⟩; have := cG.len h2; rw [List.length_take, List.length_drop] at this; by_cases h0 : τ'.size = 0
    . have hlb := hx.2.len; rw [List.length_drop] at hlb; omega
    omega
theorem aF.fa {s : TypeId} {f k : Nat} {dx : τ.den} {dy : τ'.den} (hs : Sub τ dx k τ' dy) (hb : j9 P s f k = true := by kernel_rfl) (hx : aQ fl x = some (.p τ dx) := by rfl) : aF P fl σ (.fieldAddr s x f) (.p τ' dy) :=
  ⟨rfl, fun h S t hq _ => by
    have hp : nZ h S τ (aA t x) dx := hq x (by simp [Op.operands]) _ hx; refine ⟨kF (aA t x) k, ?_, fun _ _ _ _ _ H => ?_⟩
    . obtain ⟨b', o, e', rs, own, more, h1, h2, h3, h4, h5⟩ := hp; obtain ⟨h6, h7⟩ := hs.U1 h5; rw [List.length_take, List.length_drop] at h6; refine ⟨b', o + k, e', rs, own, more, by rw [h1]; rfl, h2, h3, by omega, ?_⟩; rw [List.drop_take, List.take_take, List.drop_drop, Nat.min_eq_left (by omega)] at h7; exact h7
    show (aC P (Instr.fieldAt s (aA t x) f)).map _ = _
    rw [hp.fa hb]; rfl⟩
end Go.Fs
namespace Go.Fs
variable {P : Program} {orc : FuncId -> List Value -> Heap -> Option (Value × Heap)} {aR : Option Nat} {h h' h0 h1 h2 : Heap} {S S' S0 B G : List Nat} {σ σ' j8 : aM} {t t' : Tr} {ms : List Nat} {fl : VL} {ops : Array Oper} {n i mem : Nat} {l : List Oper} {K : VL -> aM -> Prop} {Q : Ex -> VL -> aM -> Prop}
  {d : Tmp} {ty : TypeId} {pos : String} {after : Array Edge} {op : Op} {v pv : PV} {g : Option (Nat × Bool)} {x y z : Operand} {T T' e : TypeId} {τ τ' : Ty} {bs nw : List Nat} {segs : List (Nat × Nat × Nat)} {tail so : Bool} {w : Value}
theorem aF.ix {xs : List τ.den} {j : Nat} (hx : aQ fl x = some (.v (.sl τ) xs)) (hy : aQ fl y = some (.v (.int .i64) ((j : Nat) : Int))) (hT : fW P T e τ) (hj : j < xs.length) : aF P fl σ (.indexAddr T x y) (.p τ xs[j]) :=
  ⟨rfl, fun h S t hs _ => by
    have h1 := aE.sl (hs x (by simp [Op.operands]) _ hx : aE h S (.sl τ) (aA t x) xs); have h2 := aE.int (hs y (by simp [Op.operands]) _ hy); refine ⟨_, h1.at hj, fun _ _ _ _ _ H => ?_⟩; show (if af (aA t y) then (aC P (Instr.indexAt T (aA t x) (aA t y))).map fun v => (v, H) else none) = _
    rw [h2, h1.ix hT hj]; rfl⟩
theorem aF.ixZ {xs : List τ.den} {k : Int} (hx : aQ fl x = some (.v (.sl τ) xs)) (hy : aQ fl y = some (.v (.int .i64) k)) (hT : fW P T e τ) (h0 : 0 <= k) (hk : k < (xs.length : Nat)) : aF P fl σ (.indexAddr T x y) (.p τ (xs[k.toNat]'(by omega))) := by
  obtain ⟨j, rfl⟩ := Int.eq_ofNat_of_zero_le h0; exact aF.ix hx hy hT (by omega)
theorem aF.U2 {xs : List τ.den} {j : Nat} (hx : aQ fl x = some (.raw w)) (hy : aQ fl y = some (.v (.int .i64) ((j : Nat) : Int))) (hm : (w, Cell.row e τ xs) ∈ σ) (hT : fW P T e τ) (hj : j < xs.length) : aF P fl σ (.indexAddr T x y) (.raw (fM w τ.size j)) :=
  ⟨rfl, fun h S t hs hc => by
    have h1 : aA t x = w := hs x (by simp [Op.operands]) _ hx; have h2 := aE.int (hs y (by simp [Op.operands]) _ hy); refine ⟨_, rfl, fun _ _ _ _ _ H => ?_⟩; show (if af (aA t y) then (aC P (Instr.indexAt T (aA t x) (aA t y))).map fun v => (v, H) else none) = _; rcases hc _ hm with ⟨_, rfl⟩ | ⟨b, rs, m, h3, h4, h5, h6⟩
    . simp at hj
    have hg : rT h S 0 e m τ w xs := .inr ⟨b, rs, h4, Nat.zero_le _, h3, h5, h6⟩
    rw [h1, h2, hg.ix hT hj]; rfl⟩
theorem aF.ag8 {xs : List τ.den} {k : Int} (hx : aQ fl x = some (.raw w)) (hy : aQ fl y = some (.v (.int .i64) k)) (hm : (w, Cell.row e τ xs) ∈ σ) (hT : fW P T e τ) (h0 : 0 <= k) (hk : k < (xs.length : Nat)) : aF P fl σ (.indexAddr T x y) (.raw (fM w τ.size k.toNat)) := by
  obtain ⟨j, rfl⟩ := Int.eq_ofNat_of_zero_le h0; exact aF.U2 hx hy hm hT (by omega)
theorem aF.mS {s : TypeId} {f k : Nat} {cs : List PV} (hm : (w, Cell.var cs) ∈ σ) (hb : j9 P s f k = true := by kernel_rfl) (hx : aQ fl x = some (.raw w) := by rfl) : aF P fl σ (.fieldAddr s x f) (.raw (kF w k)) :=
  ⟨rfl, fun h S t hs hc => by
    have h1 : aA t x = w := hs x (by simp [Op.operands]) _ hx; obtain ⟨b, e, vs, h3, h4, h5, _⟩ := hc _ hm; have hB : GC h 0 w vs := ⟨b, e, h3, Nat.zero_le _, h5⟩; refine ⟨_, rfl, fun _ _ _ _ _ H => ?_⟩; show (aC P (Instr.fieldAt s (aA t x) f)).map _ = _
    rw [h1, hB.fa hb]; rfl⟩
theorem dV.ld {dx : τ.den} (hT : gQ P T τ) (hx : aQ fl x = some (.p τ dx) := by rfl) : dV P fl σ (.load T x) (.v τ dx) :=
  ⟨rfl, fun h S t hs _ => by
    have hp : nZ h S τ (aA t x) dx := hs x (by simp [Op.operands]) _ hx; refine ⟨_, hp.val, fun H hH _ _ _ _ _ => ?_⟩; have hp' : nZ H S τ (aA t x) dx := hp.nx fun b o hg hb => ⟨hH b o hg, hb⟩
    have e1 : pP H τ (aA t x) = pP h τ (aA t x) := by
      obtain ⟨b, o, e, rs, own, more, h1, h2, h3, h4, h5⟩ := hp; rw [h1]; simp only [pP, h3, hH b _ h3]
    show (eE P T (aA t x) H).map _ = _
    rw [(hp'.ag3 hT).1, e1]; rfl⟩
theorem dV.ldO {xs : List τ.den} {j : Nat} (hx : aQ fl x = some (.raw (fM w τ.size j))) (hm : (w, Cell.row T τ xs) ∈ σ) (hT : gQ P T τ) (hj : j < xs.length) : dV P fl σ (.load T x) (.v τ xs[j]) :=
  ⟨rfl, fun h S t hs hc => by
    have h1 : aA t x = fM w τ.size j := hs x (by simp [Op.operands]) _ hx; rcases hc _ hm with ⟨_, rfl⟩ | ⟨b, rs, m, h3, h4, h5, h6⟩
    . simp at hj
    have hg : rT h S 0 T m τ w xs := .inr ⟨b, rs, h4, Nat.zero_le _, h3, h5, h6⟩; refine ⟨_, (hg.ld hT hj).2, fun H hH _ _ _ _ _ => ?_⟩; have gO : rT H S 0 T m τ w xs := .inr ⟨b, rs, h4, Nat.zero_le _, h3, hH b _ h5, h6.nx fun b o hg hb => ⟨hH b o hg, hb⟩⟩
    have e1 : pP H τ (fM w τ.size j) = pP h τ (fM w τ.size j) := by
      rw [show w = _ from h3]; simp only [fM, pP, h5, hH b _ h5]
    show (eE P T (aA t x) H).map _ = _
    rw [h1, (gO.ld hT hj).1, e1]; rfl⟩
theorem dV.tR {cs : List PV} {k : Nat} (hm : (w, Cell.var cs) ∈ σ) (hT : gQ P T τ) (ha : τ.agg = false := by rfl) (hk : cs[k]? = some v := by rfl) (hx : aQ fl x = some (.raw (kF w k)) := by rfl) : dV P fl σ (.load T x) v :=
  ⟨rfl, fun h S t hs hc => by
    have h1 : aA t x = kF w k := hs x (by simp [Op.operands]) _ hx; obtain ⟨b, e, vs, h3, h4, h5, h6, _⟩ := hc _ hm; obtain ⟨u, h7, h8⟩ := h6.get hk; refine ⟨u, h8, fun H hH _ _ _ _ _ => ?_⟩; have hB : GC H 0 w vs := ⟨b, e, h3, Nat.zero_le _, hH b _ h5⟩; show (eE P T (aA t x) H).map _ = _
    rw [h1, hB.ld1 hT ha h7]; rfl⟩
theorem dV.len {xs : List τ.den} (hT : fW P T e τ) (hx : aQ fl x = some (.v (.sl τ) xs) := by rfl) : dV P fl σ (.call { callee := .builtin .len, args := #[x], argTypes := #[T] }) (.v (.int .i64) (xs.length : Nat)) :=
  ⟨rfl, fun h S t hs _ => by
    have h1 := aE.sl (hs x (by simp [Op.operands, Call.operands]) _ hx : aE h S (.sl τ) (aA t x) xs); refine ⟨_, aE.ofInt _ _, fun H _ _ _ _ _ _ => ?_⟩; show (pC P #[T] (aA t x) H).map _ = _
    rw [h1.len hT]; rfl⟩
theorem dV.U3 {xs : List τ.den} (hm : (w, Cell.row e τ xs) ∈ σ) (hT : fW P T e τ) (hx : aQ fl x = some (.raw w) := by rfl) : dV P fl σ (.call { callee := .builtin .len, args := #[x], argTypes := #[T] }) (.v (.int .i64) (xs.length : Nat)) :=
  ⟨rfl, fun h S t hs hc => by
    have h1 : aA t x = w := hs x (by simp [Op.operands, Call.operands]) _ hx; refine ⟨_, aE.ofInt _ _, fun H _ _ _ _ _ _ => ?_⟩; show (pC P #[T] (aA t x) H).map _ = _; rw [h1]; rcases hc _ hm with ⟨rfl, rfl⟩ | ⟨b, rs, m, h3, h4, h5, h6⟩
    . rw [kE.len (h := h) (S := S) (τ := τ) hT kE.nil]; rfl
    have hg : rT h S 0 e m τ w xs := .inr ⟨b, rs, h4, Nat.zero_le _, h3, h5, h6⟩
    rw [hg.len hT]; rfl⟩
theorem dV.rJ {s : ByteArray} (hT : P.underlying T = some .string := by kernel_rfl) (hx : aQ fl x = some (.v .str s) := by rfl) : dV P fl σ (.call { callee := .builtin .len, args := #[x], argTypes := #[T] }) (.v (.int .i64) (s.size : Nat)) :=
  ⟨rfl, fun h S t hs _ => by
    have h1 := aE.str (hs x (by simp [Op.operands, Call.operands]) _ hx); refine ⟨_, aE.ofInt _ _, fun H _ _ _ _ _ _ => ?_⟩; show (pC P #[T] (aA t x) H).map _ = _; rw [h1]
    simp [pC, hT]⟩
section
variable {p q r s : Int} {a : Array TypeId}
theorem aF.imax (hx : aQ fl x = some (.v (.int .i64) p) := by rfl) (hy : aQ fl y = some (.v (.int .i64) q) := by rfl) : aF P fl σ (.call { callee := .builtin .max, args := #[x, y], argTypes := a }) (.v (.int .i64) (Max.max p q)) :=
  ⟨rfl, fun h S t hs _ => by
    have h1 := aE.int (hs x (by simp [Op.operands, Call.operands]) _ hx); have h2 := aE.int (hs y (by simp [Op.operands, Call.operands]) _ hy); refine ⟨_, aE.ofInt _ _, fun d ty pos after g H => ?_⟩; show (if [aA t x, aA t y].all af = true then (bU P (Builtin.max_ a ty [aA t x, aA t y].toArray)).map fun v => (v, H) else none) = _; rw [h1, h2]; have : (bU P (Builtin.max_ a ty [Value.int .i64 p, Value.int .i64 q].toArray)) = some (.int .i64 (if q > p then q else p)) := rfl
    rw [this, akL]; rfl⟩
theorem aF.ar4 (hx : aQ fl x = some (.v (.int .i64) p) := by rfl) (hy : aQ fl y = some (.v (.int .i64) q) := by rfl) : aF P fl σ (.call { callee := .builtin .min, args := #[x, y], argTypes := a }) (.v (.int .i64) (Min.min p q)) :=
  ⟨rfl, fun h S t hs _ => by
    have h1 := aE.int (hs x (by simp [Op.operands, Call.operands]) _ hx); have h2 := aE.int (hs y (by simp [Op.operands, Call.operands]) _ hy); refine ⟨_, aE.ofInt _ _, fun d ty pos after g H => ?_⟩; show (if [aA t x, aA t y].all af = true then (bU P (Builtin.min_ a ty [aA t x, aA t y].toArray)).map fun v => (v, H) else none) = _; rw [h1, h2]; have : (bU P (Builtin.min_ a ty [Value.int .i64 p, Value.int .i64 q].toArray)) = some (.int .i64 (if q < p then q else p)) := rfl; rw [this]
    have e : (if q < p then q else p) = Min.min p q := by rw [Int.min_def]; split <;> split <;> omega
    rw [e]; rfl⟩
end
theorem kE.GH {xs : List τ.den} {a b : Nat} {u : Value} {H : Heap} (hT : fW P T e τ) (hv : kE h S τ u xs) (hab : a <= b) (hb : b <= xs.length) (hH : ∀ b o, h.get b = some o -> H.get b = some o) {lo hi : Option Value} (hl : dA lo 0 = some a) (hh : ∀ n, n = xs.length -> dA hi n = some b) : bV P T u lo hi none H = bV P T u lo hi none h := by
  rcases hv with ⟨rfl, rfl⟩ | ⟨bl, o, mk, rfl, h2⟩
  . simp only [bV, hT.sl.sl]
  obtain ⟨i, z, CV, cY, _⟩ := hT.sl.info
  have e1 : Nat.ble a b = true := by rw [Nat.ble_eq]; exact hab
  have e2 : Nat.ble b xs.length = true := by rw [Nat.ble_eq]; exact hb
  have hm : mA e bl a mk H = mA e bl a mk h := by
    unfold mA; by_cases ha : a = 0
    . subst ha; rfl
    rcases h2 with rfl | ⟨_, e', rs, own, more, h3, _, _⟩
    . simp at hb; omega
    rw [h3, hH _ _ h3]
  simp only [bV, hT.sl.sl, CV, hl, hh _ rfl, e1, e2, Bool.and_self, cond_true, hm]
theorem dV.cut {xs : List τ.den} {a b : Int} {lo hi : Operand} (hx : aQ fl x = some (.v (.sl τ) xs)) (hl : aQ fl lo = some (.v (.int .i64) a)) (hh : aQ fl hi = some (.v (.int .i64) b)) (hT : fW P T e τ) (h0 : 0 <= a /\ a <= b /\ b <= (xs.length : Nat)) : dV P fl σ (.slice T x (some lo) (some hi) none) (.v (.sl τ) ((xs.take b.toNat).drop a.toNat)) :=
  ⟨rfl, fun h S t hs _ => by
    have h1 := aE.sl (hs x (by simp [Op.operands]) _ hx : aE h S (.sl τ) (aA t x) xs); have h2 := aE.int (hs lo (by simp [Op.operands]) _ hl); have h3 := aE.int (hs hi (by simp [Op.operands]) _ hh); obtain ⟨u, e1, e2⟩ := h1.cut hT h0; refine ⟨u, e2.rep, fun H hH _ _ _ _ _ => ?_⟩; obtain ⟨a', rfl⟩ := Int.eq_ofNat_of_zero_le h0.1; obtain ⟨b', rfl⟩ := Int.eq_ofNat_of_zero_le (show 0 <= b by omega); have e3 := e1 h.next h.low; show (bV P T (aA t x) (some (aA t lo)) (some (aA t hi)) none H).map _ = _; rw [h2, h3, h1.GH hT (a := a') (b := b') (by omega) (by omega) hH (by simp [dA]) (fun _ _ => by simp [dA])]
    rw [show h = { next := h.next, low := h.low, aB := h.aB } from rfl, e3]; rfl⟩
theorem dV.xL {xs : List τ.den} {a : Int} {lo : Operand} (hx : aQ fl x = some (.v (.sl τ) xs)) (hl : aQ fl lo = some (.v (.int .i64) a)) (hT : fW P T e τ) (h0 : 0 <= a /\ a <= (xs.length : Nat)) : dV P fl σ (.slice T x (some lo) none none) (.v (.sl τ) (xs.drop a.toNat)) :=
  ⟨rfl, fun h S t hs _ => by
    have h1 := aE.sl (hs x (by simp [Op.operands]) _ hx : aE h S (.sl τ) (aA t x) xs); have h2 := aE.int (hs lo (by simp [Op.operands]) _ hl); obtain ⟨u, e1, e2⟩ := h1.xL hT h0; refine ⟨u, e2.rep, fun H hH _ _ _ _ _ => ?_⟩; obtain ⟨a', rfl⟩ := Int.eq_ofNat_of_zero_le h0.1; have e3 := e1 h.next h.low; show (bV P T (aA t x) (some (aA t lo)) none none H).map _ = _; rw [h2, h1.GH hT (a := a') (b := xs.length) (by omega) (by omega) hH (by simp [dA]) (fun _ e => by simp [dA, e])]
    rw [show h = { next := h.next, low := h.low, aB := h.aB } from rfl, e3]; rfl⟩
theorem dV.GH {xs : List τ.den} {b : Int} {hi : Operand} (hx : aQ fl x = some (.v (.sl τ) xs)) (hh : aQ fl hi = some (.v (.int .i64) b)) (hT : fW P T e τ) (h0 : 0 <= b /\ b <= (xs.length : Nat)) : dV P fl σ (.slice T x none (some hi) none) (.v (.sl τ) (xs.take b.toNat)) :=
  ⟨rfl, fun h S t hs _ => by
    have h1 := aE.sl (hs x (by simp [Op.operands]) _ hx : aE h S (.sl τ) (aA t x) xs); have h3 := aE.int (hs hi (by simp [Op.operands]) _ hh); obtain ⟨u, e1, e2⟩ := h1.cut hT (a := 0) (b := b) ⟨Int.le_refl _, h0⟩; rw [show (0 : Int).toNat = 0 from rfl, List.drop_zero] at e2; refine ⟨u, e2.rep, fun H hH _ _ _ _ _ => ?_⟩; obtain ⟨b', rfl⟩ := Int.eq_ofNat_of_zero_le h0.1; have e3 := e1 h.next h.low
    have e4 : bV P T (aA t x) none (some (.int .i64 (b' : Nat))) none h = bV P T (aA t x) (some (.int .i64 0)) (some (.int .i64 (b' : Nat))) none h := by
      rcases h1 with ⟨hu, _⟩ | ⟨bl, o, mk, hu, _⟩ <;> rw [hu] <;> simp only [bV, hT.sl.sl, dA] <;> rfl
    show (bV P T (aA t x) none (some (aA t hi)) none H).map _ = _; rw [h3, h1.GH hT (a := 0) (b := b') (by omega) (by omega) hH (by simp [dA]) (fun _ _ => by simp [dA])]
    rw [e4, show h = { next := h.next, low := h.low, aB := h.aB } from rfl, e3]; rfl⟩
end Go.Fs
namespace Go.Fs
variable {P : Program} {orc : FuncId -> List Value -> Heap -> Option (Value × Heap)} {aR : Option Nat} {h h' h0 h1 h2 : Heap} {S S' S0 B G : List Nat} {σ σ' j8 : aM} {t t' : Tr} {ms : List Nat} {fl : VL} {ops : Array Oper} {n i mem : Nat} {l : List Oper} {K : VL -> aM -> Prop} {Q : Ex -> VL -> aM -> Prop}
  {d : Tmp} {ty : TypeId} {pos : String} {after : Array Edge} {op : Op} {v pv : PV} {g : Option (Nat × Bool)} {x y z : Operand} {T T' e : TypeId} {τ τ' : Ty} {bs nw : List Nat} {segs : List (Nat × Nat × Nat)} {tail so : Bool} {w w' : Value} {c c' : Cell}
theorem b7 : own ((w, c) :: σ) = cD w ++ own σ := rfl
theorem Made.head (L : Lc S0 h ((w, c) :: σ) t fl) (ha : cK h h' (cD w)) (hn : ∀ b ∈ cD w', b ∈ cD w \/ h.next <= b) (hd : (cD w').Nodup) (hc : dC h (own ((w, c) :: σ) ++ S0) h' (own ((w', c') :: σ) ++ S0) -> bL h' (own ((w', c') :: σ) ++ S0) w' c') : Made S0 h h' ((w, c) :: σ) ((w', c') :: σ) := by
  have p8 := L.apart; rw [b7] at p8; obtain ⟨KT, GI, u9⟩ := List.nodup_append.1 p8
  have p5 : cK h h' (own ((w, c) :: σ)) := ha.TW fun b hb => by rw [b7]; exact List.mem_append_left _ hb
  have lD : ∀ b ∈ own ((w', c') :: σ), b ∈ own ((w, c) :: σ) \/ h.next <= b := fun b hb => by
    rw [b7] at hb ⊢; rcases List.mem_append.1 hb with hb | hb
    . rcases hn b hb with h1 | h1
      . exact .inl (List.mem_append_left _ h1)
      exact .inr h1
    exact .inl (List.mem_append_right _ hb)
  have hN : dC h (own ((w, c) :: σ) ++ S0) h' (own ((w', c') :: σ) ++ S0) := p5.goes L.ok (fun b hb => List.mem_append_left _ hb) fun b hb => by
    rcases List.mem_append.1 hb with hb | hb
    . rcases lD b hb with h1 | h1
      . exact .inl (List.mem_append_left _ h1)
      exact .inr h1
    exact .inl (List.mem_append_right _ hb)
  refine ⟨p5, lD, ?_, fun d hd => ?_⟩
  . rw [b7]; refine List.nodup_append.2 ⟨hd, GI, fun a h1 b h2 he => ?_⟩; subst he; rcases hn a h1 with h3 | h3
    . exact u9 a h3 a h2 rfl
    have := L.lt a (List.mem_append_left _ (by rw [b7]; exact List.mem_append_right _ h2)); omega
  rcases List.mem_cons.1 hd with rfl | hd
  . exact hc hN
  refine (L.cells d (List.mem_cons_of_mem _ hd)).aV (fun b hb => ?_) hN fun b hb => List.mem_append_left _ (by rw [b7]; exact List.mem_append_right _ (List.mem_flatMap.2 ⟨d, hd, hb⟩)); have AF : b ∈ own σ := List.mem_flatMap.2 ⟨d, hd, hb⟩; exact ha.get b (L.lt b (List.mem_append_left _ (by rw [b7]; exact List.mem_append_right _ AF))) fun hm => u9 b hm b AF rfl
theorem Made.cons (L : Lc S0 h σ t fl) (ha : cK h h' []) (hn : ∀ b ∈ cD w', h.next <= b) (hd : (cD w').Nodup) (hc : dC h (own σ ++ S0) h' (own ((w', c') :: σ) ++ S0) -> bL h' (own ((w', c') :: σ) ++ S0) w' c') : Made S0 h h' σ ((w', c') :: σ) := by
  have p5 : cK h h' (own σ) := ha.TW fun b hb => by cases hb
  have lD : ∀ b ∈ own ((w', c') :: σ), b ∈ own σ \/ h.next <= b := fun b hb => by
    rw [b7] at hb; rcases List.mem_append.1 hb with hb | hb
    . exact .inr (hn b hb)
    exact .inl hb
  have hN : dC h (own σ ++ S0) h' (own ((w', c') :: σ) ++ S0) := ha.goes L.ok (fun b hb => by cases hb) fun b hb => by
    rcases List.mem_append.1 hb with hb | hb
    . rcases lD b hb with h1 | h1
      . exact .inl (List.mem_append_left _ h1)
      exact .inr h1
    exact .inl (List.mem_append_right _ hb)
  refine ⟨p5, lD, ?_, fun d hd => ?_⟩
  . rw [b7]; refine List.nodup_append.2 ⟨hd, L.apart, fun a h1 b h2 he => ?_⟩; subst he; have := hn a h1; have := L.lt a (List.mem_append_left _ h2); omega
  rcases List.mem_cons.1 hd with rfl | hd
  . exact hc hN
  exact (L.cells d hd).aV (fun b hb => ha.get b (L.lt b (List.mem_append_left _ (List.mem_flatMap.2 ⟨d, hd, hb⟩))) (by simp)) hN fun b hb => List.mem_append_left _ (by rw [b7]; exact List.mem_append_right _ (List.mem_flatMap.2 ⟨d, hd, hb⟩))
theorem Made.same (L : Lc S0 h σ t fl) (ha : cK h h' []) : Made S0 h h' σ σ := by
  have hN : dC h (own σ ++ S0) h' (own σ ++ S0) := ha.goes L.ok (fun b hb => by cases hb) fun b hb => .inl hb; exact ⟨ha.TW (fun b hb => by cases hb), fun b hb => .inl hb, L.apart, fun c hc => (L.cells c hc).aV (fun b hb => ha.get b (L.lt b (List.mem_append_left _ (List.mem_flatMap.2 ⟨c, hc, hb⟩))) (by simp)) hN fun b hb => List.mem_append_left _ (List.mem_flatMap.2 ⟨c, hc, hb⟩)⟩
theorem OT (hT : fW P T e τ) (EX : fW P T' e τ) {u : Value} {news : List Value} {xs ys : List τ.den} (aZ : nY h) (hg : bL h S w (.row e τ xs)) 
    (p8 : ∀ i z, i.size = τ.size -> z.cells.toList.all dQ = true -> iN i z (isInt (.slice e)) u h = some (ys.length, news)) (hy : bC h S τ news ys) (oL : 0 < ys.length) (cY : xs.length + ys.length <= 1000000) :
    ∃ h' rs, dR P #[T, T'] w u h = some (.slice (some ⟨h.next, 0, none⟩) (xs.length + ys.length) 0, h') /\ cK h h' (cD w) /\ h'.get h.next = some (.row e rs true true) /\ (∀ S', dC h S h' S' -> bC h' S' τ rs (xs ++ ys)) := by
  obtain ⟨i, z, pR, jB, HX, vN, BC, EY, KU⟩ := hT.sl.info; have mP : news.all aN = true := hy.kA; have yA : news.length = ys.length * τ.size := hy.1
  have x9 : (xs.length + ys.length) * i.bytes <= 274877906944 := by
    have := Nat.mul_le_mul cY vN; omega
  unfold dR; simp only [List.getElem?_toArray, List.getElem?_cons_zero, List.getElem?_cons_succ, hT.sl.sl, EX.sl.sl, pR, BC, p8 i z jB KU, jB]
  have hc : (Nat.blt 0 τ.size && Nat.blt 0 i.bytes && Nat.beq news.length (ys.length * τ.size) && news.all aN && Nat.beq z.cells.size τ.size) = true := by
    have e1 : Nat.blt 0 τ.size = true := by show Nat.ble 1 τ.size = true; rw [Nat.ble_eq]; exact hT.sl.pos
    have e2 : Nat.blt 0 i.bytes = true := by show Nat.ble 1 i.bytes = true; rw [Nat.ble_eq]; exact HX
    rw [e1, e2, yA, Nat.beq_refl, mP, EY, Nat.beq_refl]; rfl
  rw [hc]; simp only [cond_true]; have e0 : Nat.beq ys.length 0 = false := dO (by omega); rcases hg with ⟨rfl, rfl⟩ | ⟨b0, rs, m, rfl, iQ, oV, uU⟩
  . refine ⟨h.push (.row e news true true), news, ?_, cK.push h _ _, by rw [Heap.bB, if_pos rfl], fun S' hN => by rw [List.nil_append]; exact hy.nx hN⟩; unfold n7
    have e2 : Nat.ble (ys.length * i.bytes) 274877906944 = true := by rw [Nat.ble_eq]; simpa using x9
    simp only [e0, cond_false, e2, cond_true, grown, List.length_nil, Nat.zero_add]
  have qP := uU.1; have AE : 0 < ys.length * τ.size := Nat.mul_pos oL hT.sl.pos; have af6 : (xs.length + ys.length) * τ.size = xs.length * τ.size + ys.length * τ.size := Nat.add_mul _ _ _
  have e1 : (Nat.beq ys.length 0 && Nat.beq 0 1) = false := by rw [e0]; rfl
  have e2 : Nat.beq e e = true := Nat.beq_refl _
  have e3 : Nat.ble ((xs.length + ys.length) * i.bytes) 274877906944 = true := by rw [Nat.ble_eq]; exact x9
  have e4 : Nat.ble (0 + xs.length * i.size) rs.length = true := by rw [Nat.ble_eq, jB]; omega
  have e5 : Nat.ble (0 + (xs.length + ys.length) * i.size) rs.length = false := by
    cases hx : Nat.ble (0 + (xs.length + ys.length) * i.size) rs.length with
    | false => rfl
    | true => have := eP hx; rw [jB] at this; omega
  have e6 : Nat.beq (xs.length * i.size) rs.length = true := by rw [jB, qP]; exact Nat.beq_refl _
  have e7 : Nat.beq 0 1 = false := rfl; have e8 : Nat.beq 0 0 = true := rfl; have am7 := aZ b0 _ oV; have jC : cD (.slice (some ⟨b0, 0, none⟩) xs.length 0) = [b0] := rfl
  cases m with
  | true =>
    refine ⟨(h.drop b0).push (.row e (rs ++ news) true true), rs ++ news, ?_, (cK.drop (B := cD _) (by rw [jC]; simp)).trans (cK.push (h.drop b0) _ []) (fun i hi => by cases hi), ?_, fun S' hN => (uU.append hy).nx hN⟩
    . unfold n7; simp only [oV, e1, cond_false, e2, e3, e4, Bool.and_self, cond_true, e7, e8, e5, Bool.not_true, e6, grown, Bool.true_and, Bool.and_false]; rfl
    have : (h.drop b0).next = h.next := rfl
    rw [Heap.bB, if_pos this.symm]
  | false =>
    refine ⟨h.push (.row e (rs ++ news) true true), rs ++ news, ?_, cK.push h _ _, by rw [Heap.bB, if_pos rfl], fun S' hN => (uU.append hy).nx hN⟩; unfold n7
    have e9 : (rs.drop 0).take (xs.length * i.size) = rs := by rw [List.drop_zero, jB, <- qP, List.take_length]
    simp only [oV, e1, cond_false, e2, e3, e4, Bool.and_self, cond_true, e7, e8, e5, Bool.not_false, grown, Bool.true_and, Bool.and_false, e9]
theorem YH (hT : fW P T e τ) (EX : fW P T' e τ) {u : Value} {xs : List τ.den} (hg : bL h S w (.row e τ xs)) (hw : kE h S τ u []) (cY : xs.length <= 1000000) : dR P #[T, T'] w u h = some (w, h) := by
  obtain ⟨i, z, pR, jB, HX, vN, BC, EY, KU⟩ := hT.sl.info
  have p8 : iN i z (isInt (.slice e)) u h = some (0, []) := by
    rcases hw with ⟨rfl, _⟩ | ⟨b, o, mk, rfl, _⟩
    . simp [iN, isInt, lB, cellsOf]
    simp only [iN, isInt, cond_false, lB, cellsOf, List.length_nil]; have e1 : Nat.ble 0 0 = true := rfl; simp [e1, cond_true, Nat.zero_mul]
  unfold dR; simp only [List.getElem?_toArray, List.getElem?_cons_zero, List.getElem?_cons_succ, hT.sl.sl, EX.sl.sl, pR, BC, p8, jB]
  have hc : (Nat.blt 0 τ.size && Nat.blt 0 i.bytes && Nat.beq ([] : List Value).length (0 * τ.size) && ([] : List Value).all aN && Nat.beq z.cells.size τ.size) = true := by
    have e1 : Nat.blt 0 τ.size = true := by show Nat.ble 1 τ.size = true; rw [Nat.ble_eq]; exact hT.sl.pos
    have e2 : Nat.blt 0 i.bytes = true := by show Nat.ble 1 i.bytes = true; rw [Nat.ble_eq]; exact HX
    rw [e1, e2, EY, Nat.beq_refl, Nat.zero_mul]; rfl
  rw [hc]; simp only [cond_true]; rcases hg with ⟨rfl, rfl⟩ | ⟨b0, rs, m, rfl, iQ, oV, uU⟩
  . rfl
  have qP := uU.1
  have x9 : (xs.length + 0) * i.bytes <= 274877906944 := by
    have := Nat.mul_le_mul (show xs.length + 0 <= 1000000 from by simpa using cY) vN; omega
  have e2 : Nat.beq e e = true := Nat.beq_refl _
  have e3 : Nat.ble ((xs.length + 0) * i.bytes) 274877906944 = true := by rw [Nat.ble_eq]; exact x9
  have e4 : Nat.ble (0 + xs.length * i.size) rs.length = true := by rw [Nat.ble_eq, jB]; omega
  have e5 : Nat.ble (0 + (xs.length + 0) * i.size) rs.length = true := by rw [Nat.ble_eq, jB]; simp only [Nat.add_zero]; omega
  have e7 : Nat.beq 0 1 = false := rfl; have e8 : Nat.beq 0 0 = true := rfl; unfold n7; simp only [oV, e2, e3, e4, Bool.and_self, cond_true, e7, e8, e5, Bool.true_and, cond_false, Bool.and_false, Bool.and_true]; simp only [Nat.add_zero] at e3 e4 e5 ⊢
  try simp only [e3, cond_true]
theorem bO.app {xs ys : List τ.den} (hT : fW P T e τ) (EX : fW P T' e τ) (hx : aQ fl x = some (.raw w)) (hy : aQ fl y = some (.v (.sl τ) ys)) (cY : xs.length + ys.length <= 1000000) :
    bO P fl ((w, .row e τ xs) :: σ) (.call { callee := .builtin .append, args := #[x, y], argTypes := #[T, T'] }) fun v σ' => ∃ w', v = .raw w' /\ σ' = (w', .row e τ (xs ++ ys)) :: σ :=
  ⟨rfl, fun S0 h t L => by
    have h1 : aA t x = w := cR L.aH hx; have h2 := aE.sl (cR L.aH hy : aE h _ (.sl τ) (aA t y) ys); have hc := L.cells _ List.mem_cons_self
    have cO : ∀ u h', dR P #[T, T'] w (aA t y) h = some (u, h') -> ∀ (d : Option Tmp) (ty : TypeId) (pos : String) (after : Array Edge) (g : Option (Nat × Bool)), fJ P ⟨d, .call { callee := .builtin .append, args := #[x, y], argTypes := #[T, T'] }, ty, pos, after, g⟩ (aA t) h = some (u, h') := fun u h' e _ _ _ _ _ => by
      show dR P #[T, T'] (aA t x) (aA t y) h = _; rw [h1, e]
    by_cases hp : 0 < ys.length
    . obtain ⟨b, o, mk, e', rs, ow, more, hu, hb, hr, hl, uU⟩ := h2.row hp; have tA := hT.sl.pos; have AE : 0 < ys.length * τ.size := Nat.mul_pos hp tA
      have cA : bC h (own ((w, .row e τ xs) :: σ) ++ S0) τ ((rs.drop o).take (ys.length * τ.size)) ys := ⟨by rw [List.length_take, List.length_drop]; omega, fun i hi => by
        have h2 : (i + 1) * τ.size <= ys.length * τ.size := Nat.mul_le_mul_right _ hi; rw [Nat.add_mul] at h2; have := uU i hi; rw [List.drop_take, List.take_take, List.drop_drop, Nat.min_eq_left (by omega)]
        exact this⟩
      obtain ⟨h', KH, e1, e2, e3, e4⟩ := OT hT EX L.ok hc (u := aA t y) (news := (rs.drop o).take (ys.length * τ.size)) (fun i z h1 _ => by rw [hu]; exact NS (e := e') h1 (by omega) hr (Nat.le_refl _) hl rfl rfl) cA hp cY; refine ⟨_, h', .raw (.slice (some ⟨h.next, 0, none⟩) (xs.length + ys.length) 0), _, ⟨_, rfl, rfl⟩, Made.head L e2 (fun b hb => .inr (by simp [cD] at hb; omega)) (by simp [cD]) fun hN => ?_, rfl, cO _ _ e1⟩; exact .inr ⟨h.next, KH, true, by rw [List.length_append], List.mem_append_left _ (by rw [b7]; simp [cD]), e3, e4 _ hN⟩
    obtain rfl : ys = [] := List.eq_nil_of_length_eq_zero (by omega); refine ⟨w, h, .raw w, _, ⟨w, rfl, rfl⟩, ?_, rfl, cO _ _ (YH hT EX hc h2 (by simpa using cY))⟩; rw [List.append_nil]
    exact Made.same L (cK.refl _ _)⟩
theorem J.app {xs ys : List τ.den} (hx : aQ fl x = some (.raw w)) (hy : aQ fl y = some (.v (.sl τ) ys)) (hT : fW P T e τ) (EX : fW P T' e τ) (cY : xs.length + ys.length <= 1000000) (hk : ∀ w', J P orc ops n l ((d, .raw w') :: fl) ((w', .row e τ (xs ++ ys)) :: σ) K)
    (hw : cV ops fl g = some true := by rfl) (hn : (Nat.blt d n && Nat.ble n 4000) = true := by rfl) :
    J P orc ops n (⟨some d, .call { callee := .builtin .append, args := #[x, y], argTypes := #[T, T'] }, ty, pos, after, g⟩ :: l) fl ((w, .row e τ xs) :: σ) K :=
  J.mk (bO.app hT EX hx hy cY) (by rintro _ _ ⟨w', rfl, rfl⟩; exact hk w') hw hn
theorem bO.KV {xs : List τ.den} {dx : τ.den} {j : Nat} (hT : gQ P T τ) (hj : j < xs.length) (hx : aQ fl x = some (.raw (fM w τ.size j))) (hy : aQ fl y = some (.v τ dx)) :
    bO P fl ((w, .row T τ xs) :: σ) (.store T x y) fun v σ' => v = .raw undef /\ σ' = (w, .row T τ (xs.set j dx)) :: σ :=
  ⟨rfl, fun S0 h t L => by
    have h1 : aA t x = fM w τ.size j := cR L.aH hx; have hu := (cR L.aH hy : aE h _ τ (aA t y) dx); rcases L.cells _ List.mem_cons_self with ⟨_, rfl⟩ | ⟨b, rs, m, h3, h4, h5, h6⟩
    . simp at hj
    have hw : w = _ := h3; have AG : (j + 1) * τ.size <= xs.length * τ.size := Nat.mul_le_mul_right _ hj; rw [Nat.add_mul, Nat.one_mul] at AG; have qP := h6.1; obtain ⟨i, hi, hs⟩ := hT.info; have CX : (aA t y).cells.toList.length = τ.size := hu.2.len
    have jC : cD w = [b] := by rw [hw]; rfl
    refine ⟨undef, h.set b (.row T (bF rs (j * τ.size) (aA t y).cells.toList) true m), .raw undef, _, ⟨rfl, rfl⟩, Made.head L (cK.set h5 (by rw [jC]; simp)) (fun b hb => .inl hb) (by rw [jC]; simp) fun hN => ?_, rfl, fun _ _ _ _ _ => ?_⟩
    . refine .inr ⟨b, _, m, by rw [List.length_set]; exact h3, ?_, by rw [Heap.dE h5, if_pos rfl], (KK h6 hj hu.2).nx hN⟩; rw [b7]; exact List.mem_append_left _ (List.mem_append_left _ (by rw [jC]; simp))
    show (gF P T (aA t x) (aA t y) h).map _ = _
    have : gF P T (aA t x) (aA t y) h = some (h.set b (.row T (bF rs (j * τ.size) (aA t y).cells.toList) true m)) := by
      rw [h1, hw]; simp only [gF, fM, h5, hi, hs, CX, hu.2.kA, Nat.zero_add]; rw [if_pos ⟨trivial, by omega, trivial⟩]
    rw [this]; rfl⟩
theorem J.KV {xs : List τ.den} {dx : τ.den} (j : Nat) (hx : aQ fl x = some (.raw (fM w τ.size j))) (hy : aQ fl y = some (.v τ dx)) (hT : gQ P T τ) (hj : j < xs.length) (hk : J P orc ops n l fl ((w, .row T τ (xs.set j dx)) :: σ) K) (hw : cV ops fl g = some true := by rfl) :
    J P orc ops n (⟨none, .store T x y, ty, pos, after, g⟩ :: l) fl ((w, .row T τ xs) :: σ) K :=
  J.AH (bO.KV hT hj hx hy) (by rintro _ _ ⟨rfl, rfl⟩; exact hk) hw
theorem aX.take : ∀ {l : List PV} {us : List Value} (k : Nat), aX h S l us -> aX h S (l.take k) (us.take k)
  | [], us, k, hx => by rw [show us = [] from hx]; simp [aX]
  | p :: ps, us, 0, hx => by simp [aX]
  | p :: ps, us, k + 1, ⟨u, r, h1, h2, h3⟩ => by subst h1; exact ⟨u, r.take k, rfl, h2, aX.take k h3⟩
theorem aX.drop : ∀ {l : List PV} {us : List Value} (k : Nat), aX h S l us -> aX h S (l.drop k) (us.drop k)
  | [], us, k, hx => by rw [show us = [] from hx]; simp [aX]
  | p :: ps, us, 0, hx => hx
  | p :: ps, us, k + 1, ⟨u, r, h1, h2, h3⟩ => by subst h1; exact aX.drop k h3
def D1 (l : List PV) (o : Nat) (new : List PV) : List PV := l.take o ++ (new ++ l.drop (o + new.length))
theorem aX.D1 {l new : List PV} {us vs : List Value} (o : Nat) (hl : aX h S l us) (hn : aX h S new vs) : aX h S (D1 l o new) (bF us o vs) := by
  unfold Fs.D1 bF; rw [List.append_assoc, <- hn.len]; exact (hl.take o).append (hn.append (hl.drop _))
theorem uA {us vs : List Value} (o : Nat) (h1 : us.all aN = true) (h2 : vs.all aN = true) : (bF us o vs).all aN = true := by
  unfold bF; rw [List.all_append, List.all_append, h2]; have a1 : (us.take o).all aN = true := List.all_eq_true.2 fun x hx => List.all_eq_true.1 h1 x (List.mem_of_mem_take hx); have a2 : (us.drop (o + vs.length)).all aN = true := List.all_eq_true.2 fun x hx => List.all_eq_true.1 h1 x (List.mem_of_mem_drop hx); rw [a1, a2]; rfl
def PV.one : PV -> Bool
  | .v τ _ => !τ.agg
  | .raw u => aN u
  | .p _ _ => true
  | .mR _ _ _ => true
  | _ => false
theorem acK : ∀ {p : PV} {u : Value}, p.one = true -> aI h S p u -> aN u = true
  | .v τ x, u, h1, hu => by
    have ha : τ.agg = false := by simpa [PV.one] using h1
    have h2 := hu.2.kA; rw [fA (hu.1.trans ha)] at h2
    simpa using h2
  | .raw w, u, h1, hu => by
    obtain rfl : u = w := hu
    exact h1
  | .p τ x, u, _, hu => by
    obtain ⟨b, o, e, rs, own, more, rfl, _⟩ := hu
    rfl
  | .mR f a c, u, _, hu => by
    obtain ⟨va, vc, rfl, _⟩ := hu; rfl
theorem KW : ∀ {cs : List PV} {us : List Value}, cs.all PV.one = true -> aX h S cs us -> us.all aN = true
  | [], us, _, hu => by rw [show us = [] from hu]; rfl
  | p :: ps, us, h1, ⟨u, r, h2, h3, h4⟩ => by
    rw [List.all_cons, Bool.and_eq_true] at h1; rw [h2, List.all_cons, acK h1.1 h3, KW h1.2 h4]; rfl
inductive lI : Ty -> PV -> List PV -> Prop where
  | v {τ : Ty} {x : τ.den} : lI τ (.v τ x) (iZ τ x)
  | raw {τ : Ty} {u : Value} (ha : τ.agg = false) (h1 : fL u = false) (h2 : aN u = true) : lI τ (.raw u) [.raw u]
  | mR {τ : Ty} {f : FuncId} {a c : List PV} (ha : τ.agg = false) : lI τ (.mR f a c) [.mR f a c]
  | p {τ τ' : Ty} {x : τ'.den} (ha : τ.agg = false) : lI τ (.p τ' x) [.p τ' x]
  | agg {τ : Ty} {us : List Value} {cs : List PV} (hl : us.length = τ.size) (h1 : us.all aN = true) (hr : ∀ h S, aX h S cs us) : lI τ (.raw (.agg us.toArray)) cs
  | ag9 {τ : Ty} {cs : List PV} (hl : cs.length = τ.size) (h1 : cs.all PV.one = true) : lI τ (.agg cs) cs
theorem lI.ok {p : PV} {cs : List PV} (hc : lI τ p cs) {u : Value} (hu : aI h S p u) : aX h S cs u.cells.toList /\ u.cells.toList.length = τ.size /\ u.cells.toList.all aN = true := by
  cases hc with
  | v =>
    have hr := hu.2
    exact ⟨kS hr, hr.len, hr.kA⟩
  | raw ha h1 h2 =>
    obtain rfl : u = _ := hu; rw [fA h1]
    exact ⟨⟨u, [], rfl, rfl, rfl⟩, by rw [Ty.qN ha]; rfl, by simp [h2]⟩
  | mR ha =>
    have wK := hu; obtain ⟨va, vc, rfl, _⟩ := hu
    exact ⟨⟨_, [], rfl, wK, rfl⟩, by rw [Ty.qN ha]; rfl, rfl⟩
  | p ha =>
    have wK := hu; obtain ⟨b, o, e, rs, own, more, rfl, _⟩ := hu
    exact ⟨⟨_, [], rfl, wK, rfl⟩, by rw [Ty.qN ha]; rfl, rfl⟩
  | agg hl h1 hr =>
    obtain rfl : u = _ := hu
    exact ⟨hr h S, hl, h1⟩
  | ag9 hl h1 =>
    obtain ⟨vs, rfl, h2⟩ := hu; exact ⟨h2, by rw [<- hl]; exact h2.len, KW h1 h2⟩
theorem bO.pS {cs new : List PV} {p : PV} {k : Nat} {q : Value} (hT : gQ P T τ) (hp : lI τ p new) (NU : k + τ.size <= cs.length) (hq : q = kF w k \/ (k = 0 /\ q = w)) (hx : aQ fl x = some (.raw q)) (hy : aQ fl y = some p) :
    bO P fl ((w, .var cs) :: σ) (.store T x y) fun v σ' => v = .raw undef /\ σ' = (w, .var (D1 cs k new)) :: σ :=
  ⟨rfl, fun S0 h t L => by
    have h1 : aA t x = q := cR L.aH hx; obtain ⟨hu1, YI, hu3⟩ := hp.ok (cR L.aH hy); obtain ⟨b, e, vs, h3, h4, h5, h6, h7⟩ := L.cells _ List.mem_cons_self; have hw : w = _ := h3; have J5 := h6.len; obtain ⟨i, hi, hs⟩ := hT.info
    have jC : cD w = [b] := by rw [hw]; rfl
    refine ⟨undef, h.set b (.row e (bF vs k (aA t y).cells.toList) true false), .raw undef, _, ⟨rfl, rfl⟩, Made.head L (cK.set h5 (by rw [jC]; simp)) (fun b hb => .inl hb) (by rw [jC]; simp) fun hN => ?_, rfl, fun _ _ _ _ _ => ?_⟩
    . refine ⟨b, e, _, h3, ?_, by rw [Heap.dE h5, if_pos rfl], (h6.D1 k hu1).nx hN, uA k h7 hu3⟩; rw [b7]; exact List.mem_append_left _ (List.mem_append_left _ (by rw [jC]; simp))
    show (gF P T (aA t x) (aA t y) h).map _ = _
    have hqq : q = .pointer (some ⟨b, k, none⟩) := by
      rcases hq with hq | ⟨oL, hq⟩
      . rw [hq, hw]; simp [kF]
      rw [hq, hw, oL]
    have : gF P T (aA t x) (aA t y) h = some (h.set b (.row e (bF vs k (aA t y).cells.toList) true false)) := by
      rw [h1, hqq]; simp only [gF, h5, hi, hs, YI, hu3]; rw [if_pos ⟨trivial, by omega, trivial⟩]
    rw [this]; rfl⟩
theorem J.pS {cs new cs' : List PV} {p : PV} (k : Nat) (hT : gQ P T τ) (hp : lI τ p new) (hk : J P orc ops n l fl ((w, .var cs') :: σ) K) (NU : Nat.ble (k + τ.size) cs.length = true := by rfl) (hx : aQ fl x = some (.raw (kF w k)) := by rfl) (hy : aQ fl y = some p := by rfl) (hc : D1 cs k new = cs' := by rfl) (hw : cV ops fl g = some true := by rfl) :
    J P orc ops n (⟨none, .store T x y, ty, pos, after, g⟩ :: l) fl ((w, .var cs) :: σ) K :=
  J.AH (bO.pS hT hp (eP NU) (.inl rfl) hx hy) (by rintro _ _ ⟨rfl, rfl⟩; rw [hc]; exact hk) hw
theorem J.lJ {cs new cs' : List PV} {p : PV} (hT : gQ P T τ) (hp : lI τ p new) (hk : J P orc ops n l fl ((w, .var cs') :: σ) K) (NU : Nat.ble (0 + τ.size) cs.length = true := by rfl) (hx : aQ fl x = some (.raw w) := by rfl) (hy : aQ fl y = some p := by rfl) (hc : D1 cs 0 new = cs' := by rfl) (hw : cV ops fl g = some true := by rfl) :
    J P orc ops n (⟨none, .store T x y, ty, pos, after, g⟩ :: l) fl ((w, .var cs) :: σ) K :=
  J.AH (bO.pS hT hp (eP NU) (.inr ⟨rfl, rfl⟩) hx hy) (by rintro _ _ ⟨rfl, rfl⟩; rw [hc]; exact hk) hw
end Go.Fs
namespace Go.Fs
variable {P : Program} {orc : FuncId -> List Value -> Heap -> Option (Value × Heap)} {aR : Option Nat} {h h' h0 h1 h2 : Heap} {S S' S0 B G : List Nat} {σ σ' j8 : aM} {t t' : Tr} {ms : List Nat} {fl : VL} {ops : Array Oper} {n i mem : Nat} {l : List Oper} {K : VL -> aM -> Prop} {Q : Ex -> VL -> aM -> Prop}
  {d : Tmp} {ty : TypeId} {pos : String} {after : Array Edge} {op : Op} {v pv : PV} {g : Option (Nat × Bool)} {x y z : Operand} {T T' e : TypeId} {τ τ' : Ty} {bs nw : List Nat} {segs : List (Nat × Nat × Nat)} {tail so : Bool} {w w' : Value} {c c' : Cell}
def zU (P : Program) (fl : VL) (op : Op) (v : PV) : Prop := calm op = false /\ ∀ (h : Heap) (S : List Nat) (t : Tr), AS h S t fl op -> nY h -> (∀ b ∈ S, b < h.next) ->
  ∃ (mk : Nat -> Value) (o : aU), aI (h.push o) S v (mk h.next) /\ ∀ (H : Heap) (d : Option Tmp) (ty : TypeId) (pos : String) (after : Array Edge) (g : Option (Nat × Bool)), fJ P ⟨d, op, ty, pos, after, g⟩ (aA t) H = some (mk H.next, H.push o)
def l6 (P : Program) (fl : VL) (op : Op) (c : Cell) : Prop := calm op = false /\ ∀ (h : Heap) (S : List Nat) (t : Tr), AS h S t fl op -> nY h -> (∀ b ∈ S, b < h.next) ->
  ∃ (mk : Nat -> Value) (o : aU), (∀ k, cD (mk k) = [k]) /\ (∀ S', dC h S (h.push o) S' -> h.next ∈ S' -> bL (h.push o) S' (mk h.next) c) /\ ∀ (H : Heap) (d : Option Tmp) (ty : TypeId) (pos : String) (after : Array Edge) (g : Option (Nat × Bool)), fJ P ⟨d, op, ty, pos, after, g⟩ (aA t) H = some (mk H.next, H.push o)
theorem J.new (hs : zU P fl op v) (hk : J P orc ops n l ((d, v) :: fl) σ K) (hw : cV ops fl g = some true := by rfl) (hn : (Nat.blt d n && Nat.ble n 4000) = true := by rfl) : J P orc ops n (⟨some d, op, ty, pos, after, g⟩ :: l) fl σ K := fun h0 G S0 t h ms I => by
  have L := I.lc; obtain ⟨mk, o, e1, e2⟩ := hs.2 h _ t I.aH.rG I.ok L.lt; obtain ⟨n1, n2⟩ := fits hn; exact oY.op (cE I.aH hw) (e2 h _ _ _ _ _) (bN n1 t _) (hk h0 G S0 _ _ ms ((I.calm (cK.push h o [])).set e1 n2))
theorem J.cell (hs : l6 P fl op c) (hk : ∀ w, J P orc ops n l ((d, .raw w) :: fl) ((w, c) :: σ) K) (hw : cV ops fl g = some true := by rfl) (hn : (Nat.blt d n && Nat.ble n 4000) = true := by rfl) : J P orc ops n (⟨some d, op, ty, pos, after, g⟩ :: l) fl σ K := fun h0 G S0 t h ms I => by
  have L := I.lc; obtain ⟨mk, o, e0, e1, e2⟩ := hs.2 h _ t I.aH.rG I.ok L.lt; obtain ⟨n1, n2⟩ := fits hn; have m : Made S0 h (h.push o) σ ((mk h.next, c) :: σ) := Made.cons L (cK.push h o []) (fun b hb => by rw [e0] at hb; simp at hb; omega) (by rw [e0]; simp) fun hN => e1 _ hN (by rw [b7, e0]; simp); exact oY.op (cE I.aH hw) (e2 h _ _ _ _ _) (bN n1 t _) (hk (mk h.next) h0 G S0 _ _ ms ((I.made m).set (show aI _ _ (.raw (mk h.next)) (mk h.next) from rfl) n2))
theorem OU : ∀ {L : List (Nat × aU)} {k : Nat} {o : aU}, (k, o) ∈ L -> ∃ o', look L k = some o'
  | [], _, _, h => by cases h
  | (k', o') :: r, k, o, h => by
    by_cases hkk : k' = k
    . exact ⟨o', by simp [look, hkk]⟩
    rcases List.mem_cons.1 h with h | h
    . simp only [Prod.mk.injEq] at h; exact absurd h.1.symm hkk
    obtain ⟨o2, h2⟩ := OU h; exact ⟨o2, by simp only [look, dO hkk, cond_false, h2]⟩
theorem GJ {m : Nat} {L : List (Nat × aU)} {o : aU} (hL : ∀ b o, look L b = some o -> b < m) : bE m (m + 1) ((m, o) :: L) = [(m, o)] := by
  unfold bE; rw [dO (show m ≠ m + 1 by omega)]; simp only [cond_false]; rw [List.filter_cons]
  have e1 : inside m (m + 1) (m, o) = true := by
    unfold inside
    have : Nat.blt m (m + 1) = true := by show Nat.ble (m + 1) (m + 1) = true; exact oK _
    simp only [oK, this, Bool.and_self]
  rw [if_pos e1]; congr 1; refine List.filter_eq_nil_iff.2 fun p hp nS => ?_; obtain ⟨k, o2⟩ := p
  have hk1 : m <= k := by
    unfold inside at nS; exact eP (aT nS).1
  obtain ⟨o', qH⟩ := OU hp; have := hL k o' qH; omega
theorem GK {b : Nat} {o : Oper} {ob : aU} {mk : Nat -> Value} {M : Heap} (hM : l4 o ⟨t, h, bs, segs, mem, tail⟩ = M) (ag5 : nY M) (hMn : M.next = h.next) (hMl : M.low = h.next) (hb : aJ bs o = b) (hd : o.dst = some d) (qG : calm o.op = false) (hw : b9 ops t o = some true)
    (mI : (tail && !Nat.beq (mem &&& b) mem) = false) (cO : fJ P o (aA t) M = some (mk M.next, M.push ob)) (n1 : Nat.blt d n = true) :
    eF (fJ P) ops n o i ⟨t, h, bs, segs, mem, tail⟩ = some ⟨t.set depth d (mk h.next), h.push ob, bs ++ [b], (i, h.next, h.next + 1) :: segs, mem ||| 2 ^ i, tail⟩ := by
  unfold eF
  have hM' : ({ next := h.next, low := h.next, aB := bif Nat.beq (mem &&& b) mem then h.aB else mask b segs h.aB } : Heap) = M := by
    rw [<- hM]; unfold l4; simp only [hb]
  simp only [hw, qG, Bool.false_eq_true, if_false, hb, mI, cond_false, hM', cO]; have bX : Nat.blt (h.next + 1) h.next = false := l5 (Nat.le_succ _)
  have e1 : bE h.next (h.next + 1) ((M.next, ob) :: M.aB) = [(h.next, ob)] := by
    rw [hMn]
    exact GJ fun b o hg => by have := ag5 b o hg; omega
  simp only [Heap.push, hMn, hMl, bX, cond_false, hd, bN n1, oK, cond_true]; rw [hMn] at e1; rw [e1]; rfl
theorem VD.new {b : Nat} (hs : zU P fl op v) (hk : VD P orc ops n l (i + 1) ((d, v) :: fl) (fG false d nw) σ so (bs ++ [b]) (mem ||| 2 ^ i) tail K)
    (hb : aJ bs ⟨some d, op, ty, pos, after, g⟩ = b := by rfl) (mI : (tail && !Nat.beq (mem &&& b) mem) = false := by rfl) (hw : cV ops fl g = some true := by rfl) (hn : (Nat.blt d n && Nat.ble n 4000) = true := by rfl) :
    VD P orc ops n (⟨some d, op, ty, pos, after, g⟩ :: l) i fl nw σ so bs mem tail K := fun h0 G S0 t h ms segs I ho => by
  obtain ⟨n1, n2⟩ := fits hn; obtain ⟨M, m1, m2, m3, m4, m5, m6, m7⟩ := vL (mem := mem) I hb ho; obtain ⟨mk, o, e1, e2⟩ := hs.2 h _ t I.aH.rG I.ok I.lc.lt; refine tQ.op (GK m1 m2 m3 m4 hb rfl hs.1 (cE I.aH hw) mI (e2 M _ _ _ _ _) n1) (hk h0 G S0 _ _ ms _ ((I.calm (cK.push h o [])).set e1 n2) fun ht => ?_); exact ((ho ht).set (old := false) n2 fun e => by cases e).next (eN.push h o) (Nat.le_refl _)
theorem VD.cell {b : Nat} (hs : l6 P fl op c) (hk : ∀ w, VD P orc ops n l (i + 1) ((d, .raw w) :: fl) (fG false d nw) ((w, c) :: σ) false (bs ++ [b]) (mem ||| 2 ^ i) tail K)
    (hb : aJ bs ⟨some d, op, ty, pos, after, g⟩ = b := by rfl) (mI : (tail && !Nat.beq (mem &&& b) mem) = false := by rfl) (hw : cV ops fl g = some true := by rfl) (hn : (Nat.blt d n && Nat.ble n 4000) = true := by rfl) :
    VD P orc ops n (⟨some d, op, ty, pos, after, g⟩ :: l) i fl nw σ so bs mem tail K := fun h0 G S0 t h ms segs I ho => by
  obtain ⟨n1, n2⟩ := fits hn; obtain ⟨M, m1, m2, m3, m4, m5, m6, m7⟩ := vL (mem := mem) I hb ho; obtain ⟨mk, o, e0, e1, e2⟩ := hs.2 h _ t I.aH.rG I.ok I.lc.lt; have hm : Made S0 h (h.push o) σ ((mk h.next, c) :: σ) := Made.cons I.lc (cK.push h o []) (fun b hb => by rw [e0] at hb; simp at hb; omega) (by rw [e0]; simp) fun hN => e1 _ hN (by rw [b7, e0]; simp); refine tQ.op (GK m1 m2 m3 m4 hb rfl hs.1 (cE I.aH hw) mI (e2 M _ _ _ _ _) n1) (hk (mk h.next) h0 G S0 _ _ ms _ ((I.made hm).set (show aI _ _ (.raw (mk h.next)) (mk h.next) from rfl) n2) fun ht => ?_)
  obtain ⟨D0, a1, a2, a3, a4, a5, a6⟩ := (ho ht).set (v := .raw (mk h.next)) (u := mk h.next) (old := false) n2 fun e => by cases e
  refine ⟨D0, a1, a2.trans (eN.push h o), mC.cons (by have := a2.next; omega) a3, a4, fun k pv hk hn => (a5 k pv hk hn).nx (h := D0) fun b ob hg hb => ⟨hg, ?_⟩, fun e => by cases e⟩; have := a1 b ob hg; have := a2.next; rw [b7, e0]; intro mT; simp only [List.cons_append, List.nil_append, List.mem_cons] at mT; rcases mT with mT | mT
  . omega
  exact hb mT
theorem KX {b : Nat} {o : Oper} {u : Value} {t2 : Tr} (hb : aJ bs o = b) (hp : put n t o.dst u = some t2) (qG : calm o.op = false) (hw : b9 ops t o = some true) (fU : Nat.beq (mem &&& b) mem = true) (aZ : nY h) (cO : fJ P o (aA t) (entry h) = some (u, h')) (hB : cK (entry h) h' B) :
    ∃ h2 iE, eF (fJ P) ops n o i ⟨t, h, bs, segs, mem, tail⟩ = some ⟨t2, h2, bs ++ [b], (i, h.next, h'.next) :: segs, mem ||| 2 ^ i, iE⟩ /\ (∀ b, h2.get b = h'.get b) /\ h2.next = h'.next /\ cK h h2 B /\ (iE = false -> eN h h2 /\ tail = false) := by
  have fH := hB.next; have agA : Nat.blt h'.next h.next = false := l5 fH; unfold eF
  have hM' : ({ next := h.next, low := h.next, aB := bif Nat.beq (mem &&& b) mem then h.aB else mask b segs h.aB } : Heap) = entry h := by
    rw [fU]; rfl
  simp only [hw, qG, Bool.false_eq_true, if_false, hb, fU, Bool.not_true, Bool.and_false, cond_false]; simp only [fU] at hM'; rw [hM', cO]; simp only [agA, cond_false, hp]
  cases dN : Nat.ble h.next h'.low with
  | true =>
    have hl := eP dN
    have gA : ∀ b, b < h.next -> h'.get b = h.get b := fun b hb => by
      rcases hB.chg b hb with h3 | h3
      . exact h3
      omega
    have fK : ∀ b, look (bE h.next h'.next h'.aB ++ h.aB) b = h'.get b := fun b => by
      rw [iB]; by_cases hb : b < h.next
      . cases iR : look (bE h.next h'.next h'.aB) b with
        | some o => have := (dS _ _ _ iR).1; omega
        | none => exact (gA b hb).symm
      have hold : look h.aB b = none := by
        cases iR : look h.aB b with
        | none => rfl
        | some o => exact absurd (aZ b o iR) hb
      rw [hold, Option.or_none]
      cases iR : look h'.aB b with
      | some o =>
        have : b < h'.next := hB.ok aZ b o iR; rw [zP _ _ (by omega) this, iR]
        exact iR.symm
      | none =>
        cases hl3 : look (bE h.next h'.next h'.aB) b with
        | none => exact iR.symm
        | some o => rw [(dS _ _ _ hl3).2] at iR; cases iR
    refine ⟨_, _, rfl, fK, rfl, ⟨fH, fun b hb hn => (fK b).trans (hB.get b hb hn), fun _ b o hg => ?_, fun e h3 _ _ => h3, fun b hb => .inl ((fK b).trans (gA b hb)), Nat.le_refl _⟩, fun ht => ⟨⟨fH, fun b hb => (fK b).trans (gA b hb), fun _ b o hg => ?_, fun e h3 _ => h3⟩, ht⟩⟩
    . exact hB.ok aZ b o ((fK b).symm.trans hg)
    exact hB.ok aZ b o ((fK b).symm.trans hg)
  | false =>
    refine ⟨_, _, rfl, fun _ => rfl, rfl, ⟨fH, hB.get, fun _ => hB.ok aZ, fun e h3 h4 h5 => Nat.le_min.2 ⟨h3, hB.low e h4 h4 h5⟩, fun b hb => ?_, Nat.min_le_left _ _⟩, fun e => by cases e⟩; rcases hB.chg b hb with h3 | h3
    . exact .inl h3
    exact .inr (Nat.le_trans (Nat.min_le_right _ _) h3)
theorem tE (m : Made S0 (entry h) h' σ σ') (hg : ∀ b, h2.get b = h'.get b) (ha : cK h h2 (own σ)) : Made S0 h h2 σ σ' := ⟨ha, m.new, m.apart, fun c hc => (m.cells c hc).aV (fun b _ => hg b) (dC.aB hg) fun b hb => List.mem_append_left _ (List.mem_flatMap.2 ⟨c, hc, hb⟩)⟩
theorem VD.mk {b : Nat} {Tt : PV -> aM -> Prop} (hs : bO P fl σ op Tt) (hk : ∀ v σ' iE, Tt v σ' -> VD P orc ops n l (i + 1) ((d, v) :: fl) (fG false d nw) σ' false (bs ++ [b]) (mem ||| 2 ^ i) iE K)
    (hb : aJ bs ⟨some d, op, ty, pos, after, g⟩ = b := by rfl) (fU : Nat.beq (mem &&& b) mem = true := by rfl) (hw : cV ops fl g = some true := by rfl) (hn : (Nat.blt d n && Nat.ble n 4000) = true := by rfl) :
    VD P orc ops n (⟨some d, op, ty, pos, after, g⟩ :: l) i fl nw σ so bs mem tail K := fun h0 G S0 t h ms segs I ho => by
  obtain ⟨n1, n2⟩ := fits hn; have Le := I.lc.aB (h' := entry h) (fun _ => rfl) rfl; obtain ⟨u, h', v, σ', e1, e2, e3, e4⟩ := hs.2 S0 (entry h) t Le; obtain ⟨h2, iE, f1, f2, f3, f4, f5⟩ := KX (i := i) (segs := segs) (tail := tail) hb (bN n1 t u) hs.1 (cE I.aH hw) fU I.ok (e4 (some d) ty pos after g) e2.lH; have I2 := (I.made (tE e2 f2 f4)).set (e3.nx (dC.aB f2)) n2; refine tQ.op f1 (hk v σ' iE e1 h0 G S0 _ _ ms _ I2 fun ht => ?_); obtain ⟨f6, f7⟩ := f5 ht
  obtain ⟨D0, a1, a2, a3, a4, a5, a6⟩ := (ho f7).set (v := v) (u := u) (old := false) n2 fun e => by cases e
  refine ⟨D0, a1, a2.trans f6, mC.cons a2.next a3, a4, fun k pv hk hn => (a5 k pv hk hn).nx (h := D0) fun b ob hg hb => ⟨hg, ?_⟩, fun e => by cases e⟩; have h3 := a1 b ob hg; have h4 := a2.next; intro mT; rcases List.mem_append.1 mT with mT | mT
  . rcases e2.new b mT with h5 | h5
    . exact hb (List.mem_append_left _ h5)
    have : (entry h).next = h.next := rfl; omega
  exact hb (List.mem_append_right _ mT)
theorem VD.AH {b : Nat} {Tt : PV -> aM -> Prop} (hs : bO P fl σ op Tt) (hk : ∀ v σ' iE, Tt v σ' -> VD P orc ops n l (i + 1) fl nw σ' false (bs ++ [b]) (mem ||| 2 ^ i) iE K)
    (hb : aJ bs ⟨none, op, ty, pos, after, g⟩ = b := by rfl) (fU : Nat.beq (mem &&& b) mem = true := by rfl) (hw : cV ops fl g = some true := by rfl) :
    VD P orc ops n (⟨none, op, ty, pos, after, g⟩ :: l) i fl nw σ so bs mem tail K := fun h0 G S0 t h ms segs I ho => by
  have Le := I.lc.aB (h' := entry h) (fun _ => rfl) rfl; obtain ⟨u, h', v, σ', e1, e2, e3, e4⟩ := hs.2 S0 (entry h) t Le; obtain ⟨h2, iE, f1, f2, f3, f4, f5⟩ := KX (n := n) (i := i) (segs := segs) (tail := tail) (o := ⟨none, op, ty, pos, after, g⟩) hb (OM n t u) hs.1 (cE I.aH hw) fU I.ok (e4 none ty pos after g) e2.lH; have I2 := I.made (tE e2 f2 f4); refine tQ.op f1 (hk v σ' iE e1 h0 G S0 _ _ ms _ I2 fun ht => ?_); obtain ⟨f6, f7⟩ := f5 ht; obtain ⟨D0, a1, a2, a3, a4, a5, a6⟩ := ho f7; refine ⟨D0, a1, a2.trans f6, mC.cons a2.next a3, a4, fun k pv hk hn => (a5 k pv hk hn).nx (h := D0) fun b ob hg hb => ⟨hg, ?_⟩, fun e => by cases e⟩; have h3 := a1 b ob hg; have h4 := a2.next; intro mT; rcases List.mem_append.1 mT with mT | mT
  . rcases e2.new b mT with h5 | h5
    . exact hb (List.mem_append_left _ h5)
    have : (entry h).next = h.next := rfl; omega
  exact hb (List.mem_append_right _ mT)
end Go.Fs
namespace Go.Fs
variable {P : Program} {orc : FuncId -> List Value -> Heap -> Option (Value × Heap)} {aR : Option Nat} {h h' h0 h1 h2 : Heap} {S S' S0 B G : List Nat} {σ σ' j8 : aM} {t t' : Tr} {ms : List Nat} {fl : VL} {ops : Array Oper} {n i mem : Nat} {l : List Oper} {K : VL -> aM -> Prop} {Q : Ex -> VL -> aM -> Prop}
  {d : Tmp} {ty : TypeId} {pos : String} {after : Array Edge} {op : Op} {v pv : PV} {g : Option (Nat × Bool)} {x y z : Operand} {T T' e : TypeId} {τ τ' : Ty} {bs nw : List Nat} {segs : List (Nat × Nat × Nat)} {tail so : Bool} {w w' : Value} {c c' : Cell}
theorem tF {fl : VL} : ∀ {l : List Operand} {vs : List PV}, (∀ x ∈ l, ∀ pv, aQ fl x = some pv -> aI h S pv (aA t x)) -> lG fl l = some vs -> aX h S vs (l.map (aA t))
  | [], vs, _, hx => by obtain rfl := Option.some.inj hx; rfl
  | x :: r, vs, hq, hx => by
    simp only [lG] at hx; split at hx
    . rename_i v QY hv B2; obtain rfl := Option.some.inj hx; exact ⟨_, _, rfl, hq x List.mem_cons_self _ hv, tF (fun y hy => hq y (List.mem_cons_of_mem _ hy)) B2⟩
    cases hx
theorem aX.vs : ∀ {xs : List τ.den} {us : List Value}, aX h S (xs.map (PV.v τ)) us -> us.length = xs.length /\ ∀ i (hi : i < us.length) (hx : i < xs.length), aE h S τ us[i] xs[i]
  | [], us, hx => ⟨by rw [show us = [] from hx]; rfl, fun i _ h => by simp at h⟩
  | a :: xs, us, ⟨u, r, h1, h2, h3⟩ => by
    subst h1; obtain ⟨e1, e2⟩ := aX.vs h3; refine ⟨by simp [e1], fun i hi hx => ?_⟩
    cases i with
    | zero => exact h2
    | succ i => exact e2 i (by simpa using hi) (by simpa using hx)
theorem D2 : ∀ {ps : List (Nat × Operand)} {k : Nat}, ps.map (·.1) = List.range' k ps.length -> ps.map (fun p => (p.1, aA t p.2)) = lP k (ps.map fun p => aA t p.2)
  | [], k, _ => rfl
  | (i, x) :: r, k, hk => by
    simp only [List.map_cons, List.length_cons, List.range'_succ, List.cons.injEq] at hk; simp only [List.map_cons, lP, hk.1]; rw [D2 hk.2]
theorem U4 {parts : Array (Nat × Operand)} {len : Nat} {xs : List τ.den} (hT : fW P T e τ) (hxs : lG fl (parts.toList.map (·.2)) = some (xs.map (PV.v τ))) (U5 : parts.toList.map (·.1) = List.range' 0 parts.toList.length) (hl : len = xs.length) (hp : 0 < xs.length) (cY : xs.length <= 1000) (HW : τ.size <= 100) (hs : AS h S t fl (.buildSlice T len parts)) :
    ∃ us : List Value, us.length = xs.length /\ bC h S τ (flat us) xs /\ ∀ (H : Heap) (d : Option Tmp) (ty : TypeId) (pos : String) (after : Array Edge) (g : Option (Nat × Bool)), fJ P ⟨d, .buildSlice T len parts, ty, pos, after, g⟩ (aA t) H = some (.slice (some ⟨H.next, 0, none⟩) xs.length 0, H.push (.row e (flat us) true false)) := by
  have hr : aX h S (xs.map (PV.v τ)) ((parts.toList.map (·.2)).map (aA t)) := tF (fun x hx => hs x (by simpa [Op.operands] using hx)) hxs; obtain ⟨e1, e2⟩ := aX.vs hr; refine ⟨_, e1, bC.flat _ xs e1 e2, fun H _ _ _ _ _ => ?_⟩; show iF P T len (parts.map fun p => (p.1, aA t p.2)) H = _
  have hpm : parts.map (fun p => (p.1, aA t p.2)) = (lP 0 ((parts.toList.map (·.2)).map (aA t))).toArray := by
    apply Array.toList_inj.1; rw [Array.toList_map, D2 U5, List.map_map]; rfl
  have := ag4 hT e1 e2 (by intro e; rw [e] at e1; simp at e1; omega) (by omega) HW H; rw [hpm, hl, <- e1]; exact this
theorem zU.lit {parts : Array (Nat × Operand)} {len : Nat} (xs : List τ.den) (hT : fW P T e τ) (hxs : lG fl (parts.toList.map (·.2)) = some (xs.map (PV.v τ)) := by rfl) (U5 : parts.toList.map (·.1) = List.range' 0 parts.toList.length := by rfl) (hl : len = xs.length := by rfl) (hp : (Nat.blt 0 xs.length && Nat.ble xs.length 1000 && Nat.ble τ.size 100) = true := by rfl) : zU P fl (.buildSlice T len parts) (.v (.sl τ) xs) :=
  ⟨rfl, fun h S t hs aZ hS => by
    obtain ⟨p1, p2⟩ := aT hp; obtain ⟨p0, p1⟩ := aT p1; obtain ⟨us, e1, e2, e3⟩ := U4 hT hxs U5 hl (iH p0) (eP p1) (eP p2) hs; refine ⟨fun k => .slice (some ⟨k, 0, none⟩) xs.length 0, .row e (flat us) true false, ?_, e3⟩; have hN : dC h S (h.push (.row e (flat us) true false)) S := (eN.push h _).nx aZ
    exact ((e2.nx hN).slv (by rw [Heap.bB, if_pos rfl]) fun hm => by have := hS _ hm; omega).rep⟩
theorem acL (hT : fW P T e τ) (H : Heap) (d : Option Tmp) (ty : TypeId) (pos : String) (after : Array Edge) (g : Option (Nat × Bool)) : fJ P ⟨d, .buildSlice T 0 #[], ty, pos, after, g⟩ (aA t) H = some (.slice (some ⟨H.next, 0, none⟩) 0 0, H.push (.row e [] true false)) := by
  show iF P T 0 ((#[] : Array (Nat × Operand)).map fun p => (p.1, aA t p.2)) H = _; obtain ⟨i, z, pR, jB, _⟩ := hT.sl.info; simp [iF, hT.sl.sl, pR]
theorem l6.U6 (hT : fW P T e τ) : l6 P fl (.buildSlice T 0 #[]) (.row e τ []) :=
  ⟨rfl, fun h S t hs aZ hS => ⟨fun k => .slice (some ⟨k, 0, none⟩) 0 0, .row e [] true false, fun _ => rfl, fun S' hN hm => .inr ⟨h.next, [], false, rfl, hm, by rw [Heap.bB, if_pos rfl], bC.nil⟩, acL hT⟩⟩
theorem zU.box {dx : τ.den} (hx : aQ fl x = some (.v τ dx) := by rfl) : zU P fl (.box e x) (.p τ dx) :=
  ⟨rfl, fun h S t hs aZ hS => by
    have hu : aE h S τ (aA t x) dx := hs x (by simp [Op.operands]) _ hx; refine ⟨fun k => .pointer (some ⟨k, 0, none⟩), .row e (aA t x).cells.toList true false, ?_, fun H _ _ _ _ _ => ?_⟩
    . exact hu.box aZ hS
    show qE e (aA t x) H = _; unfold qE
    rw [if_pos hu.2.kA]⟩
theorem l6.box {p : PV} {cs : List PV} (hp : lI τ p cs) (hx : aQ fl x = some p := by rfl) : l6 P fl (.box e x) (.var cs) :=
  ⟨rfl, fun h S t hs aZ hS => by
    obtain ⟨h1, h2, h3⟩ := hp.ok (hs x (by simp [Op.operands]) _ hx); refine ⟨fun k => .pointer (some ⟨k, 0, none⟩), .row e (aA t x).cells.toList true false, fun _ => rfl, fun S' hN hm => ?_, fun H _ _ _ _ _ => ?_⟩
    . exact ⟨h.next, e, _, rfl, hm, by rw [Heap.bB, if_pos rfl], h1.nx hN, h3⟩
    show qE e (aA t x) H = _; unfold qE
    rw [if_pos h3]⟩
def yK : (τ : Ty) -> τ.den
  | .int _ => (0 : Int)
  | .bool => false
  | .str => ByteArray.empty
  | .bJ _ => (0 : Nat)
  | .sl _ => []
  | .mp _ _ => []
  | .fn => none
  | .mQ => none
  | .pair a b => (yK a, yK b)
  | .unit => ()
def mU : Ty -> List Value
  | .int k => [.int k 0]
  | .bool => [.bool false]
  | .str => [.string ByteArray.empty]
  | .bJ k => [.float k 0]
  | .sl _ => [.slice none 0 0]
  | .mp _ _ => [.map none]
  | .fn => [.nilFunc]
  | .mQ => [.slice none 0 0]
  | .pair a b => mU a ++ mU b
  | .unit => []
theorem oW (h : Heap) (S : List Nat) : ∀ (τ : Ty), cG h S τ (mU τ) (yK τ) /\ (mU τ).all dQ = true
  | .int _ => ⟨rfl, rfl⟩
  | .bool => ⟨rfl, rfl⟩
  | .str => ⟨rfl, rfl⟩
  | .bJ _ => ⟨rfl, rfl⟩
  | .sl _ => ⟨⟨_, rfl, .inl ⟨rfl, rfl⟩⟩, rfl⟩
  | .mp _ _ => ⟨⟨_, rfl, .inl ⟨rfl, rfl⟩⟩, rfl⟩
  | .fn => ⟨rfl, rfl⟩
  | .mQ => ⟨rfl, rfl⟩
  | .unit => ⟨rfl, rfl⟩
  | .pair a b => by
    obtain ⟨a1, a2⟩ := oW h S a; obtain ⟨b1, b2⟩ := oW h S b; refine ⟨⟨?_, ?_⟩, ?_⟩
    . show cG h S a ((mU a ++ mU b).take a.size) _; rw [List.take_left' a1.len]; exact a1
    . show cG h S b ((mU a ++ mU b).drop a.size) _; rw [List.drop_left' a1.len]; exact b1
    show (mU a ++ mU b).all dQ = true; rw [List.all_append, a2, b2]; rfl
structure tG (P : Program) (e : TypeId) (τ : Ty) : Prop where
  zero : ∃ z, (P.info? e).bind (·.zero) = some z /\ z.cells.toList = mU τ /\ fL z = τ.agg
theorem rK {z : Value} (hz : (P.info? e).bind (·.zero) = some z) (hc : z.cells.toList = mU τ) (ha : fL z = τ.agg) : tG P e τ := ⟨z, hz, hc, ha⟩
theorem OV {u : Value} (h : u.cells.toList.all dQ = true) : af u = true /\ u.cells.toList.all aN = true := by
  refine ⟨?_, CY h⟩
  cases u with
  | agg cs => exact h
  | tuple vs => simp [Value.cells, dQ] at h
  | _ => simpa [Value.cells, af, q6] using h
theorem l6.alloc (hZ : tG P e τ) : l6 P fl (.alloc e) (.var (iZ τ (yK τ))) :=
  ⟨rfl, fun h S t hs aZ hS => by
    obtain ⟨z, h1, h2, h3⟩ := hZ.zero; obtain ⟨z1, z2⟩ := oW h S τ; obtain ⟨a1, a2⟩ := OV (u := z) (by rw [h2]; exact z2); refine ⟨fun k => .pointer (some ⟨k, 0, none⟩), .row e z.cells.toList true false, fun _ => rfl, fun S' hN hm => ?_, fun H _ _ _ _ _ => ?_⟩
    . exact ⟨h.next, e, _, rfl, hm, by rw [Heap.bB, if_pos rfl], by have := (kS z1).nx hN; rwa [<- h2] at this, a2⟩
    show (match (P.info? e).bind (·.zero) with | some z => if af z then qE e z H else none | none => none) = _; rw [h1]; simp only [a1, if_true]; unfold qE
    rw [if_pos a2]⟩
theorem GL {z : Value} (hz : 0 < z.cells.size) : ∀ n : Nat, kU z n = (List.replicate n z.cells.toList).flatten
  | 0 => by simp [kU]
  | n + 1 => by
    have ih := GL hz n; unfold kU at ih ⊢; rw [List.replicate_succ', List.flatten_append, <- ih, Nat.add_mul, Nat.one_mul, List.range_add, List.map_append]; congr 1; refine List.ext_getElem (by simp) fun i h1 h2 => ?_
    have hi : i < z.cells.size := by simpa using h1
    simp only [List.getElem_map, List.getElem_range, List.flatten_cons, List.flatten_nil, List.append_nil, List.map_map]
    have h3 : (n * z.cells.size + i) % z.cells.size = i := by rw [Nat.mul_comm, Nat.mul_add_mod, Nat.mod_eq_of_lt hi]
    simp only [Function.comp, List.getElem_range, h3]; rw [getElem!_pos z.cells i hi]; simp
theorem KY {cs : List Value} {dx : τ.den} (hx : cG h S τ cs dx) : ∀ n : Nat, bC h S τ (List.replicate n cs).flatten (List.replicate n dx)
  | 0 => bC.nil
  | n + 1 => by
    have h1 : bC h S τ cs [dx] := ⟨by simpa using hx.len, fun i hi => by
      obtain rfl : i = 0 := by simpa using hi
      simp only [Nat.zero_mul, List.drop_zero, List.getElem_cons_zero]; rw [List.take_of_length_le (by rw [hx.len]; exact Nat.le_refl _)]
      exact hx⟩
    have := h1.append (KY hx n); simpa [List.replicate_succ] using this
theorem l6.make {k : Nat} (hx : aQ fl x = some (.v (.int .i64) ((k : Nat) : Int))) (hy : aQ fl y = some (.v (.int .i64) ((k : Nat) : Int))) (hT : fW P T e τ) (hZ : tG P e τ) (hk : k <= 1000000) : l6 P fl (.makeSlice T x y) (.row e τ (List.replicate k (yK τ))) :=
  ⟨rfl, fun h S t hs aZ hS => by
    have u1 := aE.int (hs x (by simp [Op.operands]) _ hx); have u2 := aE.int (hs y (by simp [Op.operands]) _ hy); obtain ⟨z, h1, h2, h3⟩ := hZ.zero; obtain ⟨i, z', pR, jB, HX, vN, BC, EY, KU⟩ := hT.sl.info
    obtain rfl : z' = z := by
      rw [pR] at h1; simpa [BC] using h1
    have tA := hT.sl.pos; refine ⟨fun m => .slice (some ⟨m, 0, none⟩) k 0, .row e (kU z' k) true false, fun _ => rfl, fun S' hN hm => ?_, fun H _ _ _ _ _ => ?_⟩
    . refine .inr ⟨h.next, _, false, by simp, hm, by rw [Heap.bB, if_pos rfl], ?_⟩; rw [GL (by omega), h2]; exact KY (oW _ _ τ).1 k
    show pB P T (aA t x) (aA t y) H = _; rw [u1, u2]; unfold pB; simp only [hT.sl.sl, pR, BC]
    have hb : i.bytes * k <= 1099511627776 := by
      have := Nat.mul_le_mul vN hk; omega
    have hc : (decide (0 <= ((k : Nat) : Int)) && decide (((k : Nat) : Int) <= ((k : Nat) : Int)) && decide (((k : Nat) : Int) <= 1099511627776) && Nat.ble (i.bytes * ((k : Nat) : Int).toNat) 1099511627776 && Nat.blt 0 i.size && Nat.beq z'.cells.size i.size && z'.cells.toList.all dQ) = true := by
      have e1 : Nat.ble (i.bytes * ((k : Nat) : Int).toNat) 1099511627776 = true := by rw [Nat.ble_eq, Int.toNat_natCast]; exact hb
      have e2 : Nat.blt 0 i.size = true := by show Nat.ble 1 i.size = true; rw [Nat.ble_eq, jB]; exact tA
      rw [e1, e2, EY, jB, Nat.beq_refl, KU]; simp; omega
    rw [hc]
    rfl⟩
def GM (pl : List (Nat × Nat)) : List PV -> List Nat -> List PV -> Option (List PV)
  | L, [], [] => some L
  | L, i :: is, p :: ps => match pl[i]? with
    | some (o, s) => bif Nat.ble (o + s) L.length then
        (match p with
        | .v τ x => bif Nat.beq τ.size s then GM pl (D1 L o (iZ τ x)) is ps else none
        | .raw (.slice none 0 0) => bif Nat.beq s 1 then (match L[o]? with | some (.v (.sl _) []) => GM pl L is ps | _ => none) else none
        | _ => none)
      else none
    | none => none
  | _, _, _ => none
structure GN (P : Program) (T : TypeId) (τ : Ty) (pl : List (Nat × Nat)) : Prop where
  zer : tG P T τ
  agg : τ.agg = true
  run : ∀ (z : Value) (parts : Array (Nat × Value)) (cs : Array Value), (P.info? T).bind (·.zero) = some z -> Instr.fill (pl[·]?) z.cells parts.toList = some cs -> aC P (Instr.build T parts) = some (.agg cs)
def plB (P : Program) (T : TypeId) : Option (List (Nat × Nat)) :=
  match P.underlying T with
  | some (.struct fields) => (aC P (fields.mapM fun f => do pure (f.offset, <- sizeOf f.type))).map (·.toList)
  | some (.array n e) => (P.info? e).map fun i => (List.range n).map fun j => (j * i.size, i.size)
  | _ => none
theorem KZ {pl pl' : Nat -> Option (Nat × Nat)} (hp : ∀ i q, pl i = some q -> pl' i = some q) : ∀ (ps : List (Nat × Value)) (cells out : Array Value), Instr.fill pl cells ps = some out -> Instr.fill pl' cells ps = some out
  | [], cells, out, hf => hf
  | (i, v) :: rest, cells, out, hf => by
    unfold Instr.fill at hf ⊢
    cases hq : pl i with
    | none => rw [hq] at hf; cases hf
    | some q =>
      rw [hq] at hf; rw [hp i q hq]; obtain ⟨o, sz⟩ := q; simp only at hf ⊢; split at hf
      . cases hf
      rename_i cA; rw [if_neg cA]; exact KZ hp rest _ out hf
theorem L0 {z : Value} (hz : (P.info? T).bind (·.zero) = some z) : aC P (zeroValue T) = some z := by
  obtain ⟨i, hi, hzi⟩ := Option.bind_eq_some_iff.1 hz; unfold zeroValue; rw [aD, u6 hi]; simp only [Option.bind_some, hzi]; rfl
theorem D3 {pl : List (Nat × Nat)} (hZ : tG P T τ) (ha : τ.agg = true) (hp : plB P T = some pl) : GN P T τ pl := by
  refine ⟨hZ, ha, fun z parts cs hz hf => ?_⟩; unfold plB at hp; split at hp
  . rename_i fields hu; obtain ⟨places, h1, h2⟩ := Option.map_eq_some_iff.1 hp; refine KJ hu (L0 hz) h1 ?_; rw [<- hf]; congr 1; funext i; rw [<- h2]; simp
  . rename_i m e hu; obtain ⟨i, hi, h2⟩ := Option.map_eq_some_iff.1 hp
    have XJ : Instr.fill (fun j => some (j * i.size, i.size)) z.cells parts.toList = some cs := KZ (fun j q hq => by
      rw [<- h2] at hq; simp only [List.getElem?_map] at hq; obtain ⟨k, hk, rfl⟩ := Option.map_eq_some_iff.1 hq; obtain ⟨hk1, rfl⟩ := List.getElem?_eq_some_iff.1 hk
      simp) _ _ _ hf
    have cY : aC P (sizeOf e) = some i.size := gU hi; unfold Instr.build; simp only [aD, L0 hz, aG hu, Option.bind_some, cY, XJ]; rfl
  cases hp
theorem zV {pl : List (Nat × Nat)} : ∀ {is : List Nat} {ps : List PV} {us : List Value} {L L' : List PV} {cs : List Value}, GM pl L is ps = some L' -> aX h S ps us -> aX h S L cs -> cs.all aN = true ->
    ∃ cs', Instr.fill (pl[·]?) cs.toArray (is.zip us) = some cs'.toArray /\ aX h S L' cs' /\ us.all (fun u => u.cells.toList.all aN) = true /\ is.length = us.length
  | [], [], us, L, L', cs, hb, hp, hL, ho => by
    obtain rfl : us = [] := hp; obtain rfl := Option.some.inj hb
    exact ⟨cs, rfl, hL, rfl, rfl⟩
  | i :: is, p :: ps, us, L, L', cs, hb, ⟨u, r, h1, h2, h3⟩, hL, ho => by
    subst h1; have hlen := hL.len; simp only [GM] at hb; split at hb
    . rename_i o s hpl
      cases wP : Nat.ble (o + s) L.length with
      | false => rw [wP] at hb; cases hb
      | true =>
        rw [wP] at hb; have HQ := eP wP; simp only [cond_true] at hb; split at hb
        . rename_i τ x
          cases hs : Nat.beq τ.size s with
          | false => rw [hs] at hb; cases hb
          | true =>
            rw [hs] at hb; simp only [cond_true] at hb; obtain rfl := bD hs; have hu : aE h S τ u x := h2; have CX : u.cells.toList.length = τ.size := hu.2.len
            have YJ : u.cells.size = τ.size := by simpa using CX
            obtain ⟨cs', f1, f2, f3, f4⟩ := zV hb h3 (hL.D1 o (kS hu.2)) (uA o ho hu.2.kA); refine ⟨cs', ?_, f2, by rw [List.all_cons, hu.2.kA, f3]; rfl, by simp [f4]⟩; simp only [List.zip_cons_cons, Instr.fill, hpl]
            have h9 : (u.cells.size ≠ τ.size || o + u.cells.size > cs.toArray.size) = false := by simp [YJ]; omega
            rw [h9]; simp only [Bool.false_eq_true, if_false]
            have nL : u.cells.zipIdx.foldl (fun (cs : Array Value) (p : Value × Nat) => cs.setIfInBounds (o + p.2) p.1) cs.toArray = (bF cs o u.cells.toList).toArray := by
              have e0 : cs = cs.take o ++ ((cs.drop o).take τ.size) ++ cs.drop (o + τ.size) := by
                rw [<- List.drop_drop, List.append_assoc, List.take_append_drop, List.take_append_drop]
              have := CW τ.size o u (cs.take o) ((cs.drop o).take τ.size) (cs.drop (o + τ.size)) (by rw [List.length_take]; omega) (by rw [List.length_take, List.length_drop]; omega) YJ; rw [<- e0] at this; rw [this]; unfold bF; rw [CX]
            rw [nL]; exact f1
        . cases hs : Nat.beq s 1 with
          | false => rw [hs] at hb; cases hb
          | true =>
            rw [hs] at hb; simp only [cond_true] at hb; obtain rfl := bD hs; split at hb
            . rename_i ee hLo; obtain rfl : u = .slice none 0 0 := h2
              obtain ⟨cs', f1, f2, f3, f4⟩ := zV (cs := bF cs o [.slice none 0 0]) hb h3 (by
                have := hL.D1 o (show aX h S [.v (.sl ee) []] [.slice none 0 0] from ⟨_, [], rfl, kE.nil.rep, rfl⟩)
                have e9 : D1 L o [.v (.sl ee) []] = L := by
                  unfold Fs.D1
                  have hol : o < L.length := by omega
                  have hg : L[o] = .v (.sl ee) [] := by rw [List.getElem?_eq_getElem hol] at hLo; exact Option.some.inj hLo
                  rw [<- hg]; simp only [List.length_cons, List.length_nil, Nat.zero_add, List.cons_append, List.nil_append]; rw [<- List.drop_eq_getElem_cons hol, List.take_append_drop]
                rwa [e9] at this) (uA o ho rfl)
              refine ⟨cs', ?_, f2, by rw [List.all_cons, f3]; rfl, by simp [f4]⟩; simp only [List.zip_cons_cons, Instr.fill, hpl]
              have h9 : ((Value.slice none 0 0).cells.size ≠ 1 || o + (Value.slice none 0 0).cells.size > cs.toArray.size) = false := by simp [Value.cells]; omega
              rw [h9]; simp only [Bool.false_eq_true, if_false]
              have nL : (Value.slice none 0 0).cells.zipIdx.foldl (fun (cs : Array Value) (p : Value × Nat) => cs.setIfInBounds (o + p.2) p.1) cs.toArray = (bF cs o [.slice none 0 0]).toArray := by
                have e0 : cs = cs.take o ++ ((cs.drop o).take 1) ++ cs.drop (o + 1) := by
                  rw [<- List.drop_drop, List.append_assoc, List.take_append_drop, List.take_append_drop]
                have := CW 1 o (.slice none 0 0) (cs.take o) ((cs.drop o).take 1) (cs.drop (o + 1)) (by rw [List.length_take]; omega) (by rw [List.length_take, List.length_drop]; omega) rfl; rw [<- e0] at this; rw [this]; unfold bF; rfl
              rw [nL]; exact f1
            cases hb
        cases hb
    cases hb
  | [], p :: ps, us, L, L', cs, hb, _, _, _ => by simp [GM] at hb
  | i :: is, [], us, L, L', cs, hb, _, _, _ => by simp [GM] at hb
theorem zip_map {α β γ : Type} (f : α -> β) (k : α -> γ) : ∀ l : List α, (l.map f).zip (l.map k) = l.map fun a => (f a, k a)
  | [] => rfl
  | a :: l => by simp [zip_map f k l]
theorem aF.build {pl : List (Nat × Nat)} {parts : Array (Nat × Operand)} {ps : List PV} (dx : τ.den) (hT : GN P T τ pl) (AI : lG fl (parts.toList.map (·.2)) = some ps := by rfl) (hb : GM pl (iZ τ (yK τ)) (parts.toList.map (·.1)) ps = some (iZ τ dx) := by rfl) : aF P fl σ (.build T parts) (.v τ dx) :=
  ⟨rfl, fun h S t hs _ => by
    obtain ⟨z, z1, z2, z3⟩ := hT.zer.zero; obtain ⟨y1, y2⟩ := oW h S τ; have hr : aX h S ps ((parts.toList.map (·.2)).map (aA t)) := tF (fun x hx => hs x (by simpa [Op.operands] using hx)) AI; obtain ⟨cs', f1, f2, f3, f4⟩ := zV hb hr (kS y1) (CY y2); refine ⟨.agg cs'.toArray, ⟨by rw [hT.agg]; rfl, by simpa [Value.cells] using rH f2⟩, fun _ _ _ _ _ H => ?_⟩; show (bif (parts.toList.all fun p => (aA t p.2).cells.toList.all aN) && ((((P.info? T).bind (·.zero)).map fun z => z.cells.toList.all dQ) == some true) then (aC P (Instr.build T (parts.map fun p => (p.1, aA t p.2)))).map fun v => (v, H) else none) = _
    have c1 : (parts.toList.all fun p => (aA t p.2).cells.toList.all aN) = true := by
      rw [List.map_map, List.all_map] at f3; exact f3
    have c2 : ((((P.info? T).bind (·.zero)).map fun z => z.cells.toList.all dQ) == some true) = true := by
      rw [z1]
      have e : z.cells.toList.all dQ = true := by rw [z2]; exact y2
      simp only [Option.map_some, e]; rfl
    have eD := hT.run z (parts.map fun p => (p.1, aA t p.2)) cs'.toArray z1 (by
      rw [<- f1, Array.toList_map, <- zip_map, List.map_map]; congr 1
      rw [<- z2])
    rw [c1, c2, eD]
    rfl⟩
end Go.Fs
namespace Go.Fs
variable {P : Program} {orc : FuncId -> List Value -> Heap -> Option (Value × Heap)} {aR : Option Nat} {h h' h0 h1 h2 : Heap} {S S' S0 : List Nat} {σ σ' j8 : aM} {t t' : Tr} {ms : List Nat} {fl : VL} {ops : Array Oper} {n i mem : Nat} {l : List Oper} {K : VL -> aM -> Prop} {Q : Ex -> VL -> aM -> Prop}
  {d : Tmp} {ty : TypeId} {pos : String} {after : Array Edge} {op : Op} {v pv : PV} {g : Option (Nat × Bool)} {x y z : Operand} {T T' e : TypeId} {τ τ' : Ty} {bs nw : List Nat} {segs : List (Nat × Nat × Nat)} {tail so : Bool} {w w' : Value} {c c' : Cell}
abbrev I (n : Int) : PV := .v (.int .i64) n
abbrev B (b : Bool) : PV := .v .bool b
abbrev D (p : Prop) [Decidable p] : PV := .v .bool (decide p)
abbrev St (s : ByteArray) : PV := .v .str s
abbrev tH : PV := .raw (.slice none 0 0)
theorem m0 {a : Value × Cell} {r : aM} : a ∈ a :: r := List.mem_cons_self
theorem m1 {a b : Value × Cell} {r : aM} : b ∈ a :: b :: r := List.mem_cons_of_mem _ m0
theorem m2 {a b c : Value × Cell} {r : aM} : c ∈ a :: b :: c :: r := List.mem_cons_of_mem _ m1
theorem m3 {a b c d : Value × Cell} {r : aM} : d ∈ a :: b :: c :: d :: r := List.mem_cons_of_mem _ m2
theorem jT {a b : Value × Cell} {r : aM} : (a :: b :: r).Perm (b :: a :: r) := List.Perm.swap b a r
theorem lY {a b c : Value × Cell} {r : aM} : (a :: b :: c :: r).Perm (c :: a :: b :: r) := ((List.Perm.swap c b r).cons a).trans (List.Perm.swap c a (b :: r))
theorem jD {a b c d : Value × Cell} {r : aM} : (a :: b :: c :: d :: r).Perm (d :: a :: b :: c :: r) := (lY.cons a).trans (List.Perm.swap d a (b :: c :: r))
theorem aF.ixD {xs : List τ.den} {j : Nat} (hx : aQ fl x = some (.v (.sl τ) xs)) (hy : aQ fl y = some (.v (.int .i64) ((j : Nat) : Int))) (d0 : τ.den) (hT : fW P T e τ) (hj : j < xs.length) : aF P fl σ (.indexAddr T x y) (.p τ (xs.getD j d0)) := by
  have := aF.ix (σ := σ) hx hy hT hj
  rwa [show xs[j] = xs.getD j d0 by simp [hj]] at this
def U7 (b : Bool) (fl : VL) : VL -> Prop
  | [] => True
  | (k, v) :: r => kN fl k = some (.gd b v) /\ U7 b fl r
theorem eR.there {b : Bool} {t : Tr} {fl : VL} (hs : eR h S t fl) (hb : b = true) : ∀ {nw : VL}, U7 b fl nw -> eR h S t (nw ++ fl)
  | [], _ => hs
  | (k, v) :: r, hn => (eR.there hs hb hn.2).cons ((hs k _ hn.1 : aI h S (.gd b v) (t.get k)).1 hb)
theorem J.cg {j : Nat} {w r : Bool} {k : Tmp} (nw : VL) (hnw : U7 (r == w) fl nw) (hs : (r == w) = true -> aF P (nw ++ fl) σ op v) (hk : J P orc ops n l ((d, .gd (r == w) v) :: fl) σ K) (hj : (ops[j]?).bind (·.dst) = some k := by rfl) (hr : kN fl k = some (.v .bool r) := by rfl) (hn : (Nat.blt d n && Nat.ble n 4000) = true := by rfl) :
    J P orc ops n (⟨some d, op, ty, pos, after, some (j, w)⟩ :: l) fl σ K := fun h0 G S0 t h ms qS => by
  obtain ⟨n1, n2⟩ := fits hn; have hw : b9 ops t ⟨some d, op, ty, pos, after, some (j, w)⟩ = some (r == w) := cE qS.aH (by unfold cV; simp only [hj, hr])
  cases vO : (r == w) with
  | true =>
    obtain ⟨u, h1, h2⟩ := (hs vO).2 h _ t (qS.aH.there vO hnw).rG qS.cells; refine oY.op (by rw [hw, vO]) (h2 _ _ _ _ _ h) (bN n1 t u) (hk h0 G S0 _ h ms ?_); rw [vO]
    exact qS.set (show aI _ _ (.gd true v) u from ⟨fun _ => h1, fun e => by cases e⟩) n2
  | false =>
    refine oY.skip (by rw [hw, vO]) (bN n1 t undef) (hk h0 G S0 _ h ms ?_); rw [vO]; exact qS.set (show aI _ _ (.gd false v) undef from ⟨fun e => (by cases e), fun _ => rfl⟩) n2
theorem J.rg {j : Nat} {w r : Bool} {k : Tmp} (nw : VL) (hnw : U7 (r == w) fl nw) (hs : (r == w) = true -> dV P (nw ++ fl) σ op v) (hk : J P orc ops n l ((d, .gd (r == w) v) :: fl) σ K) (hj : (ops[j]?).bind (·.dst) = some k := by rfl) (hr : kN fl k = some (.v .bool r) := by rfl) (hn : (Nat.blt d n && Nat.ble n 4000) = true := by rfl) :
    J P orc ops n (⟨some d, op, ty, pos, after, some (j, w)⟩ :: l) fl σ K := fun h0 G S0 t h ms qS => by
  obtain ⟨n1, n2⟩ := fits hn; have hw : b9 ops t ⟨some d, op, ty, pos, after, some (j, w)⟩ = some (r == w) := cE qS.aH (by unfold cV; simp only [hj, hr])
  cases vO : (r == w) with
  | true =>
    obtain ⟨u, h1, h2⟩ := (hs vO).2 h _ t (qS.aH.there vO hnw).rG qS.cells; refine oY.op (by rw [hw, vO]) (h2 h (fun _ _ x => x) _ _ _ _ _) (bN n1 t u) (hk h0 G S0 _ h ms ?_); rw [vO]
    exact qS.set (show aI _ _ (.gd true v) u from ⟨fun _ => h1, fun e => by cases e⟩) n2
  | false =>
    refine oY.skip (by rw [hw, vO]) (bN n1 t undef) (hk h0 G S0 _ h ms ?_); rw [vO]; exact qS.set (show aI _ _ (.gd false v) undef from ⟨fun e => (by cases e), fun _ => rfl⟩) n2
theorem J.R4 {j : Nat} {w r0 : Bool} {k : Tmp} {f : Operand} {args : Array Operand} {lR : Array TypeId} {F F' r : PV} {q9 as' : List PV} (nw : VL) (hnw : U7 (r0 == w) fl nw) (hf : aQ (nw ++ fl) f = some F) (ha : lG (nw ++ fl) args.toList = some q9) (cF : Co σ F F') (ca : uT σ q9 as') (hr : r.flat = true) (hc : (r0 == w) = true -> qQ P orc F' as' r)
    (hk : J P orc ops n l ((d, .gd (r0 == w) r) :: fl) σ K) (hj : (ops[j]?).bind (·.dst) = some k := by rfl) (hr0 : kN fl k = some (.v .bool r0) := by rfl) (hn : (Nat.blt d n && Nat.ble n 4000) = true := by rfl) : J P orc ops n (⟨some d, .call { callee := .value f, args := args, argTypes := lR }, ty, pos, after, some (j, w)⟩ :: l) fl σ K := fun h0 G S0 t h ms qS => by
  obtain ⟨n1, n2⟩ := fits hn; have hw : b9 ops t ⟨some d, .call { callee := .value f, args := args, argTypes := lR }, ty, pos, after, some (j, w)⟩ = some (r0 == w) := cE qS.aH (by unfold cV; simp only [hj, hr0])
  cases vO : (r0 == w) with
  | true =>
    have L := qS.lc; have x7 := qS.aH.there vO hnw; obtain ⟨NT, a, c, h1, h2⟩ := (hc vO).ev qS.ok L.sok (cF.ok L.cells L.sep (cR x7 hf)) (ca.ok L.cells L.sep (rF x7 ha)); refine oY.call (by rw [hw, vO]) rfl rfl h1 (h2.mono fun u h' hq => ?_); obtain ⟨_, q2, q3⟩ := hq; obtain rfl := q3 hr; refine ⟨_, bN n1 t u, hk h0 G S0 _ h' ms ?_⟩; rw [vO]
    exact qS.set (show aI _ _ (.gd true r) u from ⟨fun _ => (q2.flat hr).2 _ _, fun e => by cases e⟩) n2
  | false =>
    refine oY.skip (by rw [hw, vO]) (bN n1 t undef) (hk h0 G S0 _ h ms ?_); rw [vO]; exact qS.set (show aI _ _ (.gd false r) undef from ⟨fun e => (by cases e), fun _ => rfl⟩) n2
theorem aF.or {r s : Bool} (hz : aQ fl z = some (.v .bool r) := by rfl) (hx : aQ fl x = some (.v .bool true) := by rfl) (hy : aQ fl y = some (.gd (r == false) (.v .bool s)) := by rfl) : aF P fl σ (.pick z x y) (.v .bool (r || s)) := ⟨rfl, fun h S t hs _ => by
  have h1 := (hs z (by simp [Op.operands]) _ hz : aI h S (.v .bool r) _).bool; have h2 := (hs x (by simp [Op.operands]) _ hx : aI h S (.v .bool true) _).bool; have h3 : aI h S (.gd (r == false) (.v .bool s)) (aA t y) := hs y (by simp [Op.operands]) _ hy; refine ⟨.bool (r || s), aE.ofBool _, fun _ _ _ _ _ H => ?_⟩; show (match aA t z with | .bool true => some (aA t x, H) | .bool false => some (aA t y, H) | _ => none) = _; rw [h1, h2]
  cases r with
  | true => rfl
  | false =>
    have := (h3.1 rfl : aI h S (.v .bool s) _).bool
    rw [this]; rfl⟩
theorem aF.and {r s : Bool} (hz : aQ fl z = some (.v .bool r) := by rfl) (hy : aQ fl y = some (.v .bool false) := by rfl) (hx : aQ fl x = some (.gd (r == true) (.v .bool s)) := by rfl) : aF P fl σ (.pick z x y) (.v .bool (r && s)) := ⟨rfl, fun h S t hs _ => by
  have h1 := (hs z (by simp [Op.operands]) _ hz : aI h S (.v .bool r) _).bool; have h2 := (hs y (by simp [Op.operands]) _ hy : aI h S (.v .bool false) _).bool; have h3 : aI h S (.gd (r == true) (.v .bool s)) (aA t x) := hs x (by simp [Op.operands]) _ hx; refine ⟨.bool (r && s), aE.ofBool _, fun _ _ _ _ _ H => ?_⟩; show (match aA t z with | .bool true => some (aA t x, H) | .bool false => some (aA t y, H) | _ => none) = _; rw [h1, h2]
  cases r with
  | false => rfl
  | true =>
    have := (h3.1 rfl : aI h S (.v .bool s) _).bool
    rw [this]; rfl⟩
theorem J.go {b : Code} (hx : U P orc aR b n fl σ Q) : J P orc ops n [] fl σ fun fl σ => KO P orc aR n b Q .normal fl σ := J.nil hx
theorem VD.go {b : Code} (hx : U P orc aR b n fl σ Q) : VD P orc ops n [] i fl nw σ so bs mem tail fun fl σ => KO P orc aR n b Q .normal fl σ := VD.nil hx
def ao1 (flJ : VL) (σJ : aM) (Q : Ex -> VL -> aM -> Prop) : Ex -> VL -> aM -> Prop
  | .normal, fl, σ => TY fl flJ /\ σ = σJ
  | .exit i, fl, σ => Q (.exit i) fl σ
  | .ret, fl, σ => Q .ret fl σ
theorem U.join {a : Code} (flJ : VL) (σJ : aM) (ha : U P orc aR a n fl σ (ao1 flJ σJ Q)) (hb : Q .normal flJ σJ) : U P orc aR a n fl σ Q := fun h0 G S0 t h ms qS => (ha h0 G S0 t h ms qS).mono fun e fr h' hq => by
  obtain ⟨hn, dJ, σ', I', q⟩ := hq
  cases e with
  | normal =>
    obtain ⟨q1, rfl⟩ := q
    exact ⟨hn, flJ, σ', I'.sub flJ (zQ q1), hb⟩
  | exit i => exact ⟨hn, dJ, σ', I', q⟩
  | ret => exact ⟨hn, dJ, σ', I', q⟩
theorem aW.one {fn : Func} {r : ResultVar} {p q : PV} (hr : fn.results = #[r]) (h1 : rY P fl σ r p) (he : p = q) : aW P fn q .ret fl σ := ⟨rfl, [p], by rw [hr]; exact .cons h1 .nil, he⟩
theorem aW.two {fn : Func} {r r' : ResultVar} {p p' q q' : PV} (hr : fn.results = #[r, r']) (h1 : rY P fl σ r p) (h2 : rY P fl σ r' p') (he : p = q) (lT : p' = q') : aW P fn (.nD [q, q']) .ret fl σ := ⟨rfl, [p, p'], by rw [hr]; exact .cons h1 (.cons h2 .nil), by rw [he, lT]; rfl⟩
theorem aW.three {fn : Func} {r r' r'' : ResultVar} {p p' p'' q q' q'' : PV} (hr : fn.results = #[r, r', r'']) (h1 : rY P fl σ r p) (h2 : rY P fl σ r' p') (h3 : rY P fl σ r'' p'') (he : p = q) (lT : p' = q') (ar5 : p'' = q'') : aW P fn (.nD [q, q', q'']) .ret fl σ := ⟨rfl, [p, p', p''], by rw [hr]; exact .cons h1 (.cons h2 (.cons h3 .nil)), by rw [he, lT, ar5]; rfl⟩
theorem eS {a b : τ.den} (h : a = b) : PV.v τ a = PV.v τ b := by rw [h]
theorem xA {k : Nat} {a b : τ.den} (hk : kN fl k = some (.v τ a)) (h : a = b) : kN fl k = some (.v τ b) := by rw [hk, h]
theorem b6 {i : Nat} {p : PV} (hi : kN fl i = some p := by rfl) : rY P fl σ (.tmp i) p := .tmp hi .same
theorem evC {i : Nat} {p p' : PV} (hc : Co σ p p') (hi : kN fl i = some p := by rfl) : rY P fl σ (.tmp i) p' := .tmp hi hc
theorem VF.law {f : FuncId} {args : List PV} {us : List Value} (hv : VF P orc f args (.v .bool true)) (aZ : afV h) (hr : aX h [] args us) : nP P orc f us h fun r h' => r = .bool true /\ h' = h :=
  (hv h [] us aZ.1 ⟨fun b hb => (by cases hb), aZ.2⟩ hr).mono fun u h' ⟨_, h2, h3⟩ => ⟨aE.bool h2, h3 rfl⟩
end Go.Fs
namespace Go.Fs
variable {P : Program} {orc : FuncId -> List Value -> Heap -> Option (Value × Heap)} {aR : Option Nat} {h h' h0 h1 h2 : Heap} {S S' S0 : List Nat} {σ σ' j8 γ nE : aM} {t t' : Tr} {ms : List Nat} {fl : VL} {ops : Array Oper} {n i mem : Nat} {l : List Oper} {K : VL -> aM -> Prop} {Q : Ex -> VL -> aM -> Prop}
  {d : Tmp} {ty : TypeId} {pos : String} {after : Array Edge} {op : Op} {v pv : PV} {g : Option (Nat × Bool)} {x y z : Operand} {T T' e : TypeId} {τ τ' : Ty} {bs nw : List Nat} {segs : List (Nat × Nat × Nat)} {tail so : Bool} {w w' : Value} {c c' : Cell}
section
variable (P orc)
def gZ (f : FuncId) (args : List PV) (γ : aM) (Q : PV -> aM -> Prop) : Prop := ∀ (h : Heap) (S : List Nat) (us : List Value), nY h -> YE h S -> (∀ c ∈ γ, bL h (own γ ++ S) c.1 c.2) -> (own γ).Nodup -> (∀ b ∈ own γ, b ∉ S) -> aX h (own γ ++ S) args us ->
  nP P orc f us h fun u h' => ∃ r nE, Q r nE /\ Made S h h' γ nE /\ aI h' (own nE ++ S) r u
def D4 (F : PV) (args : List PV) (γ : aM) (Q : PV -> aM -> Prop) : Prop := ∃ f a c, F = .mR f a c /\ gZ P orc f (a ++ args ++ c) γ Q
end
theorem gZ.call {f : FuncId} {args : List PV} {Q : PV -> aM -> Prop} (hf : gZ P orc f args γ Q) : D4 P orc (.mR f [] []) args γ Q := ⟨f, [], [], rfl, by simpa using hf⟩
theorem gZ.mR {f : FuncId} {a args c : List PV} {Q : PV -> aM -> Prop} (hf : gZ P orc f (a ++ (args ++ c)) γ Q) : D4 P orc (.mR f a c) args γ Q := ⟨f, a, c, rfl, by rw [List.append_assoc]; exact hf⟩
theorem cQ : own (γ ++ σ) = own γ ++ own σ := List.flatMap_append
theorem Lc.amE (L : Lc S0 h (γ ++ σ) t fl) : YE h (own σ ++ S0) :=
  have hm : ∀ b, b ∈ own σ ++ S0 -> b ∈ own (γ ++ σ) ++ S0 := fun b hb => by
    rcases List.mem_append.1 hb with hb | hb
    . exact List.mem_append_left _ (by rw [cQ]; exact List.mem_append_right _ hb)
    exact List.mem_append_right _ hb
  ⟨fun b hb => L.lt b (hm b hb), L.aH.1.less hm⟩
theorem Made.app (L : Lc S0 h (γ ++ σ) t fl) (m : Made (own σ ++ S0) h h' γ nE) : Made S0 h h' (γ ++ σ) (nE ++ σ) := by
  have p8 := L.apart; rw [cQ] at p8; obtain ⟨_, GI, u9⟩ := List.nodup_append.1 p8
  have ha : cK h h' (own (γ ++ σ)) := m.lH.TW fun b hb => by rw [cQ]; exact List.mem_append_left _ hb
  have lD : ∀ b ∈ own (nE ++ σ), b ∈ own (γ ++ σ) \/ h.next <= b := fun b hb => by
    rw [cQ] at hb ⊢; rcases List.mem_append.1 hb with hb | hb
    . rcases m.new b hb with h1 | h1
      . exact .inl (List.mem_append_left _ h1)
      exact .inr h1
    exact .inl (List.mem_append_right _ hb)
  have hN : dC h (own (γ ++ σ) ++ S0) h' (own (nE ++ σ) ++ S0) := ha.goes L.ok (fun b hb => List.mem_append_left _ hb) fun b hb => by
    rcases List.mem_append.1 hb with hb | hb
    . rcases lD b hb with h1 | h1
      . exact .inl (List.mem_append_left _ h1)
      exact .inr h1
    exact .inl (List.mem_append_right _ hb)
  refine ⟨ha, lD, ?_, fun d hd => ?_⟩
  . rw [cQ]; refine List.nodup_append.2 ⟨m.apart, GI, fun a h1 b h2 he => ?_⟩; subst he; rcases m.new a h1 with h3 | h3
    . exact u9 a h3 a h2 rfl
    have := L.lt a (List.mem_append_left _ (by rw [cQ]; exact List.mem_append_right _ h2)); omega
  rcases List.mem_append.1 hd with hd | hd
  . have := m.cells d hd; rw [<- List.append_assoc, <- cQ] at this; exact this
  have AF : ∀ b ∈ cD d.1, b ∈ own σ := fun b hb => List.mem_flatMap.2 ⟨d, hd, hb⟩; refine (L.cells d (List.mem_append_right _ hd)).aV (fun b hb => ?_) hN fun b hb => List.mem_append_left _ (by rw [cQ]; exact List.mem_append_right _ (AF b hb)); exact m.lH.get b (L.lt b (List.mem_append_left _ (by rw [cQ]; exact List.mem_append_right _ (AF b hb)))) fun hm => u9 b hm b (AF b hb) rfl
theorem J.qT {f : Operand} {args : Array Operand} {lR : Array TypeId} {F : PV} {q9 : List PV} {Q : PV -> aM -> Prop} (γ : aM) (L3 : γ ++ σ = j8) (hf : aQ fl f = some F) (ha : lG fl args.toList = some q9) (hc : D4 P orc F q9 γ Q) (hk : ∀ r nE, Q r nE -> J P orc ops n l ((d, r) :: fl) (nE ++ σ) K)
    (hw : cV ops fl g = some true := by rfl) (hn : (Nat.blt d n && Nat.ble n 4000) = true := by rfl) : J P orc ops n (⟨some d, .call { callee := .value f, args := args, argTypes := lR }, ty, pos, after, g⟩ :: l) fl j8 K := fun h0 G S0 t h ms qS => by
  subst L3; obtain ⟨n1, n2⟩ := fits hn; have L := qS.lc; have p8 := L.apart; rw [cQ] at p8; obtain ⟨KT, GI, u9⟩ := List.nodup_append.1 p8; obtain ⟨NT, a, c, rfl, hv⟩ := hc; obtain ⟨va, vc, h1, h2, h3⟩ := (cR qS.aH hf : aI h _ (.mR NT a c) (aA t f)); have lW := (h2.append (rF qS.aH ha)).append h3; rw [cQ, List.append_assoc] at lW
  have dB : ∀ c ∈ γ, bL h (own γ ++ (own σ ++ S0)) c.1 c.2 := fun c hc => by
    have := L.cells c (List.mem_append_left _ hc)
    rwa [cQ, List.append_assoc] at this
  refine oY.call (cE qS.aH hw) rfl rfl h1 ((hv h (own σ ++ S0) _ qS.ok ⟨fun b hb => L.lt b ?_, L.aH.1.less fun b hb => ?_⟩ dB KT (fun b hb hm => ?_) lW).mono fun u h' hq => ?_)
  . rcases List.mem_append.1 hb with hb | hb
    . exact List.mem_append_left _ (by rw [cQ]; exact List.mem_append_right _ hb)
    exact List.mem_append_right _ hb
  . rcases List.mem_append.1 hb with hb | hb
    . exact List.mem_append_left _ (by rw [cQ]; exact List.mem_append_right _ hb)
    exact List.mem_append_right _ hb
  . rcases List.mem_append.1 hm with hm | hm
    . exact u9 b hb b hm rfl
    exact L.sep b (by rw [cQ]; exact List.mem_append_left _ hb) hm
  obtain ⟨r, nE, q1, q2, q3⟩ := hq; refine ⟨_, bN n1 t u, hk r nE q1 h0 G S0 _ h' ms ((qS.made (Made.app L q2)).set ?_ n2)⟩; rw [cQ, List.append_assoc]; exact q3
def Cell.flat : Cell -> Bool
  | .row _ τ _ => τ.iC
  | .var cs => cs.all PV.jA
  | .cap _ _ τ _ => τ.iC
  | .mp κ ν _ => κ.iC && ν.iC
  | .it _ _ => true
  | .loop _ _ _ _ _ _ _ => false
  | .fS _ _ _ => false
theorem aE.L4 {τ : Ty} {u : Value} {x : τ.den} (hf : τ.iC = true) (hx : aE h S τ u x) : aE h' S' τ u x := hx.vI (ES hf hx)
theorem bC.L4 {rs : List Value} {xs : List τ.den} (hf : τ.iC = true) (he : bC h S τ rs xs) : bC h' S' τ rs xs :=
  ⟨he.1, fun i hi => cG.vI (by
    have h1 := GF (he.2 i hi) hf
    rw [h1]; exact vK τ _) (he.2 i hi)⟩
theorem bL.flat {w : Value} : ∀ {c : Cell}, c.flat = true -> bL h S w c -> (∀ b ∈ cD w, h'.get b = h.get b /\ b ∈ S') -> bL h' S' w c
  | .row e τ xs, hf, hc, hg => by
    rcases hc with hc | ⟨b, rs, m, rfl, h2, h3, h4⟩
    . exact .inl hc
    obtain ⟨g1, g2⟩ := hg b (by simp [cD])
    exact .inr ⟨b, rs, m, rfl, g2, by rw [g1]; exact h3, h4.L4 hf⟩
  | .var cs, hf, ⟨b, e, vs, h1, h2, h3, h4, h5⟩, hg => by
    subst h1; obtain ⟨g1, g2⟩ := hg b (by simp [cD])
    exact ⟨b, e, vs, rfl, g2, by rw [g1]; exact h3, (aX.jA hf h4).2 _ _, h5⟩
  | .cap e k τ xs, hf, ⟨b, rs, m, h1, h2, h3, h4, h5, h6⟩, hg => by
    subst h1; obtain ⟨g1, g2⟩ := hg b (by simp [cD])
    exact ⟨b, rs, m, rfl, g2, by rw [g1]; exact h3, h4, h5, h6.L4 hf⟩
  | .mp κ ν nC, hf, ⟨b, es, c, h1, h2, h3, h4, h5⟩, hg => by
    subst h1; obtain ⟨g1, g2⟩ := hg b (by simp [cD]); obtain ⟨f1, f2⟩ := aT (show (κ.iC && ν.iC) = true from hf)
    exact ⟨b, es, c, rfl, g2, by rw [g1]; exact h3, h4, fun i hi hj => ⟨(h5 i hi hj).1.L4 f1, (h5 i hi hj).2.L4 f2⟩⟩
  | .it s pos, hf, ⟨b, h1, h2, h3⟩, hg => by
    subst h1; obtain ⟨g1, g2⟩ := hg b (by simp [cD])
    exact ⟨b, rfl, g2, by rw [g1]; exact h3⟩
  | .loop st jump n fl ps assign body, hf, _, hg => by cases hf
  | .fS e n cs, hf, _, hg => by cases hf
def L5 (P : Program) (fn : Func) (γ : aM) (Q : PV -> aM -> Prop) : Ex -> VL -> aM -> Prop := fun e fl σ => e.goes = true /\ ∃ ps, AT P fl [] fn.results.toList ps /\ Q (KR ps) σ /\ ((∃ w e k τ xs, KR ps = .raw w /\ (w, Cell.cap e k τ xs) ∈ σ) \/ (own σ = own γ /\ ∀ c ∈ σ, c.2.flat = true) \/ (∃ w e τ xs, KR ps = .raw w /\ γ = [] /\ σ = [(w, Cell.row e τ xs)]) \/ (γ = [] /\ ∀ (h : Heap) (S : List Nat) (u : Value), aI h S (KR ps) u -> (∀ c ∈ σ, bL h S c.1 c.2) -> af u = true -> own σ = [] /\ ∀ (h' : Heap) (S' : List Nat), ∀ c ∈ σ, bL h' S' c.1 c.2))
theorem gZ.enter {f : FuncId} {args : List PV} {fn : Func} {c : Code} {Q : PV -> aM -> Prop} (kX : P.funcs[f]? = some fn) (hc : fn.body = some c) (ho : ∀ us h, orc f us h = none) (hn : (Nat.blt 4000 fn.ntmps || Nat.blt fn.ntmps args.length) = false)
    (hb : U P orc none c fn.ntmps (qR 0 args) γ (L5 P fn γ Q)) : gZ P orc f args γ Q := fun h S us aZ hS dB mQ GO ha => by
  have hl := ha.len
  have sK : Nat.blt 4000 fn.ntmps = false /\ Nat.blt fn.ntmps args.length = false := by simpa using hn
  have n3 := gI sK.1; have n4 := gI sK.2; have p5 : aX (entry h) (own γ ++ S) args us := aX.nx (h := h) (h' := entry h) (fun _ _ a b => ⟨a, b⟩) ha
  have I0 : Iv (entry h) (own γ) S (entry h) γ (j6 .leaf 0 us) [] (qR 0 args) := {
    ok := aZ
    s0 := hS.1
    lH := cK.refl _ _
    cells := fun c hc => (dB c hc).aV (fun _ _ => rfl) (fun _ _ a b => ⟨a, b⟩) fun b hb => List.mem_append_left _ (List.mem_flatMap.2 ⟨c, hc, hb⟩)
    new := fun b hb => ⟨.inl hb, GO b hb⟩
    apart := mQ
    mark := fun d hd => by cases hd
    marks := List.nodup_nil
    aH := oU (hS.2.ent dB) p5 (by omega) }
  refine nP.enter kX hc (ho us h) (by rw [hl]; exact hn) ((hb (entry h) (own γ) S _ (entry h) [] I0).mono fun e fr h1 hq => ?_); obtain ⟨_, dJ, σ', nM, he, ps, AI, hQ, hkd⟩ := hq; obtain ⟨h2, d1, d2, d3⟩ := sQ nM.marks fun d hd => (nM.mark d hd).2
  have jL : ∀ b o, h1.get b = some o -> o ≠ .mM -> h2.get b = some o := fun b o hg cA => by
    rw [d3 b (fun hm => cA (by have := (nM.mark b hm).2; rw [hg] at this; exact Option.some.inj this))]; exact hg
  have a2 : cK (entry h) h2 (own γ) := nM.lH.trans d2 fun i hi => .inr (nM.mark i hi).1; have L1 := nM.lc; have Lz : Lc (own σ' ++ S) h1 [] fr.t dJ := ⟨L1.ok, L1.lt, (fun c hc => by cases hc), (fun b hb => by cases hb), List.nodup_nil, L1.aH⟩; obtain ⟨q8, e1, e2⟩ := AI.ok Lz jL (fun b _ hg cA rS => ⟨jL b _ hg cA, rS⟩); have mD := yJ e2
  have oV : ∀ c ∈ σ', ∀ b ∈ cD c.1, h2.get b = h1.get b := fun c hc b hb => by
    obtain ⟨o, hg, cA⟩ := (nM.cells c hc).isObj b hb; rw [jL b _ hg cA, hg]
  have uB : ∀ c ∈ σ', bL h2 (own σ' ++ S) c.1 c.2 := fun c hc => by
    have hx := nM.cells c hc; have hN : pQ h1 (own σ' ++ S) h2 (own σ' ++ S) := fun b _ hg cA rS => ⟨jL b _ hg cA, rS⟩; have hgb := oV c hc; obtain ⟨w, cc⟩ := c
    cases cc with
    | row e τ xs =>
      rcases hx with hx | ⟨b, rs, m, h3, h4, h5, h6⟩
      . exact .inl hx
      exact .inr ⟨b, rs, m, h3, h4, jL b _ h5 (by simp), h6.1, fun i hi => (h6.2 i hi).mL hN⟩
    | var cs =>
      obtain ⟨b, e, vs, h3, h4, h5, h6, h7⟩ := hx
      exact ⟨b, e, vs, h3, h4, jL b _ h5 (by simp), h6.mL hN, h7⟩
    | cap e k τ xs =>
      obtain ⟨b, rs, m, h3, h4, h5, h6, h7, h8⟩ := hx
      exact ⟨b, rs, m, h3, h4, jL b _ h5 (by simp), h6, h7, h8.1, fun i hi => (h8.2 i hi).mL hN⟩
    | mp κ ν nC =>
      obtain ⟨b, es, c, h3, h4, h5, h6, h7⟩ := hx
      exact ⟨b, es, c, h3, h4, jL b _ h5 (by simp), h6, fun i hi hj => ⟨⟨(h7 i hi hj).1.1, (h7 i hi hj).1.2.mL hN⟩, ⟨(h7 i hi hj).2.1, (h7 i hi hj).2.2.mL hN⟩⟩⟩
    | it s pos =>
      obtain ⟨b, h3, h4, h5⟩ := hx
      exact ⟨b, h3, h4, jL b _ h5 (by simp)⟩
    | loop st jump n fl ps assign body =>
      obtain ⟨l, tmps, d, h3, h4, h5, h6⟩ := hx
      exact ⟨l, tmps, d, h3, h4, jL l _ h5 (by simp), h6.mL hN⟩
    | fS e n cs =>
      rcases hx with hx | ⟨b, rs, m, h3, h4, h5, h6, h7⟩
      . exact .inl hx
      exact .inr ⟨b, rs, m, h3, h4, jL b _ h5 (by simp), h6.mL hN, h7⟩
  have YK : ∀ b ∈ own σ', b ∈ own γ \/ h.next <= b := fun b hb => (nM.new b hb).1; refine ⟨he, h2, q8, d1, e1, ?_⟩; unfold leftOf
  cases lV : (af (gE q8) && Nat.ble h.next h2.low) with
  | true =>
    obtain ⟨yL, dN⟩ := aT lV; have dN := eP dN; rcases hkd with ⟨w, e, k, τ, xs, NR, YL⟩ | ⟨YF, ho2⟩ | ⟨w, e, τ, xs, NR, YL, R2⟩ | ⟨hg0, ar6⟩
    . exfalso; rw [NR] at mD; have R2 : gE q8 = w := mD; obtain ⟨b, rs, _, h3, _⟩ := nM.cells _ YL; have U8 : w = .slice (some ⟨b, 0, none⟩) xs.length 0 := h3; rw [R2, U8] at yL; cases hx : xs.length <;> rw [hx] at yL <;> cases yL
    . have gA : ∀ b, b < h.next -> h2.get b = h.get b := fun b hb => by
        rcases a2.chg b hb with h3 | h3
        . exact h3
        omega
      refine ⟨_, σ', hQ, ⟨cK.refl _ _, fun b hb => .inl (by rw [<- YF]; exact hb), by rw [YF]; exact mQ, fun c hc => ?_⟩, mD.EU yL⟩; refine (uB c hc).flat (ho2 c hc) fun b hb => ?_; have AF : b ∈ own σ' := List.mem_flatMap.2 ⟨c, hc, hb⟩; have wX : b < h.next := I9 dB aZ b (by rw [<- YF]; exact AF); exact ⟨(gA b wX).symm, List.mem_append_left _ AF⟩
    . subst YL R2; rw [NR] at mD; have hw4 : gE q8 = w := mD; rcases nM.cells _ List.mem_cons_self with ⟨JP, sK⟩ | ⟨b, rs, m, h3, _⟩
      . have amF : w = .slice none 0 0 := JP; refine ⟨_, _, hQ, ⟨cK.refl _ _, fun b hb => ?_, ?_, fun c hc => ?_⟩, ?_⟩
        . rw [amF] at hb; cases hb
        . rw [amF]; exact List.nodup_nil
        . rw [List.mem_singleton.1 hc]; exact .inl ⟨JP, sK⟩
        rw [NR]; exact hw4
      exfalso; have U8 : w = .slice (some ⟨b, 0, none⟩) xs.length 0 := h3; rw [hw4, U8] at yL; cases hx : xs.length <;> rw [hx] at yL <;> cases yL
    obtain ⟨z1, z2⟩ := ar6 h2 (own σ' ++ S) _ mD uB yL; refine ⟨_, σ', hQ, ⟨cK.refl _ _, fun b hb => ?_, ?_, fun c hc => z2 _ _ c hc⟩, mD.EU yL⟩
    . rw [z1] at hb; cases hb
    rw [z1]; exact List.nodup_nil
  | false =>
    refine ⟨_, σ', hQ, ⟨⟨a2.next, a2.get, fun x => a2.ok x, fun e h3 h4 h5 => Nat.le_min.2 ⟨h3, a2.low e (Nat.le_trans h4 (Nat.le_refl _)) h4 h5⟩, fun b hb => ?_, Nat.min_le_left _ _⟩, YK, nM.apart, fun c hc => (uB c hc).aV (fun _ _ => rfl) (fun _ _ a b => ⟨a, b⟩) fun b hb => List.mem_append_left _ (List.mem_flatMap.2 ⟨c, hc, hb⟩)⟩, aI.nx (h := h2) (h' := { next := h2.next, low := min h.low h2.low, aB := h2.aB }) (fun _ _ a b => ⟨a, b⟩) mD⟩; rcases a2.chg b hb with h3 | h3
    . exact .inl h3
    exact .inr (Nat.le_trans (Nat.min_le_right _ _) h3)
end Go.Fs
