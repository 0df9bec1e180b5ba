/- Parts of the proof: an evaluator of the model, what it is sound for, and contracts of functions. No condition. -/
import Derived.Test.YtgkcodkgcnbdeaaGreatP2
import Derived.KernelRfl
set_option linter.all false
namespace Go.Fs
variable {P : Program} {orc : FuncId -> List Value -> aA -> Option (Value × aA)} {b7 : Option Nat} {h h' h0 h1 h2 hs : aA} {S S' S0 B G : List Nat} {σ aQ : aX} {t t' : Tr} {ms : List Nat} {fl : VL} {ops : Array Oper} {n i mem : Nat} {l : List Oper} {K : VL -> aX -> Prop} {Q : Ex -> VL -> aX -> Prop}
  {d : Tmp} {ty : TypeId} {pos : String} {after : Array Edge} {op : Op} {v : PV} {g : Option (Nat × Bool)} {bs nw : List Nat} {segs : List (Nat × Nat × Nat)} {tail so : Bool}
def l8 : List Nat -> Nat -> Bool
  | [], _ => false
  | k :: r, i => bif Nat.beq k i then true else l8 r i
def fM (old : Bool) (d : Nat) (nw : List Nat) : List Nat := bif old then nw.filter (fun k => !Nat.beq k d) else d :: nw
def E8 (nw : List Nat) : Operand -> Bool
  | .tmp i => !l8 nw i
  | _ => true
theorem o3 {d k : Nat} (hk : k ≠ d) : ∀ {nw : List Nat}, l8 (nw.filter fun k => !Nat.beq k d) k = l8 nw k
  | [] => rfl
  | a :: r => by
    rw [List.filter_cons]; by_cases ha : a = d
    . subst ha; rw [Nat.beq_refl]; simp only [Bool.not_true, Bool.false_eq_true, if_false, l8]; rw [eD (Ne.symm hk)]; exact o3 hk
    rw [eD ha]; simp only [Bool.not_false, if_true, l8]; rw [o3 hk]
def Old (S0 : List Nat) (h : aA) (σ : aX) (t : Tr) (fl : VL) (nw : List Nat) (so : Bool) (segs : List (Nat × Nat × Nat)) : Prop := ∃ hs, mZ hs /\ eW hs h /\ lX hs segs /\ QG hs S0 /\
  (∀ k pv, jG fl k = some pv -> l8 nw k = false -> aJ hs (own σ ++ S0) pv (t.get k)) /\ (so = true -> ∀ c ∈ σ, bS hs (own σ ++ S0) c.1 c.2)
section
variable (P orc)
def VD (ops : Array Oper) (n : Nat) (l : List Oper) (i : Nat) (fl : VL) (nw : List Nat) (σ : aX) (so : Bool) (bs : List Nat) (mem : Nat) (tail : Bool) (K : VL -> aX -> Prop) : Prop :=
  ∀ (h0 : aA) (G S0 : List Nat) (t : Tr) (h : aA) (ms : List Nat) (segs : List (Nat × Nat × Nat)), Iv h0 G S0 h σ t ms fl -> (tail = false -> Old S0 h σ t fl nw so segs) ->
    sH P orc ops n l i ⟨t, h, bs, segs, mem, tail⟩ fun s => ∃ eQ aQ, Iv h0 G S0 s.h aQ s.t ms eQ /\ K eQ aQ
end
theorem U.drawn {id : Nat} {ops : Array Oper} (hx : VD P orc ops n ops.toList 0 fl [] σ true [] 0 false fun eQ aQ => Q .normal eQ aQ) (hl : BX ops = false := by kernel_rfl) : U P orc b7 (.region id ops true) n fl σ Q := fun h0 G S0 t h ms I => by
  refine gM.draw hl ?_; obtain ⟨m, s', h1, eQ, aQ, h2, h3⟩ := hx h0 G S0 t h ms [] I fun _ => ⟨h, I.ok, eW.refl h, lX.nil, I.lc.slt, fun k pv hk _ => I.aH k pv hk, fun _ => I.cells⟩; exact ⟨m, s', h1, rfl, eQ, aQ, h2, h3⟩
theorem VD.nil (hk : K fl σ) : VD P orc ops n [] i fl nw σ so bs mem tail K := fun _ _ _ _ _ _ _ I _ => sH.nil ⟨fl, σ, I, hk⟩
theorem Old.set {u : Value} {old : Bool} (ho : Old S0 h σ t fl nw so segs) (hd : d < 4000) (hu : old = true -> ∀ hs, mZ hs -> eW hs h -> QG hs S0 -> (∀ k pv, jG fl k = some pv -> l8 nw k = false -> aJ hs (own σ ++ S0) pv (t.get k)) -> (so = true -> ∀ c ∈ σ, bS hs (own σ ++ S0) c.1 c.2) -> aJ hs (own σ ++ S0) v u) :
    Old S0 h σ (t.set depth d u) ((d, v) :: fl) (fM old d nw) so segs := by
  obtain ⟨hs, h1, h2, h3, h4, h5, h6⟩ := ho; refine ⟨hs, h1, h2, h3, h4, fun k pv hk hn => ?_, h6⟩; rw [zV t d u k hd]; simp only [jG] at hk
  cases hb : Nat.beq d k with
  | true =>
    rw [hb] at hk; simp only [cond_true, Option.some.injEq] at hk; subst hk; rw [if_pos (bU hb).symm]
    cases old with
    | true => exact hu rfl hs h1 h2 h4 h5 h6
    | false =>
      simp only [fM, cond_false, l8, hb, cond_true] at hn
      cases hn
  | false =>
    rw [hb] at hk; simp only [cond_false] at hk; have cM := gA hb; rw [if_neg (Ne.symm cM)]; refine h5 k pv hk ?_
    cases old with
    | true => rw [fM, cond_true, o3 (Ne.symm cM)] at hn; exact hn
    | false => simpa only [fM, cond_false, l8, hb] using hn
theorem Old.next {lo hi : Nat} (ho : Old S0 h σ t fl nw so segs) (ha : eW h h') (hl : h.next <= lo) : Old S0 h' σ t fl nw so ((i, lo, hi) :: segs) := by
  obtain ⟨hs, h1, h2, h3, h4, h5, h6⟩ := ho; exact ⟨hs, h1, h2.trans ha, lX.cons (Nat.le_trans h2.next hl) h3, h4, h5, h6⟩
theorem Old.rG {lo hi : Nat} (ho : Old S0 h σ t fl nw so segs) (hl : h.next <= lo) : Old S0 h σ t fl nw so ((i, lo, hi) :: segs) := ho.next (eW.refl h) hl
theorem vH {fl : VL} (h5 : ∀ k pv, jG fl k = some pv -> l8 nw k = false -> aJ hs S pv (t.get k)) {x : Operand} {pv : PV} (hx : aY fl x = some pv) (ho : E8 nw x = true) : aJ hs S pv (aC t x) := by
  cases x with
  | tmp k => exact h5 k pv hx (by simpa [E8] using ho)
  | const c =>
    obtain ⟨h1, h2⟩ := KO hx; show aJ hs S pv (if af c then c else gY)
    rw [if_pos h1]; exact h2 _ _
  | global g => cases hx
  | func f => obtain rfl := Option.some.inj hx; exact ⟨[], [], rfl, rfl, rfl⟩
def GC (nw : List Nat) (op : Op) : Bool := op.operands.toList.all (E8 nw)
theorem zZ {fl : VL} (h5 : ∀ k pv, jG fl k = some pv -> l8 nw k = false -> aJ hs S pv (t.get k)) (ho : GC nw op = true) : E5 hs S t fl op := fun x hx pv hp => vH h5 hp (List.all_eq_true.1 ho x hx)
theorem VD.c {b : Nat} (hc : aI P fl [] op v) (hk : VD P orc ops n l (i + 1) ((d, v) :: fl) (fM (GC nw op || v.iP) d nw) σ so (bs ++ [b]) mem tail K)
    (hb : aP bs ⟨some d, op, ty, pos, after, g⟩ = b := by rfl) (hw : cX ops fl g = some true := by rfl) (hn : (Nat.blt d n && Nat.ble n 4000) = true := by rfl) :
    VD P orc ops n (⟨some d, op, ty, pos, after, g⟩ :: l) i fl nw σ so bs mem tail K := fun h0 G S0 t h ms segs I ho => by
  obtain ⟨n1, n2⟩ := fits hn; obtain ⟨u, e1, e2⟩ := hc.2 h (own σ ++ S0) t I.aH.r8 (fun _ hc => by cases hc); refine sH.op (s' := ⟨t.set depth d u, h, bs ++ [b], segs, mem, tail⟩) ?_ (hk h0 G S0 _ h ms segs (I.set e1 n2) fun ht => (ho ht).set n2 fun hold hs a1 a2 a3 a4 a5 => ?_)
  . unfold gH; have sL : bJ ops t ⟨some d, op, ty, pos, after, g⟩ = some true := cH I.aH hw; simp only [sL, hc.1, if_true, e2, Nat.beq_refl, cond_true, bV n1, Option.map_some, hb]
  rcases Bool.or_eq_true_iff.1 hold with hold | hold
  . obtain ⟨u', f1, f2⟩ := hc.2 hs (own σ ++ S0) t (zZ a4 hold) (fun _ hc => by cases hc)
    have : u' = u := by
      have g1 := e2 none 0 "" #[] none h; rw [f2 none 0 "" #[] none h] at g1; simpa using g1
    rw [<- this]; exact f1
  exact (aJ.iP hold e1).2 _ _
theorem sW (I : Iv h0 G S0 h σ t ms fl) {o : Oper} {b : Nat} (hb : aP bs o = b) (ho : tail = false -> Old S0 h σ t fl nw so segs) :
    ∃ M, p9 o ⟨t, h, bs, segs, mem, tail⟩ = M /\ mZ M /\ M.next = h.next /\ M.low = h.next /\ (∀ b o, M.get b = some o -> h.get b = some o) /\ (Nat.beq (mem &&& b) mem = true -> M = entry h) /\ (tail = false -> ∃ hs, mZ hs /\ eW hs h /\ eW hs M /\ lX hs segs /\ QG hs S0 /\
      (∀ k pv, jG fl k = some pv -> l8 nw k = false -> aJ hs (own σ ++ S0) pv (t.get k)) /\ (so = true -> ∀ c ∈ σ, bS hs (own σ ++ S0) c.1 c.2)) := by
  have hM4 : ∀ b o', (p9 o ⟨t, h, bs, segs, mem, tail⟩).get b = some o' -> h.get b = some o' := by
    unfold p9; simp only [hb]
    cases Nat.beq (mem &&& b) mem with
    | true => exact fun b o hg => hg
    | false => exact fun b o hg => qH segs h.aB hg
  refine ⟨_, rfl, fun b o' hg => I.ok b o' (hM4 b o' hg), rfl, rfl, hM4, fun iW => ?_, fun ht => ?_⟩
  . unfold p9 entry; simp only [hb, iW, cond_true]
  obtain ⟨hs, h1, h2, h3, h4, h5, h6⟩ := ho ht; refine ⟨hs, h1, h2, ?_, h3, h4, h5, h6⟩; unfold p9; simp only [hb]
  cases Nat.beq (mem &&& b) mem with
  | true => exact ⟨h2.next, h2.get, h2.ok, fun e h1 h3 => Nat.le_trans h3 h2.next⟩
  | false => exact WJ h2 h3
theorem KU {b : Nat} {o : Oper} {u : Value} {M : aA} (hM : p9 o ⟨t, h, bs, segs, mem, tail⟩ = M) (hMn : M.next = h.next) (hMl : M.low = h.next) (hb : aP bs o = b) (hd : o.dst = some d) (wF : calm o.op = false) (hw : bJ ops t o = some true) (nI : (tail && !Nat.beq (mem &&& b) mem) = false)
    (bR : fH P o (aC t) M = some (u, M)) (n1 : Nat.blt d n = true) : gH (fH P) ops n o i ⟨t, h, bs, segs, mem, tail⟩ = some ⟨t.set depth d u, h, bs ++ [b], (i, h.next, h.next) :: segs, mem ||| 2 ^ i, tail⟩ := by
  unfold gH
  have hM' : ({ next := h.next, low := h.next, aB := bif Nat.beq (mem &&& b) mem then h.aB else mask b segs h.aB } : aA) = M := by
    rw [<- hM]; unfold p9; simp only [hb]
  simp only [hw, wF, Bool.false_eq_true, if_false, hb, nI, cond_false, hM', bR]; simp only [hMn, hMl, KL, qI, cond_false, hd, bV n1, cond_true, SU, List.nil_append]
theorem VD.r {b : Nat} (cs : aX) (hc : dC P fl cs op v) (gW : cs = [] \/ (so = true /\ cs = σ)) (hk : VD P orc ops n l (i + 1) ((d, v) :: fl) (fM true d nw) σ so (bs ++ [b]) (mem ||| 2 ^ i) false K)
    (hb : aP bs ⟨some d, op, ty, pos, after, g⟩ = b := by rfl) (hold : GC nw op = true := by rfl) (hw : cX ops fl g = some true := by rfl) (hn : (Nat.blt d n && Nat.ble n 4000) = true := by rfl) :
    VD P orc ops n (⟨some d, op, ty, pos, after, g⟩ :: l) i fl nw σ so bs mem false K := fun h0 G S0 t h ms segs I ho => by
  obtain ⟨n1, n2⟩ := fits hn; obtain ⟨M, m1, m2, m3, m4, m5, m6, m7⟩ := sW (mem := mem) I hb ho; obtain ⟨hs, a1, a2, a3, a4, a5, a6, a7⟩ := m7 rfl
  have uN : ∀ c ∈ cs, bS hs (own σ ++ S0) c.1 c.2 := by
    rcases gW with rfl | ⟨hso, gW⟩
    . intro c hc; cases hc
    rw [gW]; exact a7 hso
  obtain ⟨u, e1, e2⟩ := hc.2 hs (own σ ++ S0) t (zZ a6 hold) uN; have bR := e2 M (fun b o hg => by rw [a3.get b (a1 b o hg)]; exact hg) (some d) ty pos after g; have nG : aJ h (own σ ++ S0) v u := e1.nx (a2.nx a1); refine sH.op (KU m1 m3 m4 hb rfl hc.1 (cH I.aH hw) rfl bR n1) (hk h0 G S0 _ h ms _ (I.set nG n2) fun _ => ?_); refine Old.rG ?_ (Nat.le_refl _); refine Old.set (old := true) ⟨hs, a1, a2, a4, a5, a6, a7⟩ n2 fun _ E9 b1 b2 b3 b4 b5 => ?_
  have ah7 : ∀ c ∈ cs, bS E9 (own σ ++ S0) c.1 c.2 := by
    rcases gW with rfl | ⟨hso, gW⟩
    . intro c hc; cases hc
    rw [gW]; exact b5 hso
  obtain ⟨u', f1, f2⟩ := hc.2 E9 (own σ ++ S0) t (zZ b4 hold) ah7; have g1 := e2 h (fun b o hg => by rw [a2.get b (a1 b o hg)]; exact hg) (some d) ty pos after g; rw [f2 h (fun b o hg => by rw [b2.get b (b1 b o hg)]; exact hg) (some d) ty pos after g] at g1
  have : u' = u := by simpa using g1
  rw [<- this]; exact f1
theorem VD.ro {b : Nat} (hc : dC P fl σ op v) (hk : VD P orc ops n l (i + 1) ((d, v) :: fl) (fM v.iP d nw) σ so (bs ++ [b]) (mem ||| 2 ^ i) tail K)
    (hb : aP bs ⟨some d, op, ty, pos, after, g⟩ = b := by rfl) (iW : Nat.beq (mem &&& b) mem = true := by rfl) (hw : cX ops fl g = some true := by rfl) (hn : (Nat.blt d n && Nat.ble n 4000) = true := by rfl) :
    VD P orc ops n (⟨some d, op, ty, pos, after, g⟩ :: l) i fl nw σ so bs mem tail K := fun h0 G S0 t h ms segs I ho => by
  obtain ⟨n1, n2⟩ := fits hn; obtain ⟨M, m1, m2, m3, m4, m5, m6, m7⟩ := sW (mem := mem) I hb ho; have hMe := m6 iW; obtain ⟨u, e1, e2⟩ := hc.2 h (own σ ++ S0) t I.aH.r8 I.cells; have bR := e2 M (fun b o hg => by rw [hMe]; exact hg) (some d) ty pos after g; refine sH.op (KU m1 m3 m4 hb rfl hc.1 (cH I.aH hw) (by rw [iW]; simp) bR n1) (hk h0 G S0 _ h ms _ (I.set e1 n2) fun ht => ?_); exact Old.rG ((ho ht).set n2 fun hf _ _ _ _ _ _ => (aJ.iP hf e1).2 _ _) (Nat.le_refl _)
theorem VD.skip {b : Nat} (hk : VD P orc ops n l (i + 1) ((d, .raw undef) :: fl) (fM true d nw) σ so (bs ++ [b]) mem tail K)
    (hb : aP bs ⟨some d, op, ty, pos, after, g⟩ = b := by rfl) (hw : cX ops fl g = some false := by rfl) (hn : (Nat.blt d n && Nat.ble n 4000) = true := by rfl) :
    VD P orc ops n (⟨some d, op, ty, pos, after, g⟩ :: l) i fl nw σ so bs mem tail K := fun h0 G S0 t h ms segs I ho => by
  obtain ⟨n1, n2⟩ := fits hn; have sL : bJ ops t ⟨some d, op, ty, pos, after, g⟩ = some false := cH I.aH hw; refine sH.op (s' := ⟨t.set depth d undef, h, bs ++ [b], segs, mem, tail⟩) ?_ (hk h0 G S0 _ h ms segs (I.set (show aJ _ _ (.raw undef) undef from rfl) n2) fun ht => (ho ht).set n2 fun _ _ _ _ _ _ _ => (show aJ _ _ (.raw undef) undef from rfl)); unfold gH; simp only [sL, bV n1, Option.map_some, hb]
theorem VD.zY {x : Tmp} {r : Bool} (hc : jG fl x = some (.v .bool r)) (ht : r = true -> VD P orc ops n l i ((x, .v .bool true) :: fl) (fM true x nw) σ so bs mem tail K) (hf : r = false -> VD P orc ops n l i ((x, .v .bool false) :: fl) (fM true x nw) σ so bs mem tail K) :
    VD P orc ops n l i fl nw σ so bs mem tail K := fun h0 G S0 t h ms segs I ho => by
  have hx : Iv h0 G S0 h σ t ms ((x, .v .bool r) :: fl) := { I with aH := I.aH.cons (I.aH x _ hc) }
  have hO : tail = false -> Old S0 h σ t ((x, .v .bool r) :: fl) (fM true x nw) so segs := fun e => by
    obtain ⟨hs, h1, h2, h3, h4, h5, h6⟩ := ho e; refine ⟨hs, h1, h2, h3, h4, fun k pv hk hn => ?_, h6⟩; simp only [jG] at hk
    cases hb : Nat.beq x k with
    | true =>
      rw [hb] at hk; simp only [cond_true, Option.some.injEq] at hk; subst hk; rw [<- bU hb]
      exact (aJ.iP (pv := .v .bool r) rfl (I.aH x _ hc)).2 _ _
    | false =>
      rw [hb] at hk; simp only [cond_false] at hk; refine h5 k pv hk ?_; rw [fM, cond_true, o3 (Ne.symm (gA hb))] at hn; exact hn
  cases r with
  | true => exact ht rfl h0 G S0 t h ms segs hx hO
  | false => exact hf rfl h0 G S0 t h ms segs hx hO
theorem VD.kE {x : Tmp} {p : Prop} {inst : Decidable p} (hc : jG fl x = some (.v .bool (@decide p inst))) (ht : p -> VD P orc ops n l i ((x, .v .bool true) :: fl) (fM true x nw) σ so bs mem tail K) (hf : ¬ p -> VD P orc ops n l i ((x, .v .bool false) :: fl) (fM true x nw) σ so bs mem tail K) :
    VD P orc ops n l i fl nw σ so bs mem tail K := VD.zY hc (fun h => ht (of_decide_eq_true h)) fun h => hf (of_decide_eq_false h)
theorem VD.call {b : Nat} {f : Operand} {args : Array Operand} {r3 : Array TypeId} {F r : PV} {asl : List PV} (hf : aY fl f = some F) (ha : mM fl args.toList = some asl) (hc : l7 P orc F asl r) (hk : VD P orc ops n l (i + 1) ((d, r) :: fl) (fM r.flat d nw) σ so (bs ++ [b]) (mem ||| 2 ^ i) false K)
    (hb : aP bs ⟨some d, .call { callee := .value f, args := args, argTypes := r3 }, ty, pos, after, g⟩ = b := by rfl) (hold : (E8 nw f && args.toList.all (E8 nw)) = true := by rfl) (hw : cX ops fl g = some true := by rfl) (hn : (Nat.blt d n && Nat.ble n 4000) = true := by rfl) :
    VD P orc ops n (⟨some d, .call { callee := .value f, args := args, argTypes := r3 }, ty, pos, after, g⟩ :: l) i fl nw σ so bs mem false K := fun h0 G S0 t h ms segs I ho => by
  obtain ⟨n1, n2⟩ := fits hn; obtain ⟨o1, o2⟩ := b6 hold; obtain ⟨M, m1, m2, m3, m4, m5, m6, m7⟩ := sW (mem := mem) I hb ho; obtain ⟨hs, a1, a2, a3, a4, a5, a6, a7⟩ := m7 rfl; have hN : cV hs (own σ ++ S0) M (own σ ++ S0) := a3.nx a1
  have mK : ∀ (l : List Operand) (asl : List PV), mM fl l = some asl -> l.all (E8 nw) = true -> bA M (own σ ++ S0) asl (l.map (aC t)) := by
    intro l
    induction l with
    | nil => intro asl hx _; obtain rfl := Option.some.inj hx; rfl
    | cons x r ih =>
      intro asl hx hl; rw [List.all_cons] at hl; obtain ⟨l1, l2⟩ := b6 hl; simp only [mM] at hx; split at hx
      . rename_i v Q8 hv y4; obtain rfl := Option.some.inj hx; exact ⟨_, _, rfl, (vH a6 hv l1).nx hN, ih Q8 y4 l2⟩
      cases hx
  obtain ⟨WN, ca, cc, h1, h2⟩ := hc.ev m2 ⟨fun b hb => by rw [m3]; exact Lc.lt I.lc b hb, I.aH.1.seen a2 a3 a5⟩ ((vH a6 hf o1).nx hN) (mK _ _ ha o2); refine sH.call (o := ⟨some d, .call { callee := .value f, args := args, argTypes := r3 }, ty, pos, after, g⟩) (cH I.aH hw) rfl rfl h1 rfl ?_; rw [m1]; refine h2.mono fun u h' hq => ?_; obtain ⟨q1, q2, q3⟩ := hq; have hA := q1.after; have hl : h.next <= h'.low := hA.low h.next (by omega) (by omega)
  have dV : Nat.ble h.next h'.low = true := by rw [Nat.ble_eq]; exact hl
  have j6 : h.next <= h'.next := by have := hA.next; omega
  refine ⟨l6 j6, by simp only [dV, Bool.true_or], _, bV n1 t u, ?_⟩
  have hd : rW ⟨some d, .call { callee := .value f, args := args, argTypes := r3 }, ty, pos, after, g⟩ i ⟨t, h, bs, segs, mem, false⟩ (t.set depth d u) h' =
      ⟨t.set depth d u, { next := h'.next, low := h.low, aB := bH h.next h'.next h'.aB ++ h.aB }, bs ++ [b], (i, h.next, h'.next) :: segs, mem ||| 2 ^ i, false⟩ := by
    unfold rW; simp only [dV, cond_true, hb]
  rw [hd]; obtain ⟨e1, e2⟩ := yL (h' := h') I.ok m5 m3 hA m2; have eA : cO h { next := h'.next, low := h.low, aB := bH h.next h'.next h'.aB ++ h.aB } [] := ⟨e1.next, fun b hb _ => e1.get b hb, e1.ok, fun e h3 h4 _ => e1.low e h3 h4, fun b hb => .inl (e1.get b hb), Nat.le_refl _⟩; refine hk h0 G S0 _ _ ms _ ((I.calm eA).set (q2.nx (e2 _)) n2) fun _ => ?_; exact ((Old.set (old := r.flat) ⟨hs, a1, a2, a4, a5, a6, a7⟩ n2 fun hfl _ _ _ _ _ _ => (q2.flat hfl).2 _ _)).next e1 (Nat.le_refl _)
theorem VD.oH {b : Nat} {f : Operand} {args : Array Operand} {r3 : Array TypeId} {F r : PV} {asl : List PV} (hf : aY fl f = some F) (ha : mM fl args.toList = some asl) (hc : l7 P orc F asl r) (hk : VD P orc ops n l (i + 1) ((d, r) :: fl) (fM r.flat d nw) σ so (bs ++ [b]) (mem ||| 2 ^ i) tail K)
    (hb : aP bs ⟨some d, .call { callee := .value f, args := args, argTypes := r3 }, ty, pos, after, g⟩ = b := by rfl) (iW : Nat.beq (mem &&& b) mem = true := by rfl) (hw : cX ops fl g = some true := by rfl) (hn : (Nat.blt d n && Nat.ble n 4000) = true := by rfl) :
    VD P orc ops n (⟨some d, .call { callee := .value f, args := args, argTypes := r3 }, ty, pos, after, g⟩ :: l) i fl nw σ so bs mem tail K := fun h0 G S0 t h ms segs I ho => by
  obtain ⟨n1, n2⟩ := fits hn; obtain ⟨M, m1, m2, m3, m4, m5, m6, m7⟩ := sW (mem := mem) I hb ho; obtain rfl := m6 iW; have Le := I.lc.aB (h' := entry h) (fun _ => rfl) rfl; obtain ⟨WN, ca, cc, h1, h2⟩ := hc.ev m2 Le.ae7 (eH Le.aH hf) (sU Le.aH ha); refine sH.call (o := ⟨some d, .call { callee := .value f, args := args, argTypes := r3 }, ty, pos, after, g⟩) (cH I.aH hw) rfl rfl h1 (by simp only [hb, iW]; simp) ?_; rw [m1]; refine h2.mono fun u h' hq => ?_; obtain ⟨q1, q2, q3⟩ := hq; have hA := q1.after; have hl : h.next <= h'.low := hA.low h.next (Nat.le_refl _) (Nat.le_refl _)
  have dV : Nat.ble h.next h'.low = true := by rw [Nat.ble_eq]; exact hl
  have j6 : h.next <= h'.next := hA.next; refine ⟨l6 j6, by simp only [dV, Bool.true_or], _, bV n1 t u, ?_⟩
  have hd : rW ⟨some d, .call { callee := .value f, args := args, argTypes := r3 }, ty, pos, after, g⟩ i ⟨t, h, bs, segs, mem, tail⟩ (t.set depth d u) h' =
      ⟨t.set depth d u, { next := h'.next, low := h.low, aB := bH h.next h'.next h'.aB ++ h.aB }, bs ++ [b], (i, h.next, h'.next) :: segs, mem ||| 2 ^ i, tail⟩ := by
    unfold rW; simp only [dV, cond_true, hb]
  rw [hd]; obtain ⟨e1, e2⟩ := yL (h' := h') I.ok m5 rfl hA m2; have eA : cO h { next := h'.next, low := h.low, aB := bH h.next h'.next h'.aB ++ h.aB } [] := ⟨e1.next, fun b hb _ => e1.get b hb, e1.ok, fun e h3 h4 _ => e1.low e h3 h4, fun b hb => .inl (e1.get b hb), Nat.le_refl _⟩; refine hk h0 G S0 _ _ ms _ ((I.calm eA).set (q2.nx (e2 _)) n2) fun ht => ?_; exact ((ho ht).set n2 fun hfl _ _ _ _ _ _ => (q2.flat hfl).2 _ _).next e1 (Nat.le_refl _)
end Go.Fs
namespace Go.Fs
variable {P : Program} {orc : FuncId -> List Value -> aA -> Option (Value × aA)} {h h' h0 : aA} {fl : FL} {op : Op} {v : Value} {S S' S0 : List Nat}
theorem ah8 (p q : Int) : (if q > p then q else p) = max p q := by
  rw [Int.max_def]; split <;> split <;> omega
end Go.Fs
namespace Go.Fs
variable {P : Program} {orc : FuncId -> List Value -> aA -> Option (Value × aA)} {b7 : Option Nat} {h h' h0 h1 h2 : aA} {S S' S0 B G : List Nat} {σ aQ : aX} {t t' : Tr} {ms : List Nat} {fl : VL} {ops : Array Oper} {n : Nat} {l : List Oper} {K : VL -> aX -> Prop} {Q : Ex -> VL -> aX -> Prop}
  {d : Tmp} {ty : TypeId} {pos : String} {after : Array Edge} {op : Op} {v pv : PV} {g : Option (Nat × Bool)} {x y z : Operand} {T T' e : TypeId} {τ τ' : Ty}
theorem aI.move (hx : aY fl x = some pv) : aI P fl σ (.move x) pv := ⟨rfl, fun h S t hs _ => ⟨aC t x, hs x (by simp [Op.operands]) _ hx, fun _ _ _ _ _ _ => rfl⟩⟩
theorem aI.assign (hx : aY fl x = some pv) : aI P fl σ (.assign x) pv := ⟨rfl, fun h S t hs _ => ⟨aC t x, hs x (by simp [Op.operands]) _ hx, fun _ _ _ _ _ _ => rfl⟩⟩
theorem aI.mN (hc : aY fl z = some (.v .bool true)) (hx : aY fl x = some pv) : aI P fl σ (.pick z x y) pv := ⟨rfl, fun h S t hs _ => ⟨aC t x, hs x (by simp [Op.operands]) _ hx, fun _ _ _ _ _ H => by
  have := (hs z (by simp [Op.operands]) _ hc : aJ h S (.v .bool true) _).bool; show (match aC t z with | .bool true => some (aC t x, H) | .bool false => some (aC t y, H) | _ => none) = _
  rw [this]⟩⟩
theorem aI.iD (hc : aY fl z = some (.v .bool false)) (hy : aY fl y = some pv) : aI P fl σ (.pick z x y) pv := ⟨rfl, fun h S t hs _ => ⟨aC t y, hs y (by simp [Op.operands]) _ hy, fun _ _ _ _ _ H => by
  have := (hs z (by simp [Op.operands]) _ hc : aJ h S (.v .bool false) _).bool; show (match aC t z with | .bool true => some (aC t x, H) | .bool false => some (aC t y, H) | _ => none) = _
  rw [this]⟩⟩
theorem aI.bin {b : BinOp} {p q : PV} (hx : aY fl x = some p) (hy : aY fl y = some q) (hv : ∀ (h : aA) (S : List Nat) (a c : Value), aJ h S p a -> aJ h S q c -> ∃ u, aJ h S v u /\ (af a && af c) = true /\ cL P (do eqGuard b T x y a c; binOp b T a c) = some u) : aI P fl σ (.binOp b T x y T') v :=
  ⟨rfl, fun h S t hs _ => by
    obtain ⟨u, h1, h2, h3⟩ := hv h S _ _ (hs x (by simp [Op.operands]) _ hx) (hs y (by simp [Op.operands]) _ hy); refine ⟨u, h1, fun _ _ _ _ _ H => ?_⟩; show (if (af (aC t x) && af (aC t y)) = true then _ else _) = _
    rw [if_pos h2, h3]; rfl⟩
theorem aI.sX {b : BinOp} {k k' : IntKind} {p q : Int} {u : Value} (hx : aY fl x = some (.v (.int k) p)) (hy : aY fl y = some (.v (.int k') q)) (hu : cL P (do eqGuard b T x y (.int k p) (.int k' q); binOp b T (.int k p) (.int k' q)) = some u) (hv : ∀ h S, aJ h S v u) : aI P fl σ (.binOp b T x y T') v :=
  .bin hx hy fun h S a c ha hc => by
    obtain rfl := aG.int ha; obtain rfl := aG.int hc; exact ⟨u, hv h S, rfl, hu⟩
section
variable {p q : Int}
abbrev fit (n : Int) : Prop := -9223372036854775808 <= n /\ n <= 9223372036854775807
theorem aI.add (hx : aY fl x = some (.v (.int .i64) p)) (hy : aY fl y = some (.v (.int .i64) q)) (h0 : fit (p + q)) : aI P fl σ (.binOp .add T x y T') (.v (.int .i64) (p + q)) :=
  .sX hx hy (u := .int .i64 (IntKind.i64.wrap (p + q))) rfl fun h S => by rw [wrap64 h0.1 h0.2]; exact aG.ofInt _ _
theorem aI.sub (hx : aY fl x = some (.v (.int .i64) p)) (hy : aY fl y = some (.v (.int .i64) q)) (h0 : fit (p - q)) : aI P fl σ (.binOp .sub T x y T') (.v (.int .i64) (p - q)) :=
  .sX hx hy (u := .int .i64 (IntKind.i64.wrap (p - q))) rfl fun h S => by rw [wrap64 h0.1 h0.2]; exact aG.ofInt _ _
theorem aI.mul (hx : aY fl x = some (.v (.int .i64) p)) (hy : aY fl y = some (.v (.int .i64) q)) (h0 : fit (p * q)) : aI P fl σ (.binOp .mul T x y T') (.v (.int .i64) (p * q)) :=
  .sX hx hy (u := .int .i64 (IntKind.i64.wrap (p * q))) rfl fun h S => by rw [wrap64 h0.1 h0.2]; exact aG.ofInt _ _
theorem aI.quo (hx : aY fl x = some (.v (.int .i64) p)) (hy : aY fl y = some (.v (.int .i64) q)) (hq : q ≠ 0) (h0 : fit (p.tdiv q)) : aI P fl σ (.binOp .quo T x y T') (.v (.int .i64) (p.tdiv q)) :=
  .sX hx hy (u := .int .i64 (IntKind.i64.wrap (p.tdiv q))) (by show (aE P (Op.intDiv .quo .i64 p q)).bind _ = _; unfold Op.intDiv; rw [if_neg hq]; rfl) fun h S => by rw [wrap64 h0.1 h0.2]; exact aG.ofInt _ _
theorem aI.rem (hx : aY fl x = some (.v (.int .i64) p)) (hy : aY fl y = some (.v (.int .i64) q)) (hq : q ≠ 0) : aI P fl σ (.binOp .rem T x y T') (.v (.int .i64) (p.tmod q)) :=
  .sX hx hy (u := .int .i64 (p.tmod q)) (by show (aE P (Op.intDiv .rem .i64 p q)).bind _ = _; unfold Op.intDiv; rw [if_neg hq]; rfl) fun h S => aG.ofInt _ _
theorem aI.shr (hx : aY fl x = some (.v (.int .i64) p)) (hy : aY fl y = some (.v (.int .i64) q)) (hq : 0 <= q /\ q <= 64) : aI P fl σ (.binOp .shr T x y T') (.v (.int .i64) (p.fdiv (2 ^ q.toNat))) :=
  .sX hx hy (u := .int .i64 (p.fdiv (2 ^ q.toNat))) (by have this : min q.toNat IntKind.i64.bits = q.toNat := Nat.min_eq_left (show q.toNat <= 64 by omega); show (aE P (Op.shift .shr .i64 p .i64 q)).bind _ = _; unfold Op.shift; rw [if_neg (by omega)]; simp only [this]; rfl) fun h S => aG.ofInt _ _
variable {k : IntKind}
theorem vI (b : BinOp) (r : Bool) (hr : Op.intCmp b p q = pure (.bool r)) (ha : ∀ s : Sem Value, binOp b T (.int k p) (.int k q) = s -> s = Op.intCmp b p q) (hg : eqGuard b T x y (.int k p) (.int k q) = pure ()) : cL P (do eqGuard b T x y (.int k p) (.int k q); binOp b T (.int k p) (.int k q)) = some (.bool r) := by
  rw [hg, ha _ rfl, hr]; rfl
theorem A0 {b : BinOp} (hb : binOp b T (.int k p) (.int k q) = if k ≠ k then stuck "BinOp: operands of different kinds" else Op.intCmp b p q) : binOp b T (.int k p) (.int k q) = Op.intCmp b p q := by rw [hb, if_neg (by simp)]
theorem aI.lss (hx : aY fl x = some (.v (.int k) p) := by rfl) (hy : aY fl y = some (.v (.int k) q) := by rfl) : aI P fl σ (.binOp .lss T x y T') (.v .bool (decide (p < q))) :=
  .sX hx hy (u := .bool (decide (p < q))) (vI .lss _ rfl (fun s hs => by rw [<- hs]; exact A0 rfl) rfl) fun h S => aG.ofBool _
theorem aI.leq (hx : aY fl x = some (.v (.int k) p) := by rfl) (hy : aY fl y = some (.v (.int k) q) := by rfl) : aI P fl σ (.binOp .leq T x y T') (.v .bool (decide (p <= q))) :=
  .sX hx hy (u := .bool (decide (p <= q))) (vI .leq _ rfl (fun s hs => by rw [<- hs]; exact A0 rfl) rfl) fun h S => aG.ofBool _
theorem aI.gtr (hx : aY fl x = some (.v (.int k) p) := by rfl) (hy : aY fl y = some (.v (.int k) q) := by rfl) : aI P fl σ (.binOp .gtr T x y T') (.v .bool (decide (q < p))) :=
  .sX hx hy (u := .bool (decide (q < p))) (vI .gtr _ rfl (fun s hs => by rw [<- hs]; exact A0 rfl) rfl) fun h S => aG.ofBool _
theorem aI.geq (hx : aY fl x = some (.v (.int k) p) := by rfl) (hy : aY fl y = some (.v (.int k) q) := by rfl) : aI P fl σ (.binOp .geq T x y T') (.v .bool (decide (q <= p))) :=
  .sX hx hy (u := .bool (decide (q <= p))) (vI .geq _ rfl (fun s hs => by rw [<- hs]; exact A0 rfl) rfl) fun h S => aG.ofBool _
theorem aI.eql (hx : aY fl x = some (.v (.int k) p) := by rfl) (hy : aY fl y = some (.v (.int k) q) := by rfl) : aI P fl σ (.binOp .eql T x y T') (.v .bool (decide (p = q))) := by
  have e : (p == q) = decide (p = q) := by by_cases h : p = q <;> simp [h]
  exact .sX hx hy (u := .bool (p == q)) (vI .eql _ rfl (fun s hs => by rw [<- hs]; exact A0 rfl) rfl) fun h S => by rw [e]; exact aG.ofBool _
theorem aI.neq (hx : aY fl x = some (.v (.int k) p) := by rfl) (hy : aY fl y = some (.v (.int k) q) := by rfl) : aI P fl σ (.binOp .neq T x y T') (.v .bool (decide (p ≠ q))) := by
  have e : (p != q) = decide (p ≠ q) := by by_cases h : p = q <;> simp [h]
  exact .sX hx hy (u := .bool (p != q)) (vI .neq _ rfl (fun s hs => by rw [<- hs]; exact A0 rfl) rfl) fun h S => by rw [e]; exact aG.ofBool _
end
theorem aI.un {b : UnOp} {p : PV} (hx : aY fl x = some p) (hv : ∀ (h : aA) (S : List Nat) (a : Value), aJ h S p a -> ∃ u, aJ h S v u /\ af a = true /\ cL P (Op.unary b a) = some u) : aI P fl σ (.unOp b T x) v :=
  ⟨rfl, fun h S t hs _ => by
    obtain ⟨u, h1, h2, h3⟩ := hv h S _ (hs x (by simp [Op.operands]) _ hx); refine ⟨u, h1, fun _ _ _ _ _ H => ?_⟩; show (if af (aC t x) = true then _ else _) = _
    rw [if_pos h2, h3]; rfl⟩
theorem aI.not {r : Bool} (hx : aY fl x = some (.v .bool r) := by rfl) : aI P fl σ (.unOp .not T x) (.v .bool (!r)) :=
  .un hx fun h S a ha => by
    obtain rfl := aG.bool ha; exact ⟨_, aG.ofBool _, rfl, rfl⟩
theorem aI.conv {p : PV} {s D : TypeId} (hx : aY fl x = some p) (hv : ∀ (h : aA) (S : List Nat) (a : Value), aJ h S p a -> ∃ u, aJ h S v u /\ af a = true /\ cL P (convert s D a) = some u) : aI P fl σ (.convert s D x) v :=
  ⟨rfl, fun h S t hs _ => by
    obtain ⟨u, h1, h2, h3⟩ := hv h S _ (hs x (by simp [Op.operands]) _ hx); refine ⟨u, h1, fun _ _ _ _ _ H => ?_⟩; show (if af (aC t x) = true then _ else _) = _
    rw [if_pos h2, h3]; rfl⟩
def QK (P : Program) (s D : TypeId) (k2 : IntKind) : Bool := (P.underlying s).isSome && (match P.underlying D with | some (.int k) => decide (k = k2) | _ => false)
theorem aI.wS {p : Int} {s D : TypeId} {k : IntKind} (hx : aY fl x = some (.v (.int k) p)) (k2 : IntKind) (hw : k2.wrap p = p) (hb : QK P s D k2 = true := by kernel_rfl) : aI P fl σ (.convert s D x) (.v (.int k2) p) :=
  .conv hx fun h S a ha => by
    obtain rfl := aG.int ha; unfold QK at hb; obtain ⟨b1, b2⟩ := b6 hb; obtain ⟨td, hs⟩ := Option.isSome_iff_exists.1 b1; split at b2
    . rename_i k3 hd; obtain rfl : k3 = k2 := of_decide_eq_true b2; refine ⟨.int k3 p, aG.ofInt _ _, rfl, ?_⟩; unfold cL convert; simp only [aF, aL hs, aL hd, Option.bind_some]; show (aE P (Conv.intToInt k3 p)).bind _ = _; simp only [Conv.intToInt, aK, Option.bind_some, hw]; rfl
    cases b2
theorem aI.func {f : FuncId} {a c : Array Operand} {us vs : List PV} (ha : mM fl a.toList = some us := by rfl) (hc : mM fl c.toList = some vs := by rfl) : aI P fl σ (.makeFunc (.func f) a c) (.mF f us vs) :=
  ⟨rfl, fun h S t hs _ => by
    have aux : ∀ (l : List Operand) (vs : List PV), (∀ x ∈ l, ∀ pv, aY fl x = some pv -> aJ h S pv (aC t x)) -> mM fl l = some vs -> bA h S vs (l.map (aC t)) := by
      intro l
      induction l with
      | nil => intro vs _ hx; obtain rfl := Option.some.inj hx; rfl
      | cons x r ih =>
        intro vs hq hx; simp only [mM] at hx; split at hx
        . rename_i v Q8 hv y4; obtain rfl := Option.some.inj hx; exact ⟨_, _, rfl, hq x List.mem_cons_self _ hv, ih Q8 (fun y hy => hq y (List.mem_cons_of_mem _ hy)) y4⟩
        cases hx
    refine ⟨.func (.func f) (a.map (aC t)) (c.map (aC t)), ⟨a.toList.map (aC t), c.toList.map (aC t), by congr 1 <;> (apply Array.toList_inj.1; simp), aux _ _ (fun x hx => hs x (by simp [Op.operands]; left; simpa using hx)) ha, aux _ _ (fun x hx => hs x (by simp [Op.operands]; right; simpa using hx)) hc⟩, fun _ _ _ _ _ H => rfl⟩⟩
theorem bA.get : ∀ {l : List PV} {us : List Value} {i : Nat} {p : PV}, bA h S l us -> l[i]? = some p -> ∃ u, us[i]? = some u /\ aJ h S p u
  | [], us, i, p, _, hp => by simp at hp
  | q :: qs, us, i, p, ⟨u, r, h1, h2, h3⟩, hp => by
    subst h1
    cases i with
    | zero => simp only [List.getElem?_cons_zero, Option.some.injEq] at hp; subst hp; exact ⟨u, rfl, h2⟩
    | succ i =>
      obtain ⟨w, e1, e2⟩ := bA.get (l := qs) (us := r) (i := i) h3 (by simpa using hp); exact ⟨w, by simpa using e1, e2⟩
theorem aI.extract {l : List PV} {i : Nat} (hx : aY fl x = some (.kL l) := by rfl) (hi : l[i]? = some pv := by rfl) (h2 : Nat.ble 2 l.length = true := by rfl) : aI P fl σ (.extract x i) pv :=
  ⟨rfl, fun h S t hs _ => by
    obtain ⟨us, h3, h4⟩ := hs x (by simp [Op.operands]) _ hx; obtain ⟨u, h5, h6⟩ := h4.get hi; have hlen := h4.len; refine ⟨u, h6, fun _ _ _ _ _ H => ?_⟩; show (bif tT (aC t x) then none else (aE P (Instr.extract (aC t x) i)).map _) = _; rw [h3]
    have hj : tT (.tuple us.toArray) = false := by
      unfold tT; split
      . rename_i hh
        have : us = [.tuple ⟨[]⟩] := by simpa using congrArg (fun v => match v with | Value.tuple a => a.toList | _ => []) hh
        rw [this] at hlen; have := fP h2; simp at hlen; omega
      rfl
    rw [hj]; simp only [cond_false, Instr.extract]
    have : us.toArray[i]? = some u := by simpa using h5
    rw [this]
    rfl⟩
inductive Sub : (τ : Ty) -> τ.den -> Nat -> (τ' : Ty) -> τ'.den -> Prop where
  | o {τ : Ty} {x : τ.den} : Sub τ x 0 τ x
  | l {a b : Ty} {x : (Ty.pair a b).den} {k : Nat} {τ' : Ty} {y : τ'.den} (hs : Sub a x.1 k τ' y) : Sub (.pair a b) x k τ' y
  | r {a b : Ty} {x : (Ty.pair a b).den} {k k' : Nat} {τ' : Ty} {y : τ'.den} (hs : Sub b x.2 k τ' y) (hk : k' = a.size + k := by rfl) : Sub (.pair a b) x k' τ' y
theorem Sub.aiL {τ : Ty} {x : τ.den} {k : Nat} {τ' : Ty} {y : τ'.den} (hs : Sub τ x k τ' y) : ∀ {cs : List Value}, cR h S τ cs x -> k + τ'.size <= cs.length /\ cR h S τ' ((cs.drop k).take τ'.size) y := by
  induction hs with
  | o =>
    intro cs hx; have := hx.len
    exact ⟨by omega, by rw [List.drop_zero, List.take_of_length_le (by omega)]; exact hx⟩
  | @l a b x k τ' y hs ih =>
    intro cs hx; obtain ⟨h1, h2⟩ := ih hx.1; rw [List.length_take] at h1; refine ⟨by omega, ?_⟩; rw [List.drop_take, List.take_take, Nat.min_eq_left (by omega)] at h2
    exact h2
  | @r a b x k k' τ' y hs hk ih =>
    intro cs hx; obtain ⟨h1, h2⟩ := ih hx.2; rw [List.length_drop] at h1; have hl := hx.len; have dJ : (Ty.pair a b).size = a.size + b.size := rfl; subst hk; rw [List.drop_drop] at h2; refine ⟨?_, h2⟩; have := cR.len h2; rw [List.length_take, List.length_drop] at this; by_cases h0 : τ'.size = 0
    . have hlb := hx.2.len; rw [List.length_drop] at hlb; omega
    omega
theorem aI.fa {s : TypeId} {f k : Nat} {dx : τ.den} {dy : τ'.den} (hs : Sub τ dx k τ' dy) (hb : O2 P s f k = true := by kernel_rfl) (hx : aY fl x = some (.p τ dx) := by rfl) : aI P fl σ (.fieldAddr s x f) (.p τ' dy) :=
  ⟨rfl, fun h S t hq _ => by
    have hp : nY h S τ (aC t x) dx := hq x (by simp [Op.operands]) _ hx; refine ⟨sQ (aC t x) k, ?_, fun _ _ _ _ _ H => ?_⟩
    . obtain ⟨b', o, e', rs, own, more, h1, h2, h3, h4, h5⟩ := hp; obtain ⟨h6, h7⟩ := hs.aiL h5; rw [List.length_take, List.length_drop] at h6; refine ⟨b', o + k, e', rs, own, more, by rw [h1]; rfl, h2, h3, by omega, ?_⟩; rw [List.drop_take, List.take_take, List.drop_drop, Nat.min_eq_left (by omega)] at h7; exact h7
    show (aE P (Instr.fieldAt s (aC t x) f)).map _ = _
    rw [hp.fa hb]; rfl⟩
end Go.Fs
namespace Go.Fs
variable {P : Program} {orc : FuncId -> List Value -> aA -> Option (Value × aA)} {b7 : Option Nat} {h h' h0 h1 h2 : aA} {S S' S0 B G : List Nat} {σ aQ oI : aX} {t t' : Tr} {ms : List Nat} {fl : VL} {ops : Array Oper} {n i mem : Nat} {l : List Oper} {K : VL -> aX -> Prop} {Q : Ex -> VL -> aX -> Prop}
  {d : Tmp} {ty : TypeId} {pos : String} {after : Array Edge} {op : Op} {v pv : PV} {g : Option (Nat × Bool)} {x y z : Operand} {T T' e : TypeId} {τ τ' : Ty} {bs nw : List Nat} {segs : List (Nat × Nat × Nat)} {tail so : Bool} {w : Value}
theorem aI.ix {xs : List τ.den} {j : Nat} (hx : aY fl x = some (.v (.sl τ) xs)) (hy : aY fl y = some (.v (.int .i64) ((j : Nat) : Int))) (hT : eX P T e τ) (hj : j < xs.length) : aI P fl σ (.indexAddr T x y) (.p τ xs[j]) :=
  ⟨rfl, fun h S t hs _ => by
    have h1 := aG.sl (hs x (by simp [Op.operands]) _ hx : aG h S (.sl τ) (aC t x) xs); have h2 := aG.int (hs y (by simp [Op.operands]) _ hy); refine ⟨_, h1.at hj, fun _ _ _ _ _ H => ?_⟩; show (if af (aC t y) then (aE P (Instr.indexAt T (aC t x) (aC t y))).map fun v => (v, H) else none) = _
    rw [h2, h1.ix hT hj]; rfl⟩
theorem aI.WO {xs : List τ.den} {k : Int} (hx : aY fl x = some (.v (.sl τ) xs)) (hy : aY fl y = some (.v (.int .i64) k)) (hT : eX P T e τ) (h0 : 0 <= k) (hk : k < (xs.length : Nat)) : aI P fl σ (.indexAddr T x y) (.p τ (xs[k.toNat]'(by omega))) := by
  obtain ⟨j, rfl⟩ := Int.eq_ofNat_of_zero_le h0; exact aI.ix hx hy hT (by omega)
theorem aI.oJ {xs : List τ.den} {j : Nat} (hx : aY fl x = some (.raw w)) (hy : aY fl y = some (.v (.int .i64) ((j : Nat) : Int))) (hm : (w, Cell.row e τ xs) ∈ σ) (hT : eX P T e τ) (hj : j < xs.length) : aI P fl σ (.indexAddr T x y) (.raw (iO w τ.size j)) :=
  ⟨rfl, fun h S t hs hc => by
    have h1 : aC t x = w := hs x (by simp [Op.operands]) _ hx; have h2 := aG.int (hs y (by simp [Op.operands]) _ hy); refine ⟨_, rfl, fun _ _ _ _ _ H => ?_⟩; show (if af (aC t y) then (aE P (Instr.indexAt T (aC t x) (aC t y))).map fun v => (v, H) else none) = _; rcases hc _ hm with ⟨_, rfl⟩ | ⟨b, rs, m, h3, h4, h5, h6⟩
    . simp at hj
    have hg : rH h S 0 e m τ w xs := .inr ⟨b, rs, h4, Nat.zero_le _, h3, h5, h6⟩
    rw [h1, h2, hg.ix hT hj]; rfl⟩
theorem aI.aiM {xs : List τ.den} {k : Int} (hx : aY fl x = some (.raw w)) (hy : aY fl y = some (.v (.int .i64) k)) (hm : (w, Cell.row e τ xs) ∈ σ) (hT : eX P T e τ) (h0 : 0 <= k) (hk : k < (xs.length : Nat)) : aI P fl σ (.indexAddr T x y) (.raw (iO w τ.size k.toNat)) := by
  obtain ⟨j, rfl⟩ := Int.eq_ofNat_of_zero_le h0; exact aI.oJ hx hy hm hT (by omega)
theorem aI.T3 {s : TypeId} {f k : Nat} {cs : List PV} (hm : (w, Cell.var cs) ∈ σ) (hb : O2 P s f k = true := by kernel_rfl) (hx : aY fl x = some (.raw w) := by rfl) : aI P fl σ (.fieldAddr s x f) (.raw (sQ w k)) :=
  ⟨rfl, fun h S t hs hc => by
    have h1 : aC t x = w := hs x (by simp [Op.operands]) _ hx; obtain ⟨b, e, vs, h3, h4, h5, _⟩ := hc _ hm; have hB : E2 h 0 w vs := ⟨b, e, h3, Nat.zero_le _, h5⟩; refine ⟨_, rfl, fun _ _ _ _ _ H => ?_⟩; show (aE P (Instr.fieldAt s (aC t x) f)).map _ = _
    rw [h1, hB.fa hb]; rfl⟩
theorem dC.ld {dx : τ.den} (hT : fL P T τ) (hx : aY fl x = some (.p τ dx) := by rfl) : dC P fl σ (.load T x) (.v τ dx) :=
  ⟨rfl, fun h S t hs _ => by
    have hp : nY h S τ (aC t x) dx := hs x (by simp [Op.operands]) _ hx; refine ⟨_, hp.val, fun H hH _ _ _ _ _ => ?_⟩; have hp' : nY H S τ (aC t x) dx := hp.nx fun b o hg hb => ⟨hH b o hg, hb⟩
    have e1 : pH H τ (aC t x) = pH h τ (aC t x) := by
      obtain ⟨b, o, e, rs, own, more, h1, h2, h3, h4, h5⟩ := hp; rw [h1]; simp only [pH, h3, hH b _ h3]
    show (eU P T (aC t x) H).map _ = _
    rw [(hp'.ae4 hT).1, e1]; rfl⟩
theorem dC.ldO {xs : List τ.den} {j : Nat} (hx : aY fl x = some (.raw (iO w τ.size j))) (hm : (w, Cell.row T τ xs) ∈ σ) (hT : fL P T τ) (hj : j < xs.length) : dC P fl σ (.load T x) (.v τ xs[j]) :=
  ⟨rfl, fun h S t hs hc => by
    have h1 : aC t x = iO w τ.size j := hs x (by simp [Op.operands]) _ hx; rcases hc _ hm with ⟨_, rfl⟩ | ⟨b, rs, m, h3, h4, h5, h6⟩
    . simp at hj
    have hg : rH h S 0 T m τ w xs := .inr ⟨b, rs, h4, Nat.zero_le _, h3, h5, h6⟩; refine ⟨_, (hg.ld hT hj).2, fun H hH _ _ _ _ _ => ?_⟩; have gX : rH H S 0 T m τ w xs := .inr ⟨b, rs, h4, Nat.zero_le _, h3, hH b _ h5, h6.nx fun b o hg hb => ⟨hH b o hg, hb⟩⟩
    have e1 : pH H τ (iO w τ.size j) = pH h τ (iO w τ.size j) := by
      rw [show w = _ from h3]; simp only [iO, pH, h5, hH b _ h5]
    show (eU P T (aC t x) H).map _ = _
    rw [h1, (gX.ld hT hj).1, e1]; rfl⟩
theorem dC.QM {cs : List PV} {k : Nat} (hm : (w, Cell.var cs) ∈ σ) (hT : fL P T τ) (ha : τ.agg = false := by rfl) (hk : cs[k]? = some v := by rfl) (hx : aY fl x = some (.raw (sQ w k)) := by rfl) : dC P fl σ (.load T x) v :=
  ⟨rfl, fun h S t hs hc => by
    have h1 : aC t x = sQ w k := hs x (by simp [Op.operands]) _ hx; obtain ⟨b, e, vs, h3, h4, h5, h6, _⟩ := hc _ hm; obtain ⟨u, h7, h8⟩ := h6.get hk; refine ⟨u, h8, fun H hH _ _ _ _ _ => ?_⟩; have hB : E2 H 0 w vs := ⟨b, e, h3, Nat.zero_le _, hH b _ h5⟩; show (eU P T (aC t x) H).map _ = _
    rw [h1, hB.ld1 hT ha h7]; rfl⟩
theorem dC.N8 {cs : List PV} {dx : τ.den} (hm : (w, Cell.var cs) ∈ σ) (hT : fL P T τ) (hc : cs = jB τ dx := by rfl) (ha : τ.agg = true := by rfl) (hx : aY fl x = some (.raw w) := by rfl) : dC P fl σ (.load T x) (.v τ dx) :=
  ⟨rfl, fun h S t hs QE => by
    have h1 : aC t x = w := hs x (by simp [Op.operands]) _ hx; obtain ⟨b, e, vs, h3, h4, h5, h6, _⟩ := QE _ hm; rw [hc] at h6; have h7 := oV h6; refine ⟨.agg vs.toArray, ⟨ha.symm, by simpa [Value.cells] using h7⟩, fun H hH _ _ _ _ _ => ?_⟩; have hB : E2 H 0 w vs := ⟨b, e, h3, Nat.zero_le _, hH b _ h5⟩; show (eU P T (aC t x) H).map _ = _
    rw [h1, hB.N8 hT ha h7.len]; rfl⟩
theorem dC.len {xs : List τ.den} (hT : eX P T e τ) (hx : aY fl x = some (.v (.sl τ) xs) := by rfl) : dC P fl σ (.call { callee := .builtin .len, args := #[x], argTypes := #[T] }) (.v (.int .i64) (xs.length : Nat)) :=
  ⟨rfl, fun h S t hs _ => by
    have h1 := aG.sl (hs x (by simp [Op.operands, Call.operands]) _ hx : aG h S (.sl τ) (aC t x) xs); refine ⟨_, aG.ofInt _ _, fun H _ _ _ _ _ _ => ?_⟩; show (kI P #[T] (aC t x) H).map _ = _
    rw [h1.len hT]; rfl⟩
theorem dC.ZG {xs : List τ.den} (hm : (w, Cell.row e τ xs) ∈ σ) (hT : eX P T e τ) (hx : aY fl x = some (.raw w) := by rfl) : dC P fl σ (.call { callee := .builtin .len, args := #[x], argTypes := #[T] }) (.v (.int .i64) (xs.length : Nat)) :=
  ⟨rfl, fun h S t hs hc => by
    have h1 : aC t x = w := hs x (by simp [Op.operands, Call.operands]) _ hx; refine ⟨_, aG.ofInt _ _, fun H _ _ _ _ _ _ => ?_⟩; show (kI P #[T] (aC t x) H).map _ = _; rw [h1]; rcases hc _ hm with ⟨rfl, rfl⟩ | ⟨b, rs, m, h3, h4, h5, h6⟩
    . rw [mL.len (h := h) (S := S) (τ := τ) hT mL.nil]; rfl
    have hg : rH h S 0 e m τ w xs := .inr ⟨b, rs, h4, Nat.zero_le _, h3, h5, h6⟩
    rw [hg.len hT]; rfl⟩
theorem dC.O9 (hT : eX P T e τ) (hx : aY fl x = some (.raw (.slice none 0 0)) := by rfl) : dC P fl σ (.call { callee := .builtin .len, args := #[x], argTypes := #[T] }) (.v (.int .i64) ((0 : Nat) : Int)) :=
  ⟨rfl, fun h S t hs _ => by
    have h1 : aC t x = .slice none 0 0 := hs x (by simp [Op.operands, Call.operands]) _ hx; refine ⟨_, aG.ofInt _ _, fun H _ _ _ _ _ _ => ?_⟩; show (kI P #[T] (aC t x) H).map _ = _
    rw [h1, mL.len (h := h) (S := S) (τ := τ) hT mL.nil]; rfl⟩
theorem dC.OC {s : ByteArray} (hT : P.underlying T = some .string := by kernel_rfl) (hx : aY fl x = some (.v .str s) := by rfl) : dC P fl σ (.call { callee := .builtin .len, args := #[x], argTypes := #[T] }) (.v (.int .i64) (s.size : Nat)) :=
  ⟨rfl, fun h S t hs _ => by
    have h1 := aG.str (hs x (by simp [Op.operands, Call.operands]) _ hx); refine ⟨_, aG.ofInt _ _, fun H _ _ _ _ _ _ => ?_⟩; show (kI P #[T] (aC t x) H).map _ = _; rw [h1]
    simp [kI, hT]⟩
section
variable {p q r s : Int} {a : Array TypeId}
theorem aI.imax (hx : aY fl x = some (.v (.int .i64) p) := by rfl) (hy : aY fl y = some (.v (.int .i64) q) := by rfl) : aI P fl σ (.call { callee := .builtin .max, args := #[x, y], argTypes := a }) (.v (.int .i64) (Max.max p q)) :=
  ⟨rfl, fun h S t hs _ => by
    have h1 := aG.int (hs x (by simp [Op.operands, Call.operands]) _ hx); have h2 := aG.int (hs y (by simp [Op.operands, Call.operands]) _ hy); refine ⟨_, aG.ofInt _ _, fun d ty pos after g H => ?_⟩; show (if [aC t x, aC t y].all af = true then (cL P (Builtin.max_ a ty [aC t x, aC t y].toArray)).map fun v => (v, H) else none) = _; rw [h1, h2]; have : (cL P (Builtin.max_ a ty [Value.int .i64 p, Value.int .i64 q].toArray)) = some (.int .i64 (if q > p then q else p)) := rfl
    rw [this, ah8]; rfl⟩
theorem aI.aiN (hx : aY fl x = some (.v (.int .i64) p) := by rfl) (hy : aY fl y = some (.v (.int .i64) q) := by rfl) : aI P fl σ (.call { callee := .builtin .min, args := #[x, y], argTypes := a }) (.v (.int .i64) (Min.min p q)) :=
  ⟨rfl, fun h S t hs _ => by
    have h1 := aG.int (hs x (by simp [Op.operands, Call.operands]) _ hx); have h2 := aG.int (hs y (by simp [Op.operands, Call.operands]) _ hy); refine ⟨_, aG.ofInt _ _, fun d ty pos after g H => ?_⟩; show (if [aC t x, aC t y].all af = true then (cL P (Builtin.min_ a ty [aC t x, aC t y].toArray)).map fun v => (v, H) else none) = _; rw [h1, h2]; have : (cL P (Builtin.min_ a ty [Value.int .i64 p, Value.int .i64 q].toArray)) = some (.int .i64 (if q < p then q else p)) := rfl; rw [this]
    have e : (if q < p then q else p) = Min.min p q := by rw [Int.min_def]; split <;> split <;> omega
    rw [e]; rfl⟩
end
theorem mL.ae9 {xs : List τ.den} {a b : Nat} {u : Value} {H : aA} (hT : eX P T e τ) (hv : mL h S τ u xs) (uS : a <= b) (hb : b <= xs.length) (hH : ∀ b o, h.get b = some o -> H.get b = some o) {lo hi : Option Value} (hl : eI lo 0 = some a) (hh : ∀ n, n = xs.length -> eI hi n = some b) : dN P T u lo hi none H = dN P T u lo hi none h := by
  rcases hv with ⟨rfl, rfl⟩ | ⟨bl, o, mk, rfl, h2⟩
  . simp only [dN, hT.sl.sl]
  obtain ⟨i, z, yK, dJ, _⟩ := hT.sl.info
  have e1 : Nat.ble a b = true := by rw [Nat.ble_eq]; exact uS
  have e2 : Nat.ble b xs.length = true := by rw [Nat.ble_eq]; exact hb
  have hm : mX e bl a mk H = mX e bl a mk h := by
    unfold mX; by_cases ha : a = 0
    . subst ha; rfl
    rcases h2 with rfl | ⟨_, e', rs, own, more, h3, _, _⟩
    . simp at hb; omega
    rw [h3, hH _ _ h3]
  simp only [dN, hT.sl.sl, yK, hl, hh _ rfl, e1, e2, Bool.and_self, cond_true, hm]
theorem dC.ae9 {xs : List τ.den} {b : Int} {hi : Operand} (hx : aY fl x = some (.v (.sl τ) xs)) (hh : aY fl hi = some (.v (.int .i64) b)) (hT : eX P T e τ) (h0 : 0 <= b /\ b <= (xs.length : Nat)) : dC P fl σ (.slice T x none (some hi) none) (.v (.sl τ) (xs.take b.toNat)) :=
  ⟨rfl, fun h S t hs _ => by
    have h1 := aG.sl (hs x (by simp [Op.operands]) _ hx : aG h S (.sl τ) (aC t x) xs); have h3 := aG.int (hs hi (by simp [Op.operands]) _ hh); obtain ⟨u, e1, e2⟩ := h1.cut hT (a := 0) (b := b) ⟨Int.le_refl _, h0⟩; rw [show (0 : Int).toNat = 0 from rfl, List.drop_zero] at e2; refine ⟨u, e2.rep, fun H hH _ _ _ _ _ => ?_⟩; obtain ⟨b', rfl⟩ := Int.eq_ofNat_of_zero_le h0.1; have e3 := e1 h.next h.low
    have e4 : dN P T (aC t x) none (some (.int .i64 (b' : Nat))) none h = dN P T (aC t x) (some (.int .i64 0)) (some (.int .i64 (b' : Nat))) none h := by
      rcases h1 with ⟨hu, _⟩ | ⟨bl, o, mk, hu, _⟩ <;> rw [hu] <;> simp only [dN, hT.sl.sl, eI] <;> rfl
    show (dN P T (aC t x) none (some (aC t hi)) none H).map _ = _; rw [h3, h1.ae9 hT (a := 0) (b := b') (by omega) (by omega) hH (by simp [eI]) (fun _ _ => by simp [eI])]
    rw [e4, show h = { next := h.next, low := h.low, aB := h.aB } from rfl, e3]; rfl⟩
end Go.Fs
namespace Go.Fs
variable {P : Program} {orc : FuncId -> List Value -> aA -> Option (Value × aA)} {b7 : Option Nat} {h h' h0 h1 h2 : aA} {S S' S0 B G : List Nat} {σ aQ oI : aX} {t t' : Tr} {ms : List Nat} {fl : VL} {ops : Array Oper} {n i mem : Nat} {l : List Oper} {K : VL -> aX -> Prop} {Q : Ex -> VL -> aX -> Prop}
  {d : Tmp} {ty : TypeId} {pos : String} {after : Array Edge} {op : Op} {v pv : PV} {g : Option (Nat × Bool)} {x y z : Operand} {T T' e : TypeId} {τ τ' : Ty} {bs nw : List Nat} {segs : List (Nat × Nat × Nat)} {tail so : Bool} {w w' : Value} {c c' : Cell}
theorem bE : own ((w, c) :: σ) = cW w ++ own σ := rfl
theorem Made.head (L : Lc S0 h ((w, c) :: σ) t fl) (ha : cO h h' (cW w)) (hn : ∀ b ∈ cW w', b ∈ cW w \/ h.next <= b) (hd : (cW w').Nodup) (hc : cV h (own ((w, c) :: σ) ++ S0) h' (own ((w', c') :: σ) ++ S0) -> bS h' (own ((w', c') :: σ) ++ S0) w' c') : Made S0 h h' ((w, c) :: σ) ((w', c') :: σ) := by
  have n9 := L.apart; rw [bE] at n9; obtain ⟨ZH, T4, EA⟩ := List.nodup_append.1 n9
  have mI : cO h h' (own ((w, c) :: σ)) := ha.ZF fun b hb => by rw [bE]; exact List.mem_append_left _ hb
  have jQ : ∀ b ∈ own ((w', c') :: σ), b ∈ own ((w, c) :: σ) \/ h.next <= b := fun b hb => by
    rw [bE] at hb ⊢; rcases List.mem_append.1 hb with hb | hb
    . rcases hn b hb with h1 | h1
      . exact .inl (List.mem_append_left _ h1)
      exact .inr h1
    exact .inl (List.mem_append_right _ hb)
  have hN : cV h (own ((w, c) :: σ) ++ S0) h' (own ((w', c') :: σ) ++ S0) := mI.kB L.ok (fun b hb => List.mem_append_left _ hb) fun b hb => by
    rcases List.mem_append.1 hb with hb | hb
    . rcases jQ b hb with h1 | h1
      . exact .inl (List.mem_append_left _ h1)
      exact .inr h1
    exact .inl (List.mem_append_right _ hb)
  refine ⟨mI, jQ, ?_, fun d hd => ?_⟩
  . rw [bE]; refine List.nodup_append.2 ⟨hd, T4, fun a h1 b h2 he => ?_⟩; subst he; rcases hn a h1 with h3 | h3
    . exact EA a h3 a h2 rfl
    have := L.lt a (List.mem_append_left _ (by rw [bE]; exact List.mem_append_right _ h2)); omega
  rcases List.mem_cons.1 hd with rfl | hd
  . exact hc hN
  refine (L.cells d (List.mem_cons_of_mem _ hd)).aW (fun b hb => ?_) hN fun b hb => List.mem_append_left _ (by rw [bE]; exact List.mem_append_right _ (List.mem_flatMap.2 ⟨d, hd, hb⟩)); have DY : b ∈ own σ := List.mem_flatMap.2 ⟨d, hd, hb⟩; exact ha.get b (L.lt b (List.mem_append_left _ (by rw [bE]; exact List.mem_append_right _ DY))) fun hm => EA b hm b DY rfl
theorem Made.cons (L : Lc S0 h σ t fl) (ha : cO h h' []) (hn : ∀ b ∈ cW w', h.next <= b) (hd : (cW w').Nodup) (hc : cV h (own σ ++ S0) h' (own ((w', c') :: σ) ++ S0) -> bS h' (own ((w', c') :: σ) ++ S0) w' c') : Made S0 h h' σ ((w', c') :: σ) := by
  have mI : cO h h' (own σ) := ha.ZF fun b hb => by cases hb
  have jQ : ∀ b ∈ own ((w', c') :: σ), b ∈ own σ \/ h.next <= b := fun b hb => by
    rw [bE] at hb; rcases List.mem_append.1 hb with hb | hb
    . exact .inr (hn b hb)
    exact .inl hb
  have hN : cV h (own σ ++ S0) h' (own ((w', c') :: σ) ++ S0) := ha.kB L.ok (fun b hb => by cases hb) fun b hb => by
    rcases List.mem_append.1 hb with hb | hb
    . rcases jQ b hb with h1 | h1
      . exact .inl (List.mem_append_left _ h1)
      exact .inr h1
    exact .inl (List.mem_append_right _ hb)
  refine ⟨mI, jQ, ?_, fun d hd => ?_⟩
  . rw [bE]; refine List.nodup_append.2 ⟨hd, L.apart, fun a h1 b h2 he => ?_⟩; subst he; have := hn a h1; have := L.lt a (List.mem_append_left _ h2); omega
  rcases List.mem_cons.1 hd with rfl | hd
  . exact hc hN
  exact (L.cells d hd).aW (fun b hb => ha.get b (L.lt b (List.mem_append_left _ (List.mem_flatMap.2 ⟨d, hd, hb⟩))) (by simp)) hN fun b hb => List.mem_append_left _ (by rw [bE]; exact List.mem_append_right _ (List.mem_flatMap.2 ⟨d, hd, hb⟩))
theorem Made.same (L : Lc S0 h σ t fl) (ha : cO h h' []) : Made S0 h h' σ σ := by
  have hN : cV h (own σ ++ S0) h' (own σ ++ S0) := ha.kB L.ok (fun b hb => by cases hb) fun b hb => .inl hb; exact ⟨ha.ZF (fun b hb => by cases hb), fun b hb => .inl hb, L.apart, fun c hc => (L.cells c hc).aW (fun b hb => ha.get b (L.lt b (List.mem_append_left _ (List.mem_flatMap.2 ⟨c, hc, hb⟩))) (by simp)) hN fun b hb => List.mem_append_left _ (List.mem_flatMap.2 ⟨c, hc, hb⟩)⟩
theorem ab2 (hT : eX P T e τ) (sY : eX P T' e τ) {u : Value} {news : List Value} {xs ys : List τ.den} (bW : mZ h) (hg : bS h S w (.row e τ xs)) 
    (n9 : ∀ i z, i.size = τ.size -> z.cells.toList.all eF = true -> fZ i z (isInt (.slice e)) u h = some (ys.length, news)) (hy : cE h S τ news ys) (iI : 0 < ys.length) (dJ : xs.length + ys.length <= 1000000) :
    ∃ h' rs, dQ P #[T, T'] w u h = some (.slice (some ⟨h.next, 0, none⟩) (xs.length + ys.length) 0, h') /\ cO h h' (cW w) /\ h'.get h.next = some (.row e rs true true) /\ (∀ S', cV h S h' S' -> cE h' S' τ rs (xs ++ ys)) := by
  obtain ⟨i, z, nZ, lU, EB, vJ, wT, EC, KV⟩ := hT.sl.info; have jO : news.all aU = true := hy.oC; have wK : news.length = ys.length * τ.size := hy.1
  have A1 : (xs.length + ys.length) * i.bytes <= 274877906944 := by
    have := Nat.mul_le_mul dJ vJ; omega
  unfold dQ; simp only [List.getElem?_toArray, List.getElem?_cons_zero, List.getElem?_cons_succ, hT.sl.sl, sY.sl.sl, nZ, wT, n9 i z lU KV, lU]
  have hc : (Nat.blt 0 τ.size && Nat.blt 0 i.bytes && Nat.beq news.length (ys.length * τ.size) && news.all aU && Nat.beq z.cells.size τ.size) = true := by
    have e1 : Nat.blt 0 τ.size = true := by show Nat.ble 1 τ.size = true; rw [Nat.ble_eq]; exact hT.sl.pos
    have e2 : Nat.blt 0 i.bytes = true := by show Nat.ble 1 i.bytes = true; rw [Nat.ble_eq]; exact EB
    rw [e1, e2, wK, Nat.beq_refl, jO, EC, Nat.beq_refl]; rfl
  rw [hc]; simp only [cond_true]; have e0 : Nat.beq ys.length 0 = false := eD (by omega); rcases hg with ⟨rfl, rfl⟩ | ⟨b0, rs, m, rfl, iY, rN, CL⟩
  . refine ⟨h.push (.row e news true true), news, ?_, cO.push h _ _, by rw [aA.bN, if_pos rfl], fun S' hN => by rw [List.nil_append]; exact hy.nx hN⟩; unfold kX
    have e2 : Nat.ble (ys.length * i.bytes) 274877906944 = true := by rw [Nat.ble_eq]; simpa using A1
    simp only [e0, cond_false, e2, cond_true, grown, List.length_nil, Nat.zero_add]
  have CJ := CL.1; have AP : 0 < ys.length * τ.size := Nat.mul_pos iI hT.sl.pos; have Z5 : (xs.length + ys.length) * τ.size = xs.length * τ.size + ys.length * τ.size := Nat.add_mul _ _ _
  have e1 : (Nat.beq ys.length 0 && Nat.beq 0 1) = false := by rw [e0]; rfl
  have e2 : Nat.beq e e = true := Nat.beq_refl _
  have e3 : Nat.ble ((xs.length + ys.length) * i.bytes) 274877906944 = true := by rw [Nat.ble_eq]; exact A1
  have e4 : Nat.ble (0 + xs.length * i.size) rs.length = true := by rw [Nat.ble_eq, lU]; omega
  have e5 : Nat.ble (0 + (xs.length + ys.length) * i.size) rs.length = false := by
    cases hx : Nat.ble (0 + (xs.length + ys.length) * i.size) rs.length with
    | false => rfl
    | true => have := fP hx; rw [lU] at this; omega
  have e6 : Nat.beq (xs.length * i.size) rs.length = true := by rw [lU, CJ]; exact Nat.beq_refl _
  have e7 : Nat.beq 0 1 = false := rfl; have e8 : Nat.beq 0 0 = true := rfl; have adE := bW b0 _ rN; have pY : cW (.slice (some ⟨b0, 0, none⟩) xs.length 0) = [b0] := rfl
  cases m with
  | true =>
    refine ⟨(h.drop b0).push (.row e (rs ++ news) true true), rs ++ news, ?_, (cO.drop (B := cW _) (by rw [pY]; simp)).trans (cO.push (h.drop b0) _ []) (fun i hi => by cases hi), ?_, fun S' hN => (CL.append hy).nx hN⟩
    . unfold kX; simp only [rN, e1, cond_false, e2, e3, e4, Bool.and_self, cond_true, e7, e8, e5, Bool.not_true, e6, grown, Bool.true_and, Bool.and_false]; rfl
    have : (h.drop b0).next = h.next := rfl
    rw [aA.bN, if_pos this.symm]
  | false =>
    refine ⟨h.push (.row e (rs ++ news) true true), rs ++ news, ?_, cO.push h _ _, by rw [aA.bN, if_pos rfl], fun S' hN => (CL.append hy).nx hN⟩; unfold kX
    have e9 : (rs.drop 0).take (xs.length * i.size) = rs := by rw [List.drop_zero, lU, <- CJ, List.take_length]
    simp only [rN, e1, cond_false, e2, e3, e4, Bool.and_self, cond_true, e7, e8, e5, Bool.not_false, grown, Bool.true_and, Bool.and_false, e9]
theorem WQ (hT : eX P T e τ) (sY : eX P T' e τ) {u : Value} {xs : List τ.den} (hg : bS h S w (.row e τ xs)) (hw : mL h S τ u []) (dJ : xs.length <= 1000000) : dQ P #[T, T'] w u h = some (w, h) := by
  obtain ⟨i, z, nZ, lU, EB, vJ, wT, EC, KV⟩ := hT.sl.info
  have n9 : fZ i z (isInt (.slice e)) u h = some (0, []) := by
    rcases hw with ⟨rfl, _⟩ | ⟨b, o, mk, rfl, _⟩
    . simp [fZ, isInt, q4, cellsOf]
    simp only [fZ, isInt, cond_false, q4, cellsOf, List.length_nil]; have e1 : Nat.ble 0 0 = true := rfl; simp [e1, cond_true, Nat.zero_mul]
  unfold dQ; simp only [List.getElem?_toArray, List.getElem?_cons_zero, List.getElem?_cons_succ, hT.sl.sl, sY.sl.sl, nZ, wT, n9, lU]
  have hc : (Nat.blt 0 τ.size && Nat.blt 0 i.bytes && Nat.beq ([] : List Value).length (0 * τ.size) && ([] : List Value).all aU && Nat.beq z.cells.size τ.size) = true := by
    have e1 : Nat.blt 0 τ.size = true := by show Nat.ble 1 τ.size = true; rw [Nat.ble_eq]; exact hT.sl.pos
    have e2 : Nat.blt 0 i.bytes = true := by show Nat.ble 1 i.bytes = true; rw [Nat.ble_eq]; exact EB
    rw [e1, e2, EC, Nat.beq_refl, Nat.zero_mul]; rfl
  rw [hc]; simp only [cond_true]; rcases hg with ⟨rfl, rfl⟩ | ⟨b0, rs, m, rfl, iY, rN, CL⟩
  . rfl
  have CJ := CL.1
  have A1 : (xs.length + 0) * i.bytes <= 274877906944 := by
    have := Nat.mul_le_mul (show xs.length + 0 <= 1000000 from by simpa using dJ) vJ; omega
  have e2 : Nat.beq e e = true := Nat.beq_refl _
  have e3 : Nat.ble ((xs.length + 0) * i.bytes) 274877906944 = true := by rw [Nat.ble_eq]; exact A1
  have e4 : Nat.ble (0 + xs.length * i.size) rs.length = true := by rw [Nat.ble_eq, lU]; omega
  have e5 : Nat.ble (0 + (xs.length + 0) * i.size) rs.length = true := by rw [Nat.ble_eq, lU]; simp only [Nat.add_zero]; omega
  have e7 : Nat.beq 0 1 = false := rfl; have e8 : Nat.beq 0 0 = true := rfl; unfold kX; simp only [rN, e2, e3, e4, Bool.and_self, cond_true, e7, e8, e5, Bool.true_and, cond_false, Bool.and_false, Bool.and_true]; simp only [Nat.add_zero] at e3 e4 e5 ⊢
  try simp only [e3, cond_true]
theorem cA.app {xs ys : List τ.den} (hT : eX P T e τ) (sY : eX P T' e τ) (hx : aY fl x = some (.raw w)) (hy : aY fl y = some (.v (.sl τ) ys)) (dJ : xs.length + ys.length <= 1000000) :
    cA P fl ((w, .row e τ xs) :: σ) (.call { callee := .builtin .append, args := #[x, y], argTypes := #[T, T'] }) fun v aQ => ∃ w', v = .raw w' /\ aQ = (w', .row e τ (xs ++ ys)) :: σ :=
  ⟨rfl, fun S0 h t L => by
    have h1 : aC t x = w := eH L.aH hx; have h2 := aG.sl (eH L.aH hy : aG h _ (.sl τ) (aC t y) ys); have hc := L.cells _ List.mem_cons_self
    have bR : ∀ u h', dQ P #[T, T'] w (aC t y) h = some (u, h') -> ∀ (d : Option Tmp) (ty : TypeId) (pos : String) (after : Array Edge) (g : Option (Nat × Bool)), fH P ⟨d, .call { callee := .builtin .append, args := #[x, y], argTypes := #[T, T'] }, ty, pos, after, g⟩ (aC t) h = some (u, h') := fun u h' e _ _ _ _ _ => by
      show dQ P #[T, T'] (aC t x) (aC t y) h = _; rw [h1, e]
    by_cases hp : 0 < ys.length
    . obtain ⟨b, o, mk, e', rs, ow, more, hu, hb, hr, hl, CL⟩ := h2.row hp; have nF := hT.sl.pos; have AP : 0 < ys.length * τ.size := Nat.mul_pos hp nF
      have cM : cE h (own ((w, .row e τ xs) :: σ) ++ S0) τ ((rs.drop o).take (ys.length * τ.size)) ys := ⟨by rw [List.length_take, List.length_drop]; omega, fun i hi => by
        have h2 : (i + 1) * τ.size <= ys.length * τ.size := Nat.mul_le_mul_right _ hi; rw [Nat.add_mul] at h2; have := CL i hi; rw [List.drop_take, List.take_take, List.drop_drop, Nat.min_eq_left (by omega)]
        exact this⟩
      obtain ⟨h', SY, e1, e2, e3, e4⟩ := ab2 hT sY L.ok hc (u := aC t y) (news := (rs.drop o).take (ys.length * τ.size)) (fun i z h1 _ => by rw [hu]; exact BO (e := e') h1 (by omega) hr (Nat.le_refl _) hl rfl rfl) cM hp dJ; refine ⟨_, h', .raw (.slice (some ⟨h.next, 0, none⟩) (xs.length + ys.length) 0), _, ⟨_, rfl, rfl⟩, Made.head L e2 (fun b hb => .inr (by simp [cW] at hb; omega)) (by simp [cW]) fun hN => ?_, rfl, bR _ _ e1⟩; exact .inr ⟨h.next, SY, true, by rw [List.length_append], List.mem_append_left _ (by rw [bE]; simp [cW]), e3, e4 _ hN⟩
    obtain rfl : ys = [] := List.eq_nil_of_length_eq_zero (by omega); refine ⟨w, h, .raw w, _, ⟨w, rfl, rfl⟩, ?_, rfl, bR _ _ (WQ hT sY hc h2 (by simpa using dJ))⟩; rw [List.append_nil]
    exact Made.same L (cO.refl _ _)⟩
theorem J.app {xs ys : List τ.den} (hx : aY fl x = some (.raw w)) (hy : aY fl y = some (.v (.sl τ) ys)) (hT : eX P T e τ) (sY : eX P T' e τ) (dJ : xs.length + ys.length <= 1000000) (hk : ∀ w', J P orc ops n l ((d, .raw w') :: fl) ((w', .row e τ (xs ++ ys)) :: σ) K)
    (hw : cX ops fl g = some true := by rfl) (hn : (Nat.blt d n && Nat.ble n 4000) = true := by rfl) :
    J P orc ops n (⟨some d, .call { callee := .builtin .append, args := #[x, y], argTypes := #[T, T'] }, ty, pos, after, g⟩ :: l) fl ((w, .row e τ xs) :: σ) K :=
  J.mk (cA.app hT sY hx hy dJ) (by rintro _ _ ⟨w', rfl, rfl⟩; exact hk w') hw hn
theorem cA.u6 {xs : List τ.den} {dx : τ.den} {j : Nat} (hT : fL P T τ) (hj : j < xs.length) (hx : aY fl x = some (.raw (iO w τ.size j))) (hy : aY fl y = some (.v τ dx)) :
    cA P fl ((w, .row T τ xs) :: σ) (.store T x y) fun v aQ => v = .raw undef /\ aQ = (w, .row T τ (xs.set j dx)) :: σ :=
  ⟨rfl, fun S0 h t L => by
    have h1 : aC t x = iO w τ.size j := eH L.aH hx; have hu := (eH L.aH hy : aG h _ τ (aC t y) dx); rcases L.cells _ List.mem_cons_self with ⟨_, rfl⟩ | ⟨b, rs, m, h3, h4, h5, h6⟩
    . simp at hj
    have hw : w = _ := h3; have N6 : (j + 1) * τ.size <= xs.length * τ.size := Nat.mul_le_mul_right _ hj; rw [Nat.add_mul, Nat.one_mul] at N6; have CJ := h6.1; obtain ⟨i, hi, hs⟩ := hT.info; have hul : (aC t y).cells.toList.length = τ.size := hu.2.len
    have pY : cW w = [b] := by rw [hw]; rfl
    refine ⟨undef, h.set b (.row T (cU rs (j * τ.size) (aC t y).cells.toList) true m), .raw undef, _, ⟨rfl, rfl⟩, Made.head L (cO.set h5 (by rw [pY]; simp)) (fun b hb => .inl hb) (by rw [pY]; simp) fun hN => ?_, rfl, fun _ _ _ _ _ => ?_⟩
    . refine .inr ⟨b, _, m, by rw [List.length_set]; exact h3, ?_, by rw [aA.cZ h5, if_pos rfl], (WK h6 hj hu.2).nx hN⟩; rw [bE]; exact List.mem_append_left _ (List.mem_append_left _ (by rw [pY]; simp))
    show (mH P T (aC t x) (aC t y) h).map _ = _
    have : mH P T (aC t x) (aC t y) h = some (h.set b (.row T (cU rs (j * τ.size) (aC t y).cells.toList) true m)) := by
      rw [h1, hw]; simp only [mH, iO, h5, hi, hs, hul, hu.2.oC, Nat.zero_add]; rw [if_pos ⟨trivial, by omega, trivial⟩]
    rw [this]; rfl⟩
theorem J.u6 {xs : List τ.den} {dx : τ.den} (j : Nat) (hx : aY fl x = some (.raw (iO w τ.size j))) (hy : aY fl y = some (.v τ dx)) (hT : fL P T τ) (hj : j < xs.length) (hk : J P orc ops n l fl ((w, .row T τ (xs.set j dx)) :: σ) K) (hw : cX ops fl g = some true := by rfl) :
    J P orc ops n (⟨none, .store T x y, ty, pos, after, g⟩ :: l) fl ((w, .row T τ xs) :: σ) K :=
  J.rJ (cA.u6 hT hj hx hy) (by rintro _ _ ⟨rfl, rfl⟩; exact hk) hw
theorem bA.take : ∀ {l : List PV} {us : List Value} (k : Nat), bA h S l us -> bA h S (l.take k) (us.take k)
  | [], us, k, hx => by rw [show us = [] from hx]; simp [bA]
  | p :: ps, us, 0, hx => by simp [bA]
  | p :: ps, us, k + 1, ⟨u, r, h1, h2, h3⟩ => by subst h1; exact ⟨u, r.take k, rfl, h2, bA.take k h3⟩
theorem bA.drop : ∀ {l : List PV} {us : List Value} (k : Nat), bA h S l us -> bA h S (l.drop k) (us.drop k)
  | [], us, k, hx => by rw [show us = [] from hx]; simp [bA]
  | p :: ps, us, 0, hx => hx
  | p :: ps, us, k + 1, ⟨u, r, h1, h2, h3⟩ => by subst h1; exact bA.drop k h3
def GD (l : List PV) (o : Nat) (new : List PV) : List PV := l.take o ++ (new ++ l.drop (o + new.length))
theorem bA.GD {l new : List PV} {us vs : List Value} (o : Nat) (hl : bA h S l us) (hn : bA h S new vs) : bA h S (GD l o new) (cU us o vs) := by
  unfold Fs.GD cU; rw [List.append_assoc, <- hn.len]; exact (hl.take o).append (hn.append (hl.drop _))
theorem yM {us vs : List Value} (o : Nat) (h1 : us.all aU = true) (h2 : vs.all aU = true) : (cU us o vs).all aU = true := by
  unfold cU; rw [List.all_append, List.all_append, h2]; have a1 : (us.take o).all aU = true := List.all_eq_true.2 fun x hx => List.all_eq_true.1 h1 x (List.mem_of_mem_take hx); have a2 : (us.drop (o + vs.length)).all aU = true := List.all_eq_true.2 fun x hx => List.all_eq_true.1 h1 x (List.mem_of_mem_drop hx); rw [a1, a2]; rfl
def PV.one : PV -> Bool
  | .v τ _ => !τ.agg
  | .raw u => aU u
  | .p _ _ => true
  | .mF _ _ _ => true
  | _ => false
theorem ab3 : ∀ {p : PV} {u : Value}, p.one = true -> aJ h S p u -> aU u = true
  | .v τ x, u, h1, hu => by
    have ha : τ.agg = false := by simpa [PV.one] using h1
    have h2 := hu.2.oC; rw [cells_one (hu.1.trans ha)] at h2
    simpa using h2
  | .raw w, u, h1, hu => by
    obtain rfl : u = w := hu
    exact h1
  | .p τ x, u, _, hu => by
    obtain ⟨b, o, e, rs, own, more, rfl, _⟩ := hu
    rfl
  | .mF f a c, u, _, hu => by
    obtain ⟨va, vc, rfl, _⟩ := hu; rfl
theorem KW : ∀ {cs : List PV} {us : List Value}, cs.all PV.one = true -> bA h S cs us -> us.all aU = true
  | [], us, _, hu => by rw [show us = [] from hu]; rfl
  | p :: ps, us, h1, ⟨u, r, h2, h3, h4⟩ => by
    rw [List.all_cons, Bool.and_eq_true] at h1; rw [h2, List.all_cons, ab3 h1.1 h3, KW h1.2 h4]; rfl
inductive lH : Ty -> PV -> List PV -> Prop where
  | v {τ : Ty} {x : τ.den} : lH τ (.v τ x) (jB τ x)
  | raw {τ : Ty} {u : Value} (ha : τ.agg = false) (h1 : gI u = false) (h2 : aU u = true) : lH τ (.raw u) [.raw u]
  | mF {τ : Ty} {f : FuncId} {a c : List PV} (ha : τ.agg = false) : lH τ (.mF f a c) [.mF f a c]
  | p {τ τ' : Ty} {x : τ'.den} (ha : τ.agg = false) : lH τ (.p τ' x) [.p τ' x]
  | agg {τ : Ty} {us : List Value} {cs : List PV} (hl : us.length = τ.size) (h1 : us.all aU = true) (hr : ∀ h S, bA h S cs us) : lH τ (.raw (.agg us.toArray)) cs
  | aiO {τ : Ty} {cs : List PV} (hl : cs.length = τ.size) (h1 : cs.all PV.one = true) : lH τ (.agg cs) cs
theorem lH.ok {p : PV} {cs : List PV} (hc : lH τ p cs) {u : Value} (hu : aJ h S p u) : bA h S cs u.cells.toList /\ u.cells.toList.length = τ.size /\ u.cells.toList.all aU = true := by
  cases hc with
  | v =>
    have hr := hu.2
    exact ⟨oW hr, hr.len, hr.oC⟩
  | raw ha h1 h2 =>
    obtain rfl : u = _ := hu; rw [cells_one h1]
    exact ⟨⟨u, [], rfl, rfl, rfl⟩, by rw [Ty.sB ha]; rfl, by simp [h2]⟩
  | mF ha =>
    have FN := hu; obtain ⟨va, vc, rfl, _⟩ := hu
    exact ⟨⟨_, [], rfl, FN, rfl⟩, by rw [Ty.sB ha]; rfl, rfl⟩
  | p ha =>
    have FN := hu; obtain ⟨b, o, e, rs, own, more, rfl, _⟩ := hu
    exact ⟨⟨_, [], rfl, FN, rfl⟩, by rw [Ty.sB ha]; rfl, rfl⟩
  | agg hl h1 hr =>
    obtain rfl : u = _ := hu
    exact ⟨hr h S, hl, h1⟩
  | aiO hl h1 =>
    obtain ⟨vs, rfl, h2⟩ := hu; exact ⟨h2, by rw [<- hl]; exact h2.len, KW h1 h2⟩
theorem cA.u7 {cs new : List PV} {p : PV} {k : Nat} {q : Value} (hT : fL P T τ) (hp : lH τ p new) (hkl : k + τ.size <= cs.length) (hq : q = sQ w k \/ (k = 0 /\ q = w)) (hx : aY fl x = some (.raw q)) (hy : aY fl y = some p) :
    cA P fl ((w, .var cs) :: σ) (.store T x y) fun v aQ => v = .raw undef /\ aQ = (w, .var (GD cs k new)) :: σ :=
  ⟨rfl, fun S0 h t L => by
    have h1 : aC t x = q := eH L.aH hx; obtain ⟨hu1, hu2, hu3⟩ := hp.ok (eH L.aH hy); obtain ⟨b, e, vs, h3, h4, h5, h6, h7⟩ := L.cells _ List.mem_cons_self; have hw : w = _ := h3; have PO := h6.len; obtain ⟨i, hi, hs⟩ := hT.info
    have pY : cW w = [b] := by rw [hw]; rfl
    refine ⟨undef, h.set b (.row e (cU vs k (aC t y).cells.toList) true false), .raw undef, _, ⟨rfl, rfl⟩, Made.head L (cO.set h5 (by rw [pY]; simp)) (fun b hb => .inl hb) (by rw [pY]; simp) fun hN => ?_, rfl, fun _ _ _ _ _ => ?_⟩
    . refine ⟨b, e, _, h3, ?_, by rw [aA.cZ h5, if_pos rfl], (h6.GD k hu1).nx hN, yM k h7 hu3⟩; rw [bE]; exact List.mem_append_left _ (List.mem_append_left _ (by rw [pY]; simp))
    show (mH P T (aC t x) (aC t y) h).map _ = _
    have hqq : q = .pointer (some ⟨b, k, none⟩) := by
      rcases hq with hq | ⟨iI, hq⟩
      . rw [hq, hw]; simp [sQ]
      rw [hq, hw, iI]
    have : mH P T (aC t x) (aC t y) h = some (h.set b (.row e (cU vs k (aC t y).cells.toList) true false)) := by
      rw [h1, hqq]; simp only [mH, h5, hi, hs, hu2, hu3]; rw [if_pos ⟨trivial, by omega, trivial⟩]
    rw [this]; rfl⟩
theorem J.u7 {cs new cs' : List PV} {p : PV} (k : Nat) (hT : fL P T τ) (hp : lH τ p new) (hk : J P orc ops n l fl ((w, .var cs') :: σ) K) (hkl : Nat.ble (k + τ.size) cs.length = true := by rfl) (hx : aY fl x = some (.raw (sQ w k)) := by rfl) (hy : aY fl y = some p := by rfl) (hc : GD cs k new = cs' := by rfl) (hw : cX ops fl g = some true := by rfl) :
    J P orc ops n (⟨none, .store T x y, ty, pos, after, g⟩ :: l) fl ((w, .var cs) :: σ) K :=
  J.rJ (cA.u7 hT hp (fP hkl) (.inl rfl) hx hy) (by rintro _ _ ⟨rfl, rfl⟩; rw [hc]; exact hk) hw
theorem J.iJ {cs new cs' : List PV} {p : PV} (hT : fL P T τ) (hp : lH τ p new) (hk : J P orc ops n l fl ((w, .var cs') :: σ) K) (hkl : Nat.ble (0 + τ.size) cs.length = true := by rfl) (hx : aY fl x = some (.raw w) := by rfl) (hy : aY fl y = some p := by rfl) (hc : GD cs 0 new = cs' := by rfl) (hw : cX ops fl g = some true := by rfl) :
    J P orc ops n (⟨none, .store T x y, ty, pos, after, g⟩ :: l) fl ((w, .var cs) :: σ) K :=
  J.rJ (cA.u7 hT hp (fP hkl) (.inr ⟨rfl, rfl⟩) hx hy) (by rintro _ _ ⟨rfl, rfl⟩; rw [hc]; exact hk) hw
end Go.Fs
namespace Go.Fs
variable {P : Program} {orc : FuncId -> List Value -> aA -> Option (Value × aA)} {b7 : Option Nat} {h h' h0 h1 h2 : aA} {S S' S0 B G : List Nat} {σ aQ oI : aX} {t t' : Tr} {ms : List Nat} {fl : VL} {ops : Array Oper} {n i mem : Nat} {l : List Oper} {K : VL -> aX -> Prop} {Q : Ex -> VL -> aX -> Prop}
  {d : Tmp} {ty : TypeId} {pos : String} {after : Array Edge} {op : Op} {v pv : PV} {g : Option (Nat × Bool)} {x y z : Operand} {T T' e : TypeId} {τ τ' : Ty} {bs nw : List Nat} {segs : List (Nat × Nat × Nat)} {tail so : Bool} {w w' : Value} {c c' : Cell}
def A2 (P : Program) (fl : VL) (op : Op) (v : PV) : Prop := calm op = false /\ ∀ (h : aA) (S : List Nat) (t : Tr), E5 h S t fl op -> mZ h -> (∀ b ∈ S, b < h.next) ->
  ∃ (mk : Nat -> Value) (o : bB), aJ (h.push o) S v (mk h.next) /\ ∀ (H : aA) (d : Option Tmp) (ty : TypeId) (pos : String) (after : Array Edge) (g : Option (Nat × Bool)), fH P ⟨d, op, ty, pos, after, g⟩ (aC t) H = some (mk H.next, H.push o)
def gZ (P : Program) (fl : VL) (op : Op) (c : Cell) : Prop := calm op = false /\ ∀ (h : aA) (S : List Nat) (t : Tr), E5 h S t fl op -> mZ h -> (∀ b ∈ S, b < h.next) ->
  ∃ (mk : Nat -> Value) (o : bB), (∀ k, cW (mk k) = [k]) /\ (∀ S', cV h S (h.push o) S' -> h.next ∈ S' -> bS (h.push o) S' (mk h.next) c) /\ ∀ (H : aA) (d : Option Tmp) (ty : TypeId) (pos : String) (after : Array Edge) (g : Option (Nat × Bool)), fH P ⟨d, op, ty, pos, after, g⟩ (aC t) H = some (mk H.next, H.push o)
theorem J.new (hs : A2 P fl op v) (hk : J P orc ops n l ((d, v) :: fl) σ K) (hw : cX ops fl g = some true := by rfl) (hn : (Nat.blt d n && Nat.ble n 4000) = true := by rfl) : J P orc ops n (⟨some d, op, ty, pos, after, g⟩ :: l) fl σ K := fun h0 G S0 t h ms I => by
  have L := I.lc; obtain ⟨mk, o, e1, e2⟩ := hs.2 h _ t I.aH.r8 I.ok L.lt; obtain ⟨n1, n2⟩ := fits hn; exact mC.op (cH I.aH hw) (e2 h _ _ _ _ _) (bV n1 t _) (hk h0 G S0 _ _ ms ((I.calm (cO.push h o [])).set e1 n2))
theorem J.cell (hs : gZ P fl op c) (hk : ∀ w, J P orc ops n l ((d, .raw w) :: fl) ((w, c) :: σ) K) (hw : cX ops fl g = some true := by rfl) (hn : (Nat.blt d n && Nat.ble n 4000) = true := by rfl) : J P orc ops n (⟨some d, op, ty, pos, after, g⟩ :: l) fl σ K := fun h0 G S0 t h ms I => by
  have L := I.lc; obtain ⟨mk, o, e0, e1, e2⟩ := hs.2 h _ t I.aH.r8 I.ok L.lt; obtain ⟨n1, n2⟩ := fits hn; have m : Made S0 h (h.push o) σ ((mk h.next, c) :: σ) := Made.cons L (cO.push h o []) (fun b hb => by rw [e0] at hb; simp at hb; omega) (by rw [e0]; simp) fun hN => e1 _ hN (by rw [bE, e0]; simp); exact mC.op (cH I.aH hw) (e2 h _ _ _ _ _) (bV n1 t _) (hk (mk h.next) h0 G S0 _ _ ms ((I.made m).set (show aJ _ _ (.raw (mk h.next)) (mk h.next) from rfl) n2))
theorem OD : ∀ {L : List (Nat × bB)} {k : Nat} {o : bB}, (k, o) ∈ L -> ∃ o', look L k = some o'
  | [], _, _, h => by cases h
  | (k', o') :: r, k, o, h => by
    by_cases yN : k' = k
    . exact ⟨o', by simp [look, yN]⟩
    rcases List.mem_cons.1 h with h | h
    . simp only [Prod.mk.injEq] at h; exact absurd h.1.symm yN
    obtain ⟨o2, h2⟩ := OD h; exact ⟨o2, by simp only [look, eD yN, cond_false, h2]⟩
theorem yO {m : Nat} {L : List (Nat × bB)} {o : bB} (hL : ∀ b o, look L b = some o -> b < m) : bH m (m + 1) ((m, o) :: L) = [(m, o)] := by
  unfold bH; rw [eD (show m ≠ m + 1 by omega)]; simp only [cond_false]; rw [List.filter_cons]
  have e1 : inside m (m + 1) (m, o) = true := by
    unfold inside
    have : Nat.blt m (m + 1) = true := by show Nat.ble (m + 1) (m + 1) = true; exact qI _
    simp only [qI, this, Bool.and_self]
  rw [if_pos e1]; congr 1; refine List.filter_eq_nil_iff.2 fun p hp vC => ?_; obtain ⟨k, o2⟩ := p
  have C1 : m <= k := by
    unfold inside at vC; exact fP (b6 vC).1
  obtain ⟨o', qB⟩ := OD hp; have := hL k o' qB; omega
theorem HC {b : Nat} {o : Oper} {ob : bB} {mk : Nat -> Value} {M : aA} (hM : p9 o ⟨t, h, bs, segs, mem, tail⟩ = M) (ae6 : mZ M) (hMn : M.next = h.next) (hMl : M.low = h.next) (hb : aP bs o = b) (hd : o.dst = some d) (wF : calm o.op = false) (hw : bJ ops t o = some true)
    (nI : (tail && !Nat.beq (mem &&& b) mem) = false) (bR : fH P o (aC t) M = some (mk M.next, M.push ob)) (n1 : Nat.blt d n = true) :
    gH (fH P) ops n o i ⟨t, h, bs, segs, mem, tail⟩ = some ⟨t.set depth d (mk h.next), h.push ob, bs ++ [b], (i, h.next, h.next + 1) :: segs, mem ||| 2 ^ i, tail⟩ := by
  unfold gH
  have hM' : ({ next := h.next, low := h.next, aB := bif Nat.beq (mem &&& b) mem then h.aB else mask b segs h.aB } : aA) = M := by
    rw [<- hM]; unfold p9; simp only [hb]
  simp only [hw, wF, Bool.false_eq_true, if_false, hb, nI, cond_false, hM', bR]; have bL : Nat.blt (h.next + 1) h.next = false := l6 (Nat.le_succ _)
  have e1 : bH h.next (h.next + 1) ((M.next, ob) :: M.aB) = [(h.next, ob)] := by
    rw [hMn]
    exact yO fun b o hg => by have := ae6 b o hg; omega
  simp only [aA.push, hMn, hMl, bL, cond_false, hd, bV n1, qI, cond_true]; rw [hMn] at e1; rw [e1]; rfl
theorem VD.new {b : Nat} (hs : A2 P fl op v) (hk : VD P orc ops n l (i + 1) ((d, v) :: fl) (fM false d nw) σ so (bs ++ [b]) (mem ||| 2 ^ i) tail K)
    (hb : aP bs ⟨some d, op, ty, pos, after, g⟩ = b := by rfl) (nI : (tail && !Nat.beq (mem &&& b) mem) = false := by rfl) (hw : cX ops fl g = some true := by rfl) (hn : (Nat.blt d n && Nat.ble n 4000) = true := by rfl) :
    VD P orc ops n (⟨some d, op, ty, pos, after, g⟩ :: l) i fl nw σ so bs mem tail K := fun h0 G S0 t h ms segs I ho => by
  obtain ⟨n1, n2⟩ := fits hn; obtain ⟨M, m1, m2, m3, m4, m5, m6, m7⟩ := sW (mem := mem) I hb ho; obtain ⟨mk, o, e1, e2⟩ := hs.2 h _ t I.aH.r8 I.ok I.lc.lt; refine sH.op (HC m1 m2 m3 m4 hb rfl hs.1 (cH I.aH hw) nI (e2 M _ _ _ _ _) n1) (hk h0 G S0 _ _ ms _ ((I.calm (cO.push h o [])).set e1 n2) fun ht => ?_); exact ((ho ht).set (old := false) n2 fun e => by cases e).next (eW.push h o) (Nat.le_refl _)
theorem VD.cell {b : Nat} (hs : gZ P fl op c) (hk : ∀ w, VD P orc ops n l (i + 1) ((d, .raw w) :: fl) (fM false d nw) ((w, c) :: σ) false (bs ++ [b]) (mem ||| 2 ^ i) tail K)
    (hb : aP bs ⟨some d, op, ty, pos, after, g⟩ = b := by rfl) (nI : (tail && !Nat.beq (mem &&& b) mem) = false := by rfl) (hw : cX ops fl g = some true := by rfl) (hn : (Nat.blt d n && Nat.ble n 4000) = true := by rfl) :
    VD P orc ops n (⟨some d, op, ty, pos, after, g⟩ :: l) i fl nw σ so bs mem tail K := fun h0 G S0 t h ms segs I ho => by
  obtain ⟨n1, n2⟩ := fits hn; obtain ⟨M, m1, m2, m3, m4, m5, m6, m7⟩ := sW (mem := mem) I hb ho; obtain ⟨mk, o, e0, e1, e2⟩ := hs.2 h _ t I.aH.r8 I.ok I.lc.lt; have hm : Made S0 h (h.push o) σ ((mk h.next, c) :: σ) := Made.cons I.lc (cO.push h o []) (fun b hb => by rw [e0] at hb; simp at hb; omega) (by rw [e0]; simp) fun hN => e1 _ hN (by rw [bE, e0]; simp); refine sH.op (HC m1 m2 m3 m4 hb rfl hs.1 (cH I.aH hw) nI (e2 M _ _ _ _ _) n1) (hk (mk h.next) h0 G S0 _ _ ms _ ((I.made hm).set (show aJ _ _ (.raw (mk h.next)) (mk h.next) from rfl) n2) fun ht => ?_)
  obtain ⟨E9, a1, a2, a3, a4, a5, a6⟩ := (ho ht).set (v := .raw (mk h.next)) (u := mk h.next) (old := false) n2 fun e => by cases e
  refine ⟨E9, a1, a2.trans (eW.push h o), lX.cons (by have := a2.next; omega) a3, a4, fun k pv hk hn => (a5 k pv hk hn).nx (h := E9) fun b ob hg hb => ⟨hg, ?_⟩, fun e => by cases e⟩; have := a1 b ob hg; have := a2.next; rw [bE, e0]; intro sZ; simp only [List.cons_append, List.nil_append, List.mem_cons] at sZ; rcases sZ with sZ | sZ
  . omega
  exact hb sZ
theorem KX {b : Nat} {o : Oper} {u : Value} {t2 : Tr} (hb : aP bs o = b) (hp : put n t o.dst u = some t2) (wF : calm o.op = false) (hw : bJ ops t o = some true) (iW : Nat.beq (mem &&& b) mem = true) (bW : mZ h) (bR : fH P o (aC t) (entry h) = some (u, h')) (hB : cO (entry h) h' B) :
    ∃ h2 oK, gH (fH P) ops n o i ⟨t, h, bs, segs, mem, tail⟩ = some ⟨t2, h2, bs ++ [b], (i, h.next, h'.next) :: segs, mem ||| 2 ^ i, oK⟩ /\ (∀ b, h2.get b = h'.get b) /\ h2.next = h'.next /\ cO h h2 B /\ (oK = false -> eW h h2 /\ tail = false) := by
  have j6 := hB.next; have aeA : Nat.blt h'.next h.next = false := l6 j6; unfold gH
  have hM' : ({ next := h.next, low := h.next, aB := bif Nat.beq (mem &&& b) mem then h.aB else mask b segs h.aB } : aA) = entry h := by
    rw [iW]; rfl
  simp only [hw, wF, Bool.false_eq_true, if_false, hb, iW, Bool.not_true, Bool.and_false, cond_false]; simp only [iW] at hM'; rw [hM', bR]; simp only [aeA, cond_false, hp]
  cases dV : Nat.ble h.next h'.low with
  | true =>
    have hl := fP dV
    have k8 : ∀ b, b < h.next -> h'.get b = h.get b := fun b hb => by
      rcases hB.chg b hb with h3 | h3
      . exact h3
      omega
    have jE : ∀ b, look (bH h.next h'.next h'.aB ++ h.aB) b = h'.get b := fun b => by
      rw [iN]; by_cases hb : b < h.next
      . cases lS : look (bH h.next h'.next h'.aB) b with
        | some o => have := (eO _ _ _ lS).1; omega
        | none => exact (k8 b hb).symm
      have hold : look h.aB b = none := by
        cases lS : look h.aB b with
        | none => rfl
        | some o => exact absurd (bW b o lS) hb
      rw [hold, Option.or_none]
      cases lS : look h'.aB b with
      | some o =>
        have : b < h'.next := hB.ok bW b o lS; rw [zW _ _ (by omega) this, lS]
        exact lS.symm
      | none =>
        cases hl3 : look (bH h.next h'.next h'.aB) b with
        | none => exact lS.symm
        | some o => rw [(eO _ _ _ hl3).2] at lS; cases lS
    refine ⟨_, _, rfl, jE, rfl, ⟨j6, fun b hb hn => (jE b).trans (hB.get b hb hn), fun _ b o hg => ?_, fun e h3 _ _ => h3, fun b hb => .inl ((jE b).trans (k8 b hb)), Nat.le_refl _⟩, fun ht => ⟨⟨j6, fun b hb => (jE b).trans (k8 b hb), fun _ b o hg => ?_, fun e h3 _ => h3⟩, ht⟩⟩
    . exact hB.ok bW b o ((jE b).symm.trans hg)
    exact hB.ok bW b o ((jE b).symm.trans hg)
  | false =>
    refine ⟨_, _, rfl, fun _ => rfl, rfl, ⟨j6, hB.get, fun _ => hB.ok bW, fun e h3 h4 h5 => Nat.le_min.2 ⟨h3, hB.low e h4 h4 h5⟩, fun b hb => ?_, Nat.min_le_left _ _⟩, fun e => by cases e⟩; rcases hB.chg b hb with h3 | h3
    . exact .inl h3
    exact .inr (Nat.le_trans (Nat.min_le_right _ _) h3)
theorem CM (m : Made S0 (entry h) h' σ aQ) (hg : ∀ b, h2.get b = h'.get b) (ha : cO h h2 (own σ)) : Made S0 h h2 σ aQ := ⟨ha, m.new, m.apart, fun c hc => (m.cells c hc).aW (fun b _ => hg b) (cV.aB hg) fun b hb => List.mem_append_left _ (List.mem_flatMap.2 ⟨c, hc, hb⟩)⟩
theorem VD.mk {b : Nat} {Tt : PV -> aX -> Prop} (hs : cA P fl σ op Tt) (hk : ∀ v aQ oK, Tt v aQ -> VD P orc ops n l (i + 1) ((d, v) :: fl) (fM false d nw) aQ false (bs ++ [b]) (mem ||| 2 ^ i) oK K)
    (hb : aP bs ⟨some d, op, ty, pos, after, g⟩ = b := by rfl) (iW : Nat.beq (mem &&& b) mem = true := by rfl) (hw : cX ops fl g = some true := by rfl) (hn : (Nat.blt d n && Nat.ble n 4000) = true := by rfl) :
    VD P orc ops n (⟨some d, op, ty, pos, after, g⟩ :: l) i fl nw σ so bs mem tail K := fun h0 G S0 t h ms segs I ho => by
  obtain ⟨n1, n2⟩ := fits hn; have Le := I.lc.aB (h' := entry h) (fun _ => rfl) rfl; obtain ⟨u, h', v, aQ, e1, e2, e3, e4⟩ := hs.2 S0 (entry h) t Le; obtain ⟨h2, oK, f1, f2, f3, f4, f5⟩ := KX (i := i) (segs := segs) (tail := tail) hb (bV n1 t u) hs.1 (cH I.aH hw) iW I.ok (e4 (some d) ty pos after g) e2.gC; have I2 := (I.made (CM e2 f2 f4)).set (e3.nx (cV.aB f2)) n2; refine sH.op f1 (hk v aQ oK e1 h0 G S0 _ _ ms _ I2 fun ht => ?_); obtain ⟨f6, f7⟩ := f5 ht
  obtain ⟨E9, a1, a2, a3, a4, a5, a6⟩ := (ho f7).set (v := v) (u := u) (old := false) n2 fun e => by cases e
  refine ⟨E9, a1, a2.trans f6, lX.cons a2.next a3, a4, fun k pv hk hn => (a5 k pv hk hn).nx (h := E9) fun b ob hg hb => ⟨hg, ?_⟩, fun e => by cases e⟩; have h3 := a1 b ob hg; have h4 := a2.next; intro sZ; rcases List.mem_append.1 sZ with sZ | sZ
  . rcases e2.new b sZ with h5 | h5
    . exact hb (List.mem_append_left _ h5)
    have : (entry h).next = h.next := rfl; omega
  exact hb (List.mem_append_right _ sZ)
theorem VD.rJ {b : Nat} {Tt : PV -> aX -> Prop} (hs : cA P fl σ op Tt) (hk : ∀ v aQ oK, Tt v aQ -> VD P orc ops n l (i + 1) fl nw aQ false (bs ++ [b]) (mem ||| 2 ^ i) oK K)
    (hb : aP bs ⟨none, op, ty, pos, after, g⟩ = b := by rfl) (iW : Nat.beq (mem &&& b) mem = true := by rfl) (hw : cX ops fl g = some true := by rfl) :
    VD P orc ops n (⟨none, op, ty, pos, after, g⟩ :: l) i fl nw σ so bs mem tail K := fun h0 G S0 t h ms segs I ho => by
  have Le := I.lc.aB (h' := entry h) (fun _ => rfl) rfl; obtain ⟨u, h', v, aQ, e1, e2, e3, e4⟩ := hs.2 S0 (entry h) t Le; obtain ⟨h2, oK, f1, f2, f3, f4, f5⟩ := KX (n := n) (i := i) (segs := segs) (tail := tail) (o := ⟨none, op, ty, pos, after, g⟩) hb (O0 n t u) hs.1 (cH I.aH hw) iW I.ok (e4 none ty pos after g) e2.gC; have I2 := I.made (CM e2 f2 f4); refine sH.op f1 (hk v aQ oK e1 h0 G S0 _ _ ms _ I2 fun ht => ?_); obtain ⟨f6, f7⟩ := f5 ht; obtain ⟨E9, a1, a2, a3, a4, a5, a6⟩ := ho f7; refine ⟨E9, a1, a2.trans f6, lX.cons a2.next a3, a4, fun k pv hk hn => (a5 k pv hk hn).nx (h := E9) fun b ob hg hb => ⟨hg, ?_⟩, fun e => by cases e⟩; have h3 := a1 b ob hg; have h4 := a2.next; intro sZ; rcases List.mem_append.1 sZ with sZ | sZ
  . rcases e2.new b sZ with h5 | h5
    . exact hb (List.mem_append_left _ h5)
    have : (entry h).next = h.next := rfl; omega
  exact hb (List.mem_append_right _ sZ)
end Go.Fs
namespace Go.Fs
variable {P : Program} {orc : FuncId -> List Value -> aA -> Option (Value × aA)} {b7 : Option Nat} {h h' h0 h1 h2 : aA} {S S' S0 B G : List Nat} {σ aQ oI : aX} {t t' : Tr} {ms : List Nat} {fl : VL} {ops : Array Oper} {n i mem : Nat} {l : List Oper} {K : VL -> aX -> Prop} {Q : Ex -> VL -> aX -> Prop}
  {d : Tmp} {ty : TypeId} {pos : String} {after : Array Edge} {op : Op} {v pv : PV} {g : Option (Nat × Bool)} {x y z : Operand} {T T' e : TypeId} {τ τ' : Ty} {bs nw : List Nat} {segs : List (Nat × Nat × Nat)} {tail so : Bool} {w w' : Value} {c c' : Cell}
theorem wU {fl : VL} : ∀ {l : List Operand} {vs : List PV}, (∀ x ∈ l, ∀ pv, aY fl x = some pv -> aJ h S pv (aC t x)) -> mM fl l = some vs -> bA h S vs (l.map (aC t))
  | [], vs, _, hx => by obtain rfl := Option.some.inj hx; rfl
  | x :: r, vs, hq, hx => by
    simp only [mM] at hx; split at hx
    . rename_i v Q8 hv y4; obtain rfl := Option.some.inj hx; exact ⟨_, _, rfl, hq x List.mem_cons_self _ hv, wU (fun y hy => hq y (List.mem_cons_of_mem _ hy)) y4⟩
    cases hx
theorem bA.vs : ∀ {xs : List τ.den} {us : List Value}, bA h S (xs.map (PV.v τ)) us -> us.length = xs.length /\ ∀ i (hi : i < us.length) (hx : i < xs.length), aG h S τ us[i] xs[i]
  | [], us, hx => ⟨by rw [show us = [] from hx]; rfl, fun i _ h => by simp at h⟩
  | a :: xs, us, ⟨u, r, h1, h2, h3⟩ => by
    subst h1; obtain ⟨e1, e2⟩ := bA.vs h3; refine ⟨by simp [e1], fun i hi hx => ?_⟩
    cases i with
    | zero => exact h2
    | succ i => exact e2 i (by simpa using hi) (by simpa using hx)
theorem ED : ∀ {ps : List (Nat × Operand)} {k : Nat}, ps.map (·.1) = List.range' k ps.length -> ps.map (fun p => (p.1, aC t p.2)) = lO k (ps.map fun p => aC t p.2)
  | [], k, _ => rfl
  | (i, x) :: r, k, hk => by
    simp only [List.map_cons, List.length_cons, List.range'_succ, List.cons.injEq] at hk; simp only [List.map_cons, lO, hk.1]; rw [ED hk.2]
theorem aeB {parts : Array (Nat × Operand)} {len : Nat} {xs : List τ.den} (hT : eX P T e τ) (hxs : mM fl (parts.toList.map (·.2)) = some (xs.map (PV.v τ))) (HD : parts.toList.map (·.1) = List.range' 0 parts.toList.length) (hl : len = xs.length) (hp : 0 < xs.length) (dJ : xs.length <= 1000) (IJ : τ.size <= 100) (hs : E5 h S t fl (.buildSlice T len parts)) :
    ∃ us : List Value, us.length = xs.length /\ cE h S τ (flat us) xs /\ ∀ (H : aA) (d : Option Tmp) (ty : TypeId) (pos : String) (after : Array Edge) (g : Option (Nat × Bool)), fH P ⟨d, .buildSlice T len parts, ty, pos, after, g⟩ (aC t) H = some (.slice (some ⟨H.next, 0, none⟩) xs.length 0, H.push (.row e (flat us) true false)) := by
  have hr : bA h S (xs.map (PV.v τ)) ((parts.toList.map (·.2)).map (aC t)) := wU (fun x hx => hs x (by simpa [Op.operands] using hx)) hxs; obtain ⟨e1, e2⟩ := bA.vs hr; refine ⟨_, e1, cE.flat _ xs e1 e2, fun H _ _ _ _ _ => ?_⟩; show iS P T len (parts.map fun p => (p.1, aC t p.2)) H = _
  have hpm : parts.map (fun p => (p.1, aC t p.2)) = (lO 0 ((parts.toList.map (·.2)).map (aC t))).toArray := by
    apply Array.toList_inj.1; rw [Array.toList_map, ED HD, List.map_map]; rfl
  have := ae5 hT e1 e2 (by intro e; rw [e] at e1; simp at e1; omega) (by omega) IJ H; rw [hpm, hl, <- e1]; exact this
theorem A2.lit {parts : Array (Nat × Operand)} {len : Nat} (xs : List τ.den) (hT : eX P T e τ) (hxs : mM fl (parts.toList.map (·.2)) = some (xs.map (PV.v τ)) := by rfl) (HD : parts.toList.map (·.1) = List.range' 0 parts.toList.length := by rfl) (hl : len = xs.length := by rfl) (hp : (Nat.blt 0 xs.length && Nat.ble xs.length 1000 && Nat.ble τ.size 100) = true := by rfl) : A2 P fl (.buildSlice T len parts) (.v (.sl τ) xs) :=
  ⟨rfl, fun h S t hs bW hS => by
    obtain ⟨p1, p2⟩ := b6 hp; obtain ⟨p0, p1⟩ := b6 p1; obtain ⟨us, e1, e2, e3⟩ := aeB hT hxs HD hl (jP p0) (fP p1) (fP p2) hs; refine ⟨fun k => .slice (some ⟨k, 0, none⟩) xs.length 0, .row e (flat us) true false, ?_, e3⟩; have hN : cV h S (h.push (.row e (flat us) true false)) S := (eW.push h _).nx bW
    exact ((e2.nx hN).slv (by rw [aA.bN, if_pos rfl]) fun hm => by have := hS _ hm; omega).rep⟩
theorem OE (hT : eX P T e τ) (H : aA) (d : Option Tmp) (ty : TypeId) (pos : String) (after : Array Edge) (g : Option (Nat × Bool)) : fH P ⟨d, .buildSlice T 0 #[], ty, pos, after, g⟩ (aC t) H = some (.slice (some ⟨H.next, 0, none⟩) 0 0, H.push (.row e [] true false)) := by
  show iS P T 0 ((#[] : Array (Nat × Operand)).map fun p => (p.1, aC t p.2)) H = _; obtain ⟨i, z, nZ, lU, _⟩ := hT.sl.info; simp [iS, hT.sl.sl, nZ]
theorem gZ.OF (hT : eX P T e τ) : gZ P fl (.buildSlice T 0 #[]) (.row e τ []) :=
  ⟨rfl, fun h S t hs bW hS => ⟨fun k => .slice (some ⟨k, 0, none⟩) 0 0, .row e [] true false, fun _ => rfl, fun S' hN hm => .inr ⟨h.next, [], false, rfl, hm, by rw [aA.bN, if_pos rfl], cE.nil⟩, OE hT⟩⟩
theorem A2.box {dx : τ.den} (hx : aY fl x = some (.v τ dx) := by rfl) : A2 P fl (.box e x) (.p τ dx) :=
  ⟨rfl, fun h S t hs bW hS => by
    have hu : aG h S τ (aC t x) dx := hs x (by simp [Op.operands]) _ hx; refine ⟨fun k => .pointer (some ⟨k, 0, none⟩), .row e (aC t x).cells.toList true false, ?_, fun H _ _ _ _ _ => ?_⟩
    . exact hu.box bW hS
    show uI e (aC t x) H = _; unfold uI
    rw [if_pos hu.2.oC]⟩
theorem gZ.box {p : PV} {cs : List PV} (hp : lH τ p cs) (hx : aY fl x = some p := by rfl) : gZ P fl (.box e x) (.var cs) :=
  ⟨rfl, fun h S t hs bW hS => by
    obtain ⟨h1, h2, h3⟩ := hp.ok (hs x (by simp [Op.operands]) _ hx); refine ⟨fun k => .pointer (some ⟨k, 0, none⟩), .row e (aC t x).cells.toList true false, fun _ => rfl, fun S' hN hm => ?_, fun H _ _ _ _ _ => ?_⟩
    . exact ⟨h.next, e, _, rfl, hm, by rw [aA.bN, if_pos rfl], h1.nx hN, h3⟩
    show uI e (aC t x) H = _; unfold uI
    rw [if_pos h3]⟩
def oL : (τ : Ty) -> τ.den
  | .int _ => (0 : Int)
  | .bool => false
  | .str => ByteArray.empty
  | .bQ _ => (0 : Nat)
  | .sl _ => []
  | .mp _ _ => []
  | .fn => none
  | .jT => none
  | .pair a b => (oL a, oL b)
  | .unit => ()
def pK : Ty -> List Value
  | .int k => [.int k 0]
  | .bool => [.bool false]
  | .str => [.string ByteArray.empty]
  | .bQ k => [.float k 0]
  | .sl _ => [.slice none 0 0]
  | .mp _ _ => [.map none]
  | .fn => [.nilFunc]
  | .jT => [.slice none 0 0]
  | .pair a b => pK a ++ pK b
  | .unit => []
theorem nA (h : aA) (S : List Nat) : ∀ (τ : Ty), cR h S τ (pK τ) (oL τ) /\ (pK τ).all eF = true
  | .int _ => ⟨rfl, rfl⟩
  | .bool => ⟨rfl, rfl⟩
  | .str => ⟨rfl, rfl⟩
  | .bQ _ => ⟨rfl, rfl⟩
  | .sl _ => ⟨⟨_, rfl, .inl ⟨rfl, rfl⟩⟩, rfl⟩
  | .mp _ _ => ⟨⟨_, rfl, .inl ⟨rfl, rfl⟩⟩, rfl⟩
  | .fn => ⟨rfl, rfl⟩
  | .jT => ⟨rfl, rfl⟩
  | .unit => ⟨rfl, rfl⟩
  | .pair a b => by
    obtain ⟨a1, a2⟩ := nA h S a; obtain ⟨b1, b2⟩ := nA h S b; refine ⟨⟨?_, ?_⟩, ?_⟩
    . show cR h S a ((pK a ++ pK b).take a.size) _; rw [List.take_left' a1.len]; exact a1
    . show cR h S b ((pK a ++ pK b).drop a.size) _; rw [List.drop_left' a1.len]; exact b1
    show (pK a ++ pK b).all eF = true; rw [List.all_append, a2, b2]; rfl
structure lI (P : Program) (e : TypeId) (τ : Ty) : Prop where
  zero : ∃ z, (P.info? e).bind (·.zero) = some z /\ z.cells.toList = pK τ /\ gI z = τ.agg
theorem gR {z : Value} (hz : (P.info? e).bind (·.zero) = some z) (hc : z.cells.toList = pK τ) (ha : gI z = τ.agg) : lI P e τ := ⟨z, hz, hc, ha⟩
theorem GF {u : Value} (h : u.cells.toList.all eF = true) : af u = true /\ u.cells.toList.all aU = true := by
  refine ⟨?_, E3 h⟩
  cases u with
  | agg cs => exact h
  | tuple vs => simp [Value.cells, eF] at h
  | _ => simpa [Value.cells, af, pU] using h
theorem gZ.alloc (hZ : lI P e τ) : gZ P fl (.alloc e) (.var (jB τ (oL τ))) :=
  ⟨rfl, fun h S t hs bW hS => by
    obtain ⟨z, h1, h2, h3⟩ := hZ.zero; obtain ⟨z1, z2⟩ := nA h S τ; obtain ⟨a1, a2⟩ := GF (u := z) (by rw [h2]; exact z2); refine ⟨fun k => .pointer (some ⟨k, 0, none⟩), .row e z.cells.toList true false, fun _ => rfl, fun S' hN hm => ?_, fun H _ _ _ _ _ => ?_⟩
    . exact ⟨h.next, e, _, rfl, hm, by rw [aA.bN, if_pos rfl], by have := (oW z1).nx hN; rwa [<- h2] at this, a2⟩
    show (match (P.info? e).bind (·.zero) with | some z => if af z then uI e z H else none | none => none) = _; rw [h1]; simp only [a1, if_true]; unfold uI
    rw [if_pos a2]⟩
theorem yP {z : Value} (hz : 0 < z.cells.size) : ∀ n : Nat, fG z n = (List.replicate n z.cells.toList).flatten
  | 0 => by simp [fG]
  | n + 1 => by
    have ih := yP hz n; unfold fG at ih ⊢; rw [List.replicate_succ', List.flatten_append, <- ih, Nat.add_mul, Nat.one_mul, List.range_add, List.map_append]; congr 1; refine List.ext_getElem (by simp) fun i h1 h2 => ?_
    have hi : i < z.cells.size := by simpa using h1
    simp only [List.getElem_map, List.getElem_range, List.flatten_cons, List.flatten_nil, List.append_nil, List.map_map]
    have h3 : (n * z.cells.size + i) % z.cells.size = i := by rw [Nat.mul_comm, Nat.mul_add_mod, Nat.mod_eq_of_lt hi]
    simp only [Function.comp, List.getElem_range, h3]; rw [getElem!_pos z.cells i hi]; simp
theorem CN {cs : List Value} {dx : τ.den} (hx : cR h S τ cs dx) : ∀ n : Nat, cE h S τ (List.replicate n cs).flatten (List.replicate n dx)
  | 0 => cE.nil
  | n + 1 => by
    have h1 : cE h S τ cs [dx] := ⟨by simpa using hx.len, fun i hi => by
      obtain rfl : i = 0 := by simpa using hi
      simp only [Nat.zero_mul, List.drop_zero, List.getElem_cons_zero]; rw [List.take_of_length_le (by rw [hx.len]; exact Nat.le_refl _)]
      exact hx⟩
    have := h1.append (CN hx n); simpa [List.replicate_succ] using this
theorem gZ.make {k : Nat} (hx : aY fl x = some (.v (.int .i64) ((k : Nat) : Int))) (hy : aY fl y = some (.v (.int .i64) ((k : Nat) : Int))) (hT : eX P T e τ) (hZ : lI P e τ) (hk : k <= 1000000) : gZ P fl (.makeSlice T x y) (.row e τ (List.replicate k (oL τ))) :=
  ⟨rfl, fun h S t hs bW hS => by
    have u1 := aG.int (hs x (by simp [Op.operands]) _ hx); have u2 := aG.int (hs y (by simp [Op.operands]) _ hy); obtain ⟨z, h1, h2, h3⟩ := hZ.zero; obtain ⟨i, z', nZ, lU, EB, vJ, wT, EC, KV⟩ := hT.sl.info
    obtain rfl : z' = z := by
      rw [nZ] at h1; simpa [wT] using h1
    have nF := hT.sl.pos; refine ⟨fun m => .slice (some ⟨m, 0, none⟩) k 0, .row e (fG z' k) true false, fun _ => rfl, fun S' hN hm => ?_, fun H _ _ _ _ _ => ?_⟩
    . refine .inr ⟨h.next, _, false, by simp, hm, by rw [aA.bN, if_pos rfl], ?_⟩; rw [yP (by omega), h2]; exact CN (nA _ _ τ).1 k
    show p6 P T (aC t x) (aC t y) H = _; rw [u1, u2]; unfold p6; simp only [hT.sl.sl, nZ, wT]
    have hb : i.bytes * k <= 1099511627776 := by
      have := Nat.mul_le_mul vJ hk; omega
    have hc : (decide (0 <= ((k : Nat) : Int)) && decide (((k : Nat) : Int) <= ((k : Nat) : Int)) && decide (((k : Nat) : Int) <= 1099511627776) && Nat.ble (i.bytes * ((k : Nat) : Int).toNat) 1099511627776 && Nat.blt 0 i.size && Nat.beq z'.cells.size i.size && z'.cells.toList.all eF) = true := by
      have e1 : Nat.ble (i.bytes * ((k : Nat) : Int).toNat) 1099511627776 = true := by rw [Nat.ble_eq, Int.toNat_natCast]; exact hb
      have e2 : Nat.blt 0 i.size = true := by show Nat.ble 1 i.size = true; rw [Nat.ble_eq, lU]; exact nF
      rw [e1, e2, EC, lU, Nat.beq_refl, KV]; simp; omega
    rw [hc]
    rfl⟩
def HE (pl : List (Nat × Nat)) : List PV -> List Nat -> List PV -> Option (List PV)
  | L, [], [] => some L
  | L, i :: is, p :: ps => match pl[i]? with
    | some (o, s) => bif Nat.ble (o + s) L.length then
        (match p with
        | .v τ x => bif Nat.beq τ.size s then HE pl (GD L o (jB τ x)) is ps else none
        | .raw (.slice none 0 0) => bif Nat.beq s 1 then (match L[o]? with | some (.v (.sl _) []) => HE pl L is ps | _ => none) else none
        | _ => none)
      else none
    | none => none
  | _, _, _ => none
structure yQ (P : Program) (T : TypeId) (τ : Ty) (pl : List (Nat × Nat)) : Prop where
  zer : lI P T τ
  agg : τ.agg = true
  run : ∀ (z : Value) (parts : Array (Nat × Value)) (cs : Array Value), (P.info? T).bind (·.zero) = some z -> Instr.fill (pl[·]?) z.cells parts.toList = some cs -> aE P (Instr.build T parts) = some (.agg cs)
def plB (P : Program) (T : TypeId) : Option (List (Nat × Nat)) :=
  match P.underlying T with
  | some (.struct fields) => (aE P (fields.mapM fun f => do pure (f.offset, <- sizeOf f.type))).map (·.toList)
  | some (.array n e) => (P.info? e).map fun i => (List.range n).map fun j => (j * i.size, i.size)
  | _ => none
theorem KY {pl pl' : Nat -> Option (Nat × Nat)} (hp : ∀ i q, pl i = some q -> pl' i = some q) : ∀ (ps : List (Nat × Value)) (cells out : Array Value), Instr.fill pl cells ps = some out -> Instr.fill pl' cells ps = some out
  | [], cells, out, hf => hf
  | (i, v) :: rest, cells, out, hf => by
    unfold Instr.fill at hf ⊢
    cases hq : pl i with
    | none => rw [hq] at hf; cases hf
    | some q =>
      rw [hq] at hf; rw [hp i q hq]; obtain ⟨o, sz⟩ := q; simp only at hf ⊢; split at hf
      . cases hf
      rename_i cM; rw [if_neg cM]; exact KY hp rest _ out hf
theorem KZ {z : Value} (hz : (P.info? T).bind (·.zero) = some z) : aE P (zeroValue T) = some z := by
  obtain ⟨i, hi, hzi⟩ := Option.bind_eq_some_iff.1 hz; unfold zeroValue; rw [aF, tZ hi]; simp only [Option.bind_some, hzi]; rfl
theorem r9 {pl : List (Nat × Nat)} (hZ : lI P T τ) (ha : τ.agg = true) (hp : plB P T = some pl) : yQ P T τ pl := by
  refine ⟨hZ, ha, fun z parts cs hz hf => ?_⟩; unfold plB at hp; split at hp
  . rename_i fields hu; obtain ⟨places, h1, h2⟩ := Option.map_eq_some_iff.1 hp; refine KM hu (KZ hz) h1 ?_; rw [<- hf]; congr 1; funext i; rw [<- h2]; simp
  . rename_i m e hu; obtain ⟨i, hi, h2⟩ := Option.map_eq_some_iff.1 hp
    have VK : Instr.fill (fun j => some (j * i.size, i.size)) z.cells parts.toList = some cs := KY (fun j q hq => by
      rw [<- h2] at hq; simp only [List.getElem?_map] at hq; obtain ⟨k, hk, rfl⟩ := Option.map_eq_some_iff.1 hq; obtain ⟨C1, rfl⟩ := List.getElem?_eq_some_iff.1 hk
      simp) _ _ _ hf
    have dJ : aE P (sizeOf e) = some i.size := eS hi; unfold Instr.build; simp only [aF, KZ hz, aL hu, Option.bind_some, dJ, VK]; rfl
  cases hp
theorem A3 {pl : List (Nat × Nat)} : ∀ {is : List Nat} {ps : List PV} {us : List Value} {L L' : List PV} {cs : List Value}, HE pl L is ps = some L' -> bA h S ps us -> bA h S L cs -> cs.all aU = true ->
    ∃ cs', Instr.fill (pl[·]?) cs.toArray (is.zip us) = some cs'.toArray /\ bA h S L' cs' /\ us.all (fun u => u.cells.toList.all aU) = true /\ is.length = us.length
  | [], [], us, L, L', cs, hb, hp, hL, ho => by
    obtain rfl : us = [] := hp; obtain rfl := Option.some.inj hb
    exact ⟨cs, rfl, hL, rfl, rfl⟩
  | i :: is, p :: ps, us, L, L', cs, hb, ⟨u, r, h1, h2, h3⟩, hL, ho => by
    subst h1; have hlen := hL.len; simp only [HE] at hb; split at hb
    . rename_i o s hpl
      cases JU : Nat.ble (o + s) L.length with
      | false => rw [JU] at hb; cases hb
      | true =>
        rw [JU] at hb; have IB := fP JU; simp only [cond_true] at hb; split at hb
        . rename_i τ x
          cases hs : Nat.beq τ.size s with
          | false => rw [hs] at hb; cases hb
          | true =>
            rw [hs] at hb; simp only [cond_true] at hb; obtain rfl := bU hs; have hu : aG h S τ u x := h2; have hul : u.cells.toList.length = τ.size := hu.2.len
            have hus : u.cells.size = τ.size := by simpa using hul
            obtain ⟨cs', f1, f2, f3, f4⟩ := A3 hb h3 (hL.GD o (oW hu.2)) (yM o ho hu.2.oC); refine ⟨cs', ?_, f2, by rw [List.all_cons, hu.2.oC, f3]; rfl, by simp [f4]⟩; simp only [List.zip_cons_cons, Instr.fill, hpl]
            have h9 : (u.cells.size ≠ τ.size || o + u.cells.size > cs.toArray.size) = false := by simp [hus]; omega
            rw [h9]; simp only [Bool.false_eq_true, if_false]
            have hsp : u.cells.zipIdx.foldl (fun (cs : Array Value) (p : Value × Nat) => cs.setIfInBounds (o + p.2) p.1) cs.toArray = (cU cs o u.cells.toList).toArray := by
              have e0 : cs = cs.take o ++ ((cs.drop o).take τ.size) ++ cs.drop (o + τ.size) := by
                rw [<- List.drop_drop, List.append_assoc, List.take_append_drop, List.take_append_drop]
              have := KJ τ.size o u (cs.take o) ((cs.drop o).take τ.size) (cs.drop (o + τ.size)) (by rw [List.length_take]; omega) (by rw [List.length_take, List.length_drop]; omega) hus; rw [<- e0] at this; rw [this]; unfold cU; rw [hul]
            rw [hsp]; exact f1
        . cases hs : Nat.beq s 1 with
          | false => rw [hs] at hb; cases hb
          | true =>
            rw [hs] at hb; simp only [cond_true] at hb; obtain rfl := bU hs; split at hb
            . rename_i ee hLo; obtain rfl : u = .slice none 0 0 := h2
              obtain ⟨cs', f1, f2, f3, f4⟩ := A3 (cs := cU cs o [.slice none 0 0]) hb h3 (by
                have := hL.GD o (show bA h S [.v (.sl ee) []] [.slice none 0 0] from ⟨_, [], rfl, mL.nil.rep, rfl⟩)
                have e9 : GD L o [.v (.sl ee) []] = L := by
                  unfold Fs.GD
                  have SD : o < L.length := by omega
                  have hg : L[o] = .v (.sl ee) [] := by rw [List.getElem?_eq_getElem SD] at hLo; exact Option.some.inj hLo
                  rw [<- hg]; simp only [List.length_cons, List.length_nil, Nat.zero_add, List.cons_append, List.nil_append]; rw [<- List.drop_eq_getElem_cons SD, List.take_append_drop]
                rwa [e9] at this) (yM o ho rfl)
              refine ⟨cs', ?_, f2, by rw [List.all_cons, f3]; rfl, by simp [f4]⟩; simp only [List.zip_cons_cons, Instr.fill, hpl]
              have h9 : ((Value.slice none 0 0).cells.size ≠ 1 || o + (Value.slice none 0 0).cells.size > cs.toArray.size) = false := by simp [Value.cells]; omega
              rw [h9]; simp only [Bool.false_eq_true, if_false]
              have hsp : (Value.slice none 0 0).cells.zipIdx.foldl (fun (cs : Array Value) (p : Value × Nat) => cs.setIfInBounds (o + p.2) p.1) cs.toArray = (cU cs o [.slice none 0 0]).toArray := by
                have e0 : cs = cs.take o ++ ((cs.drop o).take 1) ++ cs.drop (o + 1) := by
                  rw [<- List.drop_drop, List.append_assoc, List.take_append_drop, List.take_append_drop]
                have := KJ 1 o (.slice none 0 0) (cs.take o) ((cs.drop o).take 1) (cs.drop (o + 1)) (by rw [List.length_take]; omega) (by rw [List.length_take, List.length_drop]; omega) rfl; rw [<- e0] at this; rw [this]; unfold cU; rfl
              rw [hsp]; exact f1
            cases hb
        cases hb
    cases hb
  | [], p :: ps, us, L, L', cs, hb, _, _, _ => by simp [HE] at hb
  | i :: is, [], us, L, L', cs, hb, _, _, _ => by simp [HE] at hb
theorem zip_map {α β γ : Type} (f : α -> β) (k : α -> γ) : ∀ l : List α, (l.map f).zip (l.map k) = l.map fun a => (f a, k a)
  | [] => rfl
  | a :: l => by simp [zip_map f k l]
theorem aI.build {pl : List (Nat × Nat)} {parts : Array (Nat × Operand)} {ps : List PV} (dx : τ.den) (hT : yQ P T τ pl) (GB : mM fl (parts.toList.map (·.2)) = some ps := by rfl) (hb : HE pl (jB τ (oL τ)) (parts.toList.map (·.1)) ps = some (jB τ dx) := by rfl) : aI P fl σ (.build T parts) (.v τ dx) :=
  ⟨rfl, fun h S t hs _ => by
    obtain ⟨z, z1, z2, z3⟩ := hT.zer.zero; obtain ⟨y1, y2⟩ := nA h S τ; have hr : bA h S ps ((parts.toList.map (·.2)).map (aC t)) := wU (fun x hx => hs x (by simpa [Op.operands] using hx)) GB; obtain ⟨cs', f1, f2, f3, f4⟩ := A3 hb hr (oW y1) (E3 y2); refine ⟨.agg cs'.toArray, ⟨by rw [hT.agg]; rfl, by simpa [Value.cells] using oV f2⟩, fun _ _ _ _ _ H => ?_⟩; show (bif (parts.toList.all fun p => (aC t p.2).cells.toList.all aU) && ((((P.info? T).bind (·.zero)).map fun z => z.cells.toList.all eF) == some true) then (aE P (Instr.build T (parts.map fun p => (p.1, aC t p.2)))).map fun v => (v, H) else none) = _
    have c1 : (parts.toList.all fun p => (aC t p.2).cells.toList.all aU) = true := by
      rw [List.map_map, List.all_map] at f3; exact f3
    have c2 : ((((P.info? T).bind (·.zero)).map fun z => z.cells.toList.all eF) == some true) = true := by
      rw [z1]
      have e : z.cells.toList.all eF = true := by rw [z2]; exact y2
      simp only [Option.map_some, e]; rfl
    have eK := hT.run z (parts.map fun p => (p.1, aC t p.2)) cs'.toArray z1 (by
      rw [<- f1, Array.toList_map, <- zip_map, List.map_map]; congr 1
      rw [<- z2])
    rw [c1, c2, eK]
    rfl⟩
end Go.Fs
namespace Go.Fs
variable {P : Program} {orc : FuncId -> List Value -> aA -> Option (Value × aA)} {b7 : Option Nat} {h h' h0 h1 h2 : aA} {S S' S0 : List Nat} {σ aQ oI : aX} {t t' : Tr} {ms : List Nat} {fl : VL} {ops : Array Oper} {n i mem : Nat} {l : List Oper} {K : VL -> aX -> Prop} {Q : Ex -> VL -> aX -> Prop}
  {d : Tmp} {ty : TypeId} {pos : String} {after : Array Edge} {op : Op} {v pv : PV} {g : Option (Nat × Bool)} {x y z : Operand} {T T' e : TypeId} {τ τ' : Ty} {bs nw : List Nat} {segs : List (Nat × Nat × Nat)} {tail so : Bool} {w w' : Value} {c c' : Cell}
abbrev I (n : Int) : PV := .v (.int .i64) n
abbrev B (b : Bool) : PV := .v .bool b
abbrev D (p : Prop) [Decidable p] : PV := .v .bool (decide p)
abbrev St (s : ByteArray) : PV := .v .str s
abbrev L0 : PV := .raw (.slice none 0 0)
theorem m0 {a : Value × Cell} {r : aX} : a ∈ a :: r := List.mem_cons_self
theorem m1 {a b : Value × Cell} {r : aX} : b ∈ a :: b :: r := List.mem_cons_of_mem _ m0
theorem m2 {a b c : Value × Cell} {r : aX} : c ∈ a :: b :: c :: r := List.mem_cons_of_mem _ m1
theorem m3 {a b c d : Value × Cell} {r : aX} : d ∈ a :: b :: c :: d :: r := List.mem_cons_of_mem _ m2
theorem l9 {a b : Value × Cell} {r : aX} : (a :: b :: r).Perm (b :: a :: r) := List.Perm.swap b a r
theorem aeC {a b c : Value × Cell} {r : aX} : (a :: b :: c :: r).Perm (c :: a :: b :: r) := ((List.Perm.swap c b r).cons a).trans (List.Perm.swap c a (b :: r))
def T5 (b : Bool) (fl : VL) : VL -> Prop
  | [] => True
  | (k, v) :: r => jG fl k = some (.gd b v) /\ T5 b fl r
theorem eP.there {b : Bool} {t : Tr} {fl : VL} (hs : eP h S t fl) (hb : b = true) : ∀ {nw : VL}, T5 b fl nw -> eP h S t (nw ++ fl)
  | [], _ => hs
  | (k, v) :: r, hn => (eP.there hs hb hn.2).cons ((hs k _ hn.1 : aJ h S (.gd b v) (t.get k)).1 hb)
theorem J.cg {j : Nat} {w r : Bool} {k : Tmp} (nw : VL) (hnw : T5 (r == w) fl nw) (hs : (r == w) = true -> aI P (nw ++ fl) σ op v) (hk : J P orc ops n l ((d, .gd (r == w) v) :: fl) σ K) (hj : (ops[j]?).bind (·.dst) = some k := by rfl) (hr : jG fl k = some (.v .bool r) := by rfl) (hn : (Nat.blt d n && Nat.ble n 4000) = true := by rfl) :
    J P orc ops n (⟨some d, op, ty, pos, after, some (j, w)⟩ :: l) fl σ K := fun h0 G S0 t h ms eB => by
  obtain ⟨n1, n2⟩ := fits hn; have hw : bJ ops t ⟨some d, op, ty, pos, after, some (j, w)⟩ = some (r == w) := cH eB.aH (by unfold cX; simp only [hj, hr])
  cases tQ : (r == w) with
  | true =>
    obtain ⟨u, h1, h2⟩ := (hs tQ).2 h _ t (eB.aH.there tQ hnw).r8 eB.cells; refine mC.op (by rw [hw, tQ]) (h2 _ _ _ _ _ h) (bV n1 t u) (hk h0 G S0 _ h ms ?_); rw [tQ]
    exact eB.set (show aJ _ _ (.gd true v) u from ⟨fun _ => h1, fun e => by cases e⟩) n2
  | false =>
    refine mC.skip (by rw [hw, tQ]) (bV n1 t undef) (hk h0 G S0 _ h ms ?_); rw [tQ]; exact eB.set (show aJ _ _ (.gd false v) undef from ⟨fun e => (by cases e), fun _ => rfl⟩) n2
theorem J.rg {j : Nat} {w r : Bool} {k : Tmp} (nw : VL) (hnw : T5 (r == w) fl nw) (hs : (r == w) = true -> dC P (nw ++ fl) σ op v) (hk : J P orc ops n l ((d, .gd (r == w) v) :: fl) σ K) (hj : (ops[j]?).bind (·.dst) = some k := by rfl) (hr : jG fl k = some (.v .bool r) := by rfl) (hn : (Nat.blt d n && Nat.ble n 4000) = true := by rfl) :
    J P orc ops n (⟨some d, op, ty, pos, after, some (j, w)⟩ :: l) fl σ K := fun h0 G S0 t h ms eB => by
  obtain ⟨n1, n2⟩ := fits hn; have hw : bJ ops t ⟨some d, op, ty, pos, after, some (j, w)⟩ = some (r == w) := cH eB.aH (by unfold cX; simp only [hj, hr])
  cases tQ : (r == w) with
  | true =>
    obtain ⟨u, h1, h2⟩ := (hs tQ).2 h _ t (eB.aH.there tQ hnw).r8 eB.cells; refine mC.op (by rw [hw, tQ]) (h2 h (fun _ _ x => x) _ _ _ _ _) (bV n1 t u) (hk h0 G S0 _ h ms ?_); rw [tQ]
    exact eB.set (show aJ _ _ (.gd true v) u from ⟨fun _ => h1, fun e => by cases e⟩) n2
  | false =>
    refine mC.skip (by rw [hw, tQ]) (bV n1 t undef) (hk h0 G S0 _ h ms ?_); rw [tQ]; exact eB.set (show aJ _ _ (.gd false v) undef from ⟨fun e => (by cases e), fun _ => rfl⟩) n2
theorem J.L3 {j : Nat} {w r0 : Bool} {k : Tmp} {f : Operand} {args : Array Operand} {r3 : Array TypeId} {F F' r : PV} {asl N9 : List PV} (nw : VL) (hnw : T5 (r0 == w) fl nw) (hf : aY (nw ++ fl) f = some F) (ha : mM (nw ++ fl) args.toList = some asl) (cF : Co σ F F') (ca : uU σ asl N9) (hr : r.flat = true) (hc : (r0 == w) = true -> l7 P orc F' N9 r)
    (hk : J P orc ops n l ((d, .gd (r0 == w) r) :: fl) σ K) (hj : (ops[j]?).bind (·.dst) = some k := by rfl) (hr0 : jG fl k = some (.v .bool r0) := by rfl) (hn : (Nat.blt d n && Nat.ble n 4000) = true := by rfl) : J P orc ops n (⟨some d, .call { callee := .value f, args := args, argTypes := r3 }, ty, pos, after, some (j, w)⟩ :: l) fl σ K := fun h0 G S0 t h ms eB => by
  obtain ⟨n1, n2⟩ := fits hn; have hw : bJ ops t ⟨some d, .call { callee := .value f, args := args, argTypes := r3 }, ty, pos, after, some (j, w)⟩ = some (r0 == w) := cH eB.aH (by unfold cX; simp only [hj, hr0])
  cases tQ : (r0 == w) with
  | true =>
    have L := eB.lc; have E7 := eB.aH.there tQ hnw; obtain ⟨WN, a, c, h1, h2⟩ := (hc tQ).ev eB.ok L.sok (cF.ok L.cells L.sep (eH E7 hf)) (ca.ok L.cells L.sep (sU E7 ha)); refine mC.call (by rw [hw, tQ]) rfl rfl h1 (h2.mono fun u h' hq => ?_); obtain ⟨_, q2, q3⟩ := hq; obtain rfl := q3 hr; refine ⟨_, bV n1 t u, hk h0 G S0 _ h' ms ?_⟩; rw [tQ]
    exact eB.set (show aJ _ _ (.gd true r) u from ⟨fun _ => (q2.flat hr).2 _ _, fun e => by cases e⟩) n2
  | false =>
    refine mC.skip (by rw [hw, tQ]) (bV n1 t undef) (hk h0 G S0 _ h ms ?_); rw [tQ]; exact eB.set (show aJ _ _ (.gd false r) undef from ⟨fun e => (by cases e), fun _ => rfl⟩) n2
theorem aI.or {r s : Bool} (hz : aY fl z = some (.v .bool r) := by rfl) (hx : aY fl x = some (.v .bool true) := by rfl) (hy : aY fl y = some (.gd (r == false) (.v .bool s)) := by rfl) : aI P fl σ (.pick z x y) (.v .bool (r || s)) := ⟨rfl, fun h S t hs _ => by
  have h1 := (hs z (by simp [Op.operands]) _ hz : aJ h S (.v .bool r) _).bool; have h2 := (hs x (by simp [Op.operands]) _ hx : aJ h S (.v .bool true) _).bool; have h3 : aJ h S (.gd (r == false) (.v .bool s)) (aC t y) := hs y (by simp [Op.operands]) _ hy; refine ⟨.bool (r || s), aG.ofBool _, fun _ _ _ _ _ H => ?_⟩; show (match aC t z with | .bool true => some (aC t x, H) | .bool false => some (aC t y, H) | _ => none) = _; rw [h1, h2]
  cases r with
  | true => rfl
  | false =>
    have := (h3.1 rfl : aJ h S (.v .bool s) _).bool
    rw [this]; rfl⟩
theorem aI.and {r s : Bool} (hz : aY fl z = some (.v .bool r) := by rfl) (hy : aY fl y = some (.v .bool false) := by rfl) (hx : aY fl x = some (.gd (r == true) (.v .bool s)) := by rfl) : aI P fl σ (.pick z x y) (.v .bool (r && s)) := ⟨rfl, fun h S t hs _ => by
  have h1 := (hs z (by simp [Op.operands]) _ hz : aJ h S (.v .bool r) _).bool; have h2 := (hs y (by simp [Op.operands]) _ hy : aJ h S (.v .bool false) _).bool; have h3 : aJ h S (.gd (r == true) (.v .bool s)) (aC t x) := hs x (by simp [Op.operands]) _ hx; refine ⟨.bool (r && s), aG.ofBool _, fun _ _ _ _ _ H => ?_⟩; show (match aC t z with | .bool true => some (aC t x, H) | .bool false => some (aC t y, H) | _ => none) = _; rw [h1, h2]
  cases r with
  | false => rfl
  | true =>
    have := (h3.1 rfl : aJ h S (.v .bool s) _).bool
    rw [this]; rfl⟩
theorem J.go {b : Code} (hx : U P orc b7 b n fl σ Q) : J P orc ops n [] fl σ fun fl σ => KP P orc b7 n b Q .normal fl σ := J.nil hx
theorem VD.go {b : Code} (hx : U P orc b7 b n fl σ Q) : VD P orc ops n [] i fl nw σ so bs mem tail fun fl σ => KP P orc b7 n b Q .normal fl σ := VD.nil hx
def ak8 (flJ : VL) (σJ : aX) (Q : Ex -> VL -> aX -> Prop) : Ex -> VL -> aX -> Prop
  | .normal, fl, σ => T2 fl flJ /\ σ = σJ
  | .exit i, fl, σ => Q (.exit i) fl σ
  | .ret, fl, σ => Q .ret fl σ
theorem U.join {a : Code} (flJ : VL) (σJ : aX) (ha : U P orc b7 a n fl σ (ak8 flJ σJ Q)) (hb : Q .normal flJ σJ) : U P orc b7 a n fl σ Q := fun h0 G S0 t h ms eB => (ha h0 G S0 t h ms eB).mono fun e fr h' hq => by
  obtain ⟨hn, eQ, aQ, I', q⟩ := hq
  cases e with
  | normal =>
    obtain ⟨q1, rfl⟩ := q
    exact ⟨hn, flJ, aQ, I'.sub flJ (zX q1), hb⟩
  | exit i => exact ⟨hn, eQ, aQ, I', q⟩
  | ret => exact ⟨hn, eQ, aQ, I', q⟩
theorem aS.one {fn : Func} {r : ResultVar} {p q : PV} (hr : fn.results = #[r]) (h1 : sV P fl σ r p) (he : p = q) : aS P fn q .ret fl σ := ⟨rfl, [p], by rw [hr]; exact .cons h1 .nil, he⟩
theorem aS.two {fn : Func} {r r' : ResultVar} {p p' q q' : PV} (hr : fn.results = #[r, r']) (h1 : sV P fl σ r p) (h2 : sV P fl σ r' p') (he : p = q) (lQ : p' = q') : aS P fn (.kL [q, q']) .ret fl σ := ⟨rfl, [p, p'], by rw [hr]; exact .cons h1 (.cons h2 .nil), by rw [he, lQ]; rfl⟩
theorem aS.three {fn : Func} {r r' r'' : ResultVar} {p p' p'' q q' q'' : PV} (hr : fn.results = #[r, r', r'']) (h1 : sV P fl σ r p) (h2 : sV P fl σ r' p') (h3 : sV P fl σ r'' p'') (he : p = q) (lQ : p' = q') (alZ : p'' = q'') : aS P fn (.kL [q, q', q'']) .ret fl σ := ⟨rfl, [p, p', p''], by rw [hr]; exact .cons h1 (.cons h2 (.cons h3 .nil)), by rw [he, lQ, alZ]; rfl⟩
theorem eZ {a b : τ.den} (h : a = b) : PV.v τ a = PV.v τ b := by rw [h]
theorem s6 {k : Nat} {a b : τ.den} (hk : jG fl k = some (.v τ a)) (h : a = b) : jG fl k = some (.v τ b) := by rw [hk, h]
theorem bO {i : Nat} {p : PV} (hi : jG fl i = some p := by rfl) : sV P fl σ (.tmp i) p := .tmp hi .same
theorem uV {i : Nat} {p p' : PV} (hc : Co σ p p') (hi : jG fl i = some p := by rfl) : sV P fl σ (.tmp i) p' := .tmp hi hc
theorem VF.law {f : FuncId} {args : List PV} {us : List Value} (hv : VF P orc f args (.v .bool true)) (bW : adW h) (hr : bA h [] args us) : rC P orc f us h fun r h' => r = .bool true /\ h' = h :=
  (hv h [] us bW.1 ⟨fun b hb => (by cases hb), bW.2⟩ hr).mono fun u h' ⟨_, h2, h3⟩ => ⟨aG.bool h2, h3 rfl⟩
end Go.Fs
namespace Go.Fs
variable {P : Program} {orc : FuncId -> List Value -> aA -> Option (Value × aA)} {b7 : Option Nat} {h h' h0 h1 h2 : aA} {S S' S0 : List Nat} {σ aQ oI γ j4 : aX} {t t' : Tr} {ms : List Nat} {fl : VL} {ops : Array Oper} {n i mem : Nat} {l : List Oper} {K : VL -> aX -> Prop} {Q : Ex -> VL -> aX -> Prop}
  {d : Tmp} {ty : TypeId} {pos : String} {after : Array Edge} {op : Op} {v pv : PV} {g : Option (Nat × Bool)} {x y z : Operand} {T T' e : TypeId} {τ τ' : Ty} {bs nw : List Nat} {segs : List (Nat × Nat × Nat)} {tail so : Bool} {w w' : Value} {c c' : Cell}
theorem cA.aeD {k : Nat} {xs ys : List τ.den} (hT : eX P T e τ) (sY : eX P T' e τ) (hx : aY fl x = some (.raw w)) (hy : aY fl y = some (.v (.sl τ) ys)) (hc : xs.length + ys.length <= k) (dJ : k <= 1000000) :
    cA P fl ((w, .cap e k τ xs) :: σ) (.call { callee := .builtin .append, args := #[x, y], argTypes := #[T, T'] }) fun v aQ => ∃ w', v = .raw w' /\ aQ = (w', .cap e k τ (xs ++ ys)) :: σ :=
  ⟨rfl, fun S0 h t L => by
    have h1 : aC t x = w := eH L.aH hx; have hw := aG.sl (eH L.aH hy : aG h _ (.sl τ) (aC t y) ys); obtain ⟨b, rs, mm, hwv, h2, h4, h5, h6, h7⟩ := L.cells _ List.mem_cons_self; have aeE : w = .slice (some ⟨b, 0, none⟩) xs.length 0 := hwv
    have pY : cW w = [b] := by rw [aeE]; rfl
    have bR : ∀ u h', dQ P #[T, T'] w (aC t y) h = some (u, h') -> ∀ (d : Option Tmp) (ty : TypeId) (pos : String) (after : Array Edge) (g : Option (Nat × Bool)), fH P ⟨d, .call { callee := .builtin .append, args := #[x, y], argTypes := #[T, T'] }, ty, pos, after, g⟩ (aC t) h = some (u, h') := fun u h' e _ _ _ _ _ => by
      show dQ P #[T, T'] (aC t x) (aC t y) h = _; rw [h1, e]
    obtain ⟨i, z, nZ, lU, EB, vJ, wT, EC, KV⟩ := hT.sl.info; have nF := hT.sl.pos
    have A1 : (xs.length + ys.length) * i.bytes <= 274877906944 := by
      have := Nat.mul_le_mul (show xs.length + ys.length <= 1000000 by omega) vJ; omega
    have Z5 : (xs.length + ys.length) * τ.size = xs.length * τ.size + ys.length * τ.size := Nat.add_mul _ _ _; have hle : (xs.length + ys.length) * τ.size <= k * τ.size := Nat.mul_le_mul_right _ hc; have e2 : Nat.beq e e = true := Nat.beq_refl _
    have e3 : Nat.ble ((xs.length + ys.length) * i.bytes) 274877906944 = true := by rw [Nat.ble_eq]; exact A1
    have e4 : Nat.ble (0 + xs.length * i.size) rs.length = true := by rw [Nat.ble_eq, lU]; omega
    have e5 : Nat.ble (0 + (xs.length + ys.length) * i.size) rs.length = true := by rw [Nat.ble_eq, lU]; omega
    have e7 : Nat.beq 0 1 = false := rfl; have e8 : Nat.beq 0 0 = true := rfl
    have f1 : Nat.blt 0 τ.size = true := by show Nat.ble 1 τ.size = true; rw [Nat.ble_eq]; exact nF
    have f2 : Nat.blt 0 i.bytes = true := by show Nat.ble 1 i.bytes = true; rw [Nat.ble_eq]; exact EB
    by_cases hyl : 0 < ys.length
    . obtain ⟨b2, o, mk, e', rs2, am0, more, hu, hb, hr, hl, CL⟩ := hw.row hyl; have AP : 0 < ys.length * τ.size := Nat.mul_pos hyl nF
      let news := (rs2.drop o).take (ys.length * τ.size)
      have wK : news.length = ys.length * τ.size := by show ((rs2.drop o).take (ys.length * τ.size)).length = _; rw [List.length_take, List.length_drop]; omega
      have hE : cE h (own ((w, .cap e k τ xs) :: σ) ++ S0) τ news ys := by
        refine ⟨wK, fun j hj => ?_⟩; have h9 : (j + 1) * τ.size <= ys.length * τ.size := Nat.mul_le_mul_right _ hj; rw [Nat.add_mul] at h9; have := CL j hj; show cR h _ τ ((((rs2.drop o).take (ys.length * τ.size)).drop (j * τ.size)).take τ.size) ys[j]; rw [List.drop_take, List.take_take, List.drop_drop, Nat.min_eq_left (by omega)]; exact this
      have jO : news.all aU = true := hE.oC; have n9 : fZ i z (isInt (.slice e)) (.slice (some ⟨b2, o, none⟩) ys.length mk) h = some (ys.length, news) := BO (e := e') lU (by omega) hr (Nat.le_refl _) hl rfl rfl; refine ⟨.slice (some ⟨b, 0, none⟩) (xs.length + ys.length) 0, h.set b (.row e (cU rs (0 + xs.length * i.size) news) true mm), .raw (.slice (some ⟨b, 0, none⟩) (xs.length + ys.length) 0), _, ⟨_, rfl, rfl⟩, Made.head L (cO.set h4 (by rw [pY]; simp)) (fun b' sP => .inl (by rw [pY]; simpa [cW] using sP)) (by simp [cW]) fun hN => ?_, rfl, bR _ _ ?_⟩
      . refine ⟨b, cU rs (0 + xs.length * i.size) news, mm, by simp, List.mem_append_left _ (by rw [bE]; simp [cW]), by rw [aA.cZ h4, if_pos rfl], ?_, by rw [List.length_append]; exact hc, ?_⟩
        . unfold cU; rw [List.length_append, List.length_append, List.length_take, List.length_drop, wK, lU]; omega
        have hz : (cU rs (0 + xs.length * i.size) news).take ((xs ++ ys).length * τ.size) = rs.take (xs.length * τ.size) ++ news := by
          unfold cU; rw [List.length_append, Z5, lU, Nat.zero_add, List.take_append_of_le_length (by rw [List.length_append, List.length_take, wK]; omega), List.take_of_length_le (by rw [List.length_append, List.length_take, wK]; omega)]
        rw [hz]; exact (h7.append hE).nx hN
      rw [hu, aeE]; unfold dQ; simp only [List.getElem?_toArray, List.getElem?_cons_zero, List.getElem?_cons_succ, hT.sl.sl, sY.sl.sl, nZ, wT, n9, lU]
      have QE : (Nat.blt 0 τ.size && Nat.blt 0 i.bytes && Nat.beq news.length (ys.length * τ.size) && news.all aU && Nat.beq z.cells.size τ.size) = true := by
        rw [f1, f2, wK, Nat.beq_refl, jO, EC, Nat.beq_refl]; rfl
      have e0 : Nat.beq ys.length 0 = false := eD (by omega); rw [QE]; simp only [cond_true]; unfold kX; rw [lU] at e4 e5; simp only [h4, e0, Bool.false_and, cond_false, lU, e2, e3, e4, Bool.and_self, cond_true, e7, e8, e5]
    have hy0 : ys = [] := List.eq_nil_of_length_eq_zero (by omega); subst hy0
    have n9 : fZ i z (isInt (.slice e)) (aC t y) h = some (0, []) := by
      rcases hw with ⟨hu, _⟩ | ⟨b, o, mk, hu, _⟩
      . rw [hu]; simp [fZ, isInt, q4, cellsOf]
      rw [hu]; simp only [fZ, isInt, cond_false, q4, cellsOf, List.length_nil]; have e1 : Nat.ble 0 0 = true := rfl; simp [e1, cond_true, Nat.zero_mul]
    refine ⟨w, h, .raw w, _, ⟨w, rfl, rfl⟩, ?_, rfl, bR _ _ ?_⟩
    . rw [List.append_nil]; exact Made.same L (cO.refl _ _)
    rw [aeE]; unfold dQ; simp only [List.getElem?_toArray, List.getElem?_cons_zero, List.getElem?_cons_succ, hT.sl.sl, sY.sl.sl, nZ, wT, n9, lU]
    have QE : (Nat.blt 0 τ.size && Nat.blt 0 i.bytes && Nat.beq ([] : List Value).length (0 * τ.size) && ([] : List Value).all aU && Nat.beq z.cells.size τ.size) = true := by
      rw [f1, f2, EC, Nat.beq_refl, Nat.zero_mul]; rfl
    rw [QE]; simp only [cond_true]; unfold kX; simp only [List.length_nil, Nat.add_zero] at e3 e5; simp only [h4, e2, e3, e4, Bool.and_self, cond_true, e7, e8, Bool.and_false, cond_false, Nat.add_zero]
    try simp only [e3, e5, cond_true]⟩
theorem J.aeD {k : Nat} {xs ys : List τ.den} (hx : aY fl x = some (.raw w)) (hy : aY fl y = some (.v (.sl τ) ys)) (hT : eX P T e τ) (sY : eX P T' e τ) (hc : xs.length + ys.length <= k) (dJ : k <= 1000000) (hk : ∀ w', J P orc ops n l ((d, .raw w') :: fl) ((w', .cap e k τ (xs ++ ys)) :: σ) K)
    (hw : cX ops fl g = some true := by rfl) (hn : (Nat.blt d n && Nat.ble n 4000) = true := by rfl) :
    J P orc ops n (⟨some d, .call { callee := .builtin .append, args := #[x, y], argTypes := #[T, T'] }, ty, pos, after, g⟩ :: l) fl ((w, .cap e k τ xs) :: σ) K :=
  J.mk (cA.aeD hT sY hx hy hc dJ) (by rintro _ _ ⟨w', rfl, rfl⟩; exact hk w') hw hn
theorem dC.aeF (hT : eX P T e τ) (hx : aY fl x = some (.raw (.slice none 0 0)) := by rfl) : dC P fl σ (.call { callee := .builtin .cap, args := #[x], argTypes := #[T] }) (.v (.int .i64) ((0 : Nat) : Int)) :=
  ⟨rfl, fun h S t hs _ => by
    have h1 : aC t x = .slice none 0 0 := hs x (by simp [Op.operands, Call.operands]) _ hx; refine ⟨_, aG.ofInt _ _, fun H _ _ _ _ _ _ => ?_⟩; show (JB P #[T] (aC t x) H).map _ = _; rw [h1]
    simp [JB, hT.sl.sl]⟩
theorem dC.am1 (hT : eX P T e τ) {hi : Operand} (hx : aY fl x = some (.raw (.slice none 0 0))) (hh : aY fl hi = some (.v (.int .i64) 0)) : dC P fl σ (.slice T x none (some hi) none) (.raw (.slice none 0 0)) :=
  ⟨rfl, fun h S t hs _ => by
    have h1 : aC t x = .slice none 0 0 := hs x (by simp [Op.operands]) _ hx; have h2 := aG.int (hs hi (by simp [Op.operands]) _ hh); refine ⟨_, rfl, fun H _ _ _ _ _ _ => ?_⟩; show (dN P T (aC t x) none (some (aC t hi)) none H).map _ = _
    rw [h1, h2, T0 hT H]; rfl⟩
theorem gZ.grow {k : Nat} (hx : aY fl x = some (.raw (.slice none 0 0))) (hy : aY fl y = some (.v (.int .i64) ((k : Nat) : Int))) (hT : eX P T e τ) (hTi : P.underlying T' = some (.int .i64)) (h1 : 0 < k) (hk : k <= 1000000) :
    calm (.call { callee := .builtin .append, args := #[x, y], argTypes := #[T, T'] }) = false /\ ∀ (h : aA) (S : List Nat) (t : Tr), E5 h S t fl (.call { callee := .builtin .append, args := #[x, y], argTypes := #[T, T'] }) -> mZ h -> (∀ b ∈ S, b < h.next) ->
    ∃ (o : bB), (∀ S', cV h S (h.push o) S' -> h.next ∈ S' -> bS (h.push o) S' (.slice (some ⟨h.next, 0, none⟩) 0 0) (.cap e k τ [])) /\ ∀ (H : aA) (d : Option Tmp) (ty : TypeId) (pos : String) (after : Array Edge) (g : Option (Nat × Bool)), fH P ⟨d, .call { callee := .builtin .append, args := #[x, y], argTypes := #[T, T'] }, ty, pos, after, g⟩ (aC t) H = some (.slice (some ⟨H.next, 0, none⟩) k 0, H.push o) :=
  ⟨rfl, fun h S t hs bW hS => by
    have u1 : aC t x = .slice none 0 0 := hs x (by simp [Op.operands, Call.operands]) _ hx; have u2 := aG.int (hs y (by simp [Op.operands, Call.operands]) _ hy); obtain ⟨i, z, nZ, lU, EB, vJ, wT, EC, KV⟩ := hT.sl.info; have nF := hT.sl.pos
    have hb : k * i.bytes <= 274877906944 := by
      have := Nat.mul_le_mul hk vJ; omega
    refine ⟨.row e (fG z k) true true, fun S' hN hm => ⟨h.next, fG z k, true, rfl, hm, by rw [aA.bN, if_pos rfl], by rw [CK, EC], Nat.zero_le _, by simpa using cE.nil⟩, fun H _ _ _ _ _ => ?_⟩
    have n9 : fZ i z (isInt (.int .i64)) (.int .i64 (k : Nat)) H = some (k, fG z k) := by
      have hc : (decide (0 <= ((k : Nat) : Int)) && decide (((k : Nat) : Int) <= 1099511627776) && Nat.ble (k * i.bytes) 1099511627776 && z.cells.toList.all eF) = true := by
        have e1 : Nat.ble (k * i.bytes) 1099511627776 = true := by rw [Nat.ble_eq]; omega
        rw [e1, KV]; simp; omega
      simp only [fZ, isInt, cond_true, Int.toNat_natCast]; rw [hc]; rfl
    show dQ P #[T, T'] (aC t x) (aC t y) H = _; rw [u1, u2]; unfold dQ; simp only [List.getElem?_toArray, List.getElem?_cons_zero, List.getElem?_cons_succ, hT.sl.sl, hTi, nZ, wT, n9, lU]; have jO : (fG z k).all aU = true := WL (E3 KV) (by omega) k
    have hc : (Nat.blt 0 τ.size && Nat.blt 0 i.bytes && Nat.beq (fG z k).length (k * τ.size) && (fG z k).all aU && Nat.beq z.cells.size τ.size) = true := by
      have e1 : Nat.blt 0 τ.size = true := by show Nat.ble 1 τ.size = true; rw [Nat.ble_eq]; exact nF
      have e2 : Nat.blt 0 i.bytes = true := by show Nat.ble 1 i.bytes = true; rw [Nat.ble_eq]; exact EB
      rw [e1, e2, CK, jO, EC, Nat.beq_refl, Nat.beq_refl]; rfl
    rw [hc]; simp only [cond_true]; unfold kX; have e1 : Nat.beq k 0 = false := eD (by omega)
    have e2 : Nat.ble (k * i.bytes) 274877906944 = true := by rw [Nat.ble_eq]; exact hb
    simp only [e1, cond_false, e2, cond_true, grown]⟩
theorem J.grow {k : Nat} (hx : aY fl x = some (.raw (.slice none 0 0))) (hy : aY fl y = some (.v (.int .i64) ((k : Nat) : Int))) (hT : eX P T e τ) (hTi : P.underlying T' = some (.int .i64)) (h1 : 0 < k) (hk : k <= 1000000)
    (yN : ∀ b, J P orc ops n l ((d, .raw (.slice (some ⟨b, 0, none⟩) k 0)) :: fl) ((.slice (some ⟨b, 0, none⟩) 0 0, .cap e k τ []) :: σ) K) (hw : cX ops fl g = some true := by rfl) (hn : (Nat.blt d n && Nat.ble n 4000) = true := by rfl) :
    J P orc ops n (⟨some d, .call { callee := .builtin .append, args := #[x, y], argTypes := #[T, T'] }, ty, pos, after, g⟩ :: l) fl σ K := fun h0 G S0 t h ms eB => by
  have L := eB.lc; obtain ⟨o, e1, e2⟩ := (gZ.grow (τ := τ) hx hy hT hTi h1 hk).2 h _ t eB.aH.r8 eB.ok L.lt; obtain ⟨n1, n2⟩ := fits hn; have m : Made S0 h (h.push o) σ ((.slice (some ⟨h.next, 0, none⟩) 0 0, .cap e k τ []) :: σ) := Made.cons L (cO.push h o []) (fun b hb => by simp [cW] at hb; omega) (by simp [cW]) fun hN => e1 _ hN (by rw [bE]; simp [cW]); exact mC.op (cH eB.aH hw) (e2 h _ _ _ _ _) (bV n1 t _) (yN h.next h0 G S0 _ _ ms ((eB.made m).set (show aJ _ _ (.raw _) _ from rfl) n2))
theorem dC.am2 (hT : eX P T e τ) {hi : Operand} {b k : Nat} (hx : aY fl x = some (.raw (.slice (some ⟨b, 0, none⟩) k 0))) (hh : aY fl hi = some (.v (.int .i64) 0)) : dC P fl σ (.slice T x none (some hi) none) (.raw (.slice (some ⟨b, 0, none⟩) 0 0)) :=
  ⟨rfl, fun h S t hs _ => by
    have h1 : aC t x = .slice (some ⟨b, 0, none⟩) k 0 := hs x (by simp [Op.operands]) _ hx; have h2 := aG.int (hs hi (by simp [Op.operands]) _ hh); refine ⟨_, rfl, fun H _ _ _ _ _ _ => ?_⟩; show (dN P T (aC t x) none (some (aC t hi)) none H).map _ = _
    rw [h1, h2, T1 hT H]; rfl⟩
section
variable (P orc)
def gS (f : FuncId) (args : List PV) (γ : aX) (Q : PV -> aX -> Prop) : Prop := ∀ (h : aA) (S : List Nat) (us : List Value), mZ h -> QH h S -> (∀ c ∈ γ, bS h (own γ ++ S) c.1 c.2) -> (own γ).Nodup -> (∀ b ∈ own γ, b ∉ S) -> bA h (own γ ++ S) args us ->
  rC P orc f us h fun u h' => ∃ r j4, Q r j4 /\ Made S h h' γ j4 /\ aJ h' (own j4 ++ S) r u
def QN (F : PV) (args : List PV) (γ : aX) (Q : PV -> aX -> Prop) : Prop := ∃ f a c, F = .mF f a c /\ gS P orc f (a ++ args ++ c) γ Q
end
theorem gS.call {f : FuncId} {args : List PV} {Q : PV -> aX -> Prop} (hf : gS P orc f args γ Q) : QN P orc (.mF f [] []) args γ Q := ⟨f, [], [], rfl, by simpa using hf⟩
theorem dE : own (γ ++ σ) = own γ ++ own σ := List.flatMap_append
theorem Lc.am3 (L : Lc S0 h (γ ++ σ) t fl) : QH h (own σ ++ S0) :=
  have hm : ∀ b, b ∈ own σ ++ S0 -> b ∈ own (γ ++ σ) ++ S0 := fun b hb => by
    rcases List.mem_append.1 hb with hb | hb
    . exact List.mem_append_left _ (by rw [dE]; exact List.mem_append_right _ hb)
    exact List.mem_append_right _ hb
  ⟨fun b hb => L.lt b (hm b hb), L.aH.1.less hm⟩
theorem Made.app (L : Lc S0 h (γ ++ σ) t fl) (m : Made (own σ ++ S0) h h' γ j4) : Made S0 h h' (γ ++ σ) (j4 ++ σ) := by
  have n9 := L.apart; rw [dE] at n9; obtain ⟨_, T4, EA⟩ := List.nodup_append.1 n9
  have ha : cO h h' (own (γ ++ σ)) := m.gC.ZF fun b hb => by rw [dE]; exact List.mem_append_left _ hb
  have jQ : ∀ b ∈ own (j4 ++ σ), b ∈ own (γ ++ σ) \/ h.next <= b := fun b hb => by
    rw [dE] at hb ⊢; rcases List.mem_append.1 hb with hb | hb
    . rcases m.new b hb with h1 | h1
      . exact .inl (List.mem_append_left _ h1)
      exact .inr h1
    exact .inl (List.mem_append_right _ hb)
  have hN : cV h (own (γ ++ σ) ++ S0) h' (own (j4 ++ σ) ++ S0) := ha.kB L.ok (fun b hb => List.mem_append_left _ hb) fun b hb => by
    rcases List.mem_append.1 hb with hb | hb
    . rcases jQ b hb with h1 | h1
      . exact .inl (List.mem_append_left _ h1)
      exact .inr h1
    exact .inl (List.mem_append_right _ hb)
  refine ⟨ha, jQ, ?_, fun d hd => ?_⟩
  . rw [dE]; refine List.nodup_append.2 ⟨m.apart, T4, fun a h1 b h2 he => ?_⟩; subst he; rcases m.new a h1 with h3 | h3
    . exact EA a h3 a h2 rfl
    have := L.lt a (List.mem_append_left _ (by rw [dE]; exact List.mem_append_right _ h2)); omega
  rcases List.mem_append.1 hd with hd | hd
  . have := m.cells d hd; rw [<- List.append_assoc, <- dE] at this; exact this
  have DY : ∀ b ∈ cW d.1, b ∈ own σ := fun b hb => List.mem_flatMap.2 ⟨d, hd, hb⟩; refine (L.cells d (List.mem_append_right _ hd)).aW (fun b hb => ?_) hN fun b hb => List.mem_append_left _ (by rw [dE]; exact List.mem_append_right _ (DY b hb)); exact m.gC.get b (L.lt b (List.mem_append_left _ (by rw [dE]; exact List.mem_append_right _ (DY b hb)))) fun hm => EA b hm b (DY b hb) rfl
theorem J.lV {f : Operand} {args : Array Operand} {r3 : Array TypeId} {F : PV} {asl : List PV} {Q : PV -> aX -> Prop} (γ : aX) (GG : γ ++ σ = oI) (hf : aY fl f = some F) (ha : mM fl args.toList = some asl) (hc : QN P orc F asl γ Q) (hk : ∀ r j4, Q r j4 -> J P orc ops n l ((d, r) :: fl) (j4 ++ σ) K)
    (hw : cX ops fl g = some true := by rfl) (hn : (Nat.blt d n && Nat.ble n 4000) = true := by rfl) : J P orc ops n (⟨some d, .call { callee := .value f, args := args, argTypes := r3 }, ty, pos, after, g⟩ :: l) fl oI K := fun h0 G S0 t h ms eB => by
  subst GG; obtain ⟨n1, n2⟩ := fits hn; have L := eB.lc; have n9 := L.apart; rw [dE] at n9; obtain ⟨ZH, T4, EA⟩ := List.nodup_append.1 n9; obtain ⟨WN, a, c, rfl, hv⟩ := hc; obtain ⟨va, vc, h1, h2, h3⟩ := (eH eB.aH hf : aJ h _ (.mF WN a c) (aC t f)); have mK := (h2.append (sU eB.aH ha)).append h3; rw [dE, List.append_assoc] at mK
  have dD : ∀ c ∈ γ, bS h (own γ ++ (own σ ++ S0)) c.1 c.2 := fun c hc => by
    have := L.cells c (List.mem_append_left _ hc)
    rwa [dE, List.append_assoc] at this
  refine mC.call (cH eB.aH hw) rfl rfl h1 ((hv h (own σ ++ S0) _ eB.ok ⟨fun b hb => L.lt b ?_, L.aH.1.less fun b hb => ?_⟩ dD ZH (fun b hb hm => ?_) mK).mono fun u h' hq => ?_)
  . rcases List.mem_append.1 hb with hb | hb
    . exact List.mem_append_left _ (by rw [dE]; exact List.mem_append_right _ hb)
    exact List.mem_append_right _ hb
  . rcases List.mem_append.1 hb with hb | hb
    . exact List.mem_append_left _ (by rw [dE]; exact List.mem_append_right _ hb)
    exact List.mem_append_right _ hb
  . rcases List.mem_append.1 hm with hm | hm
    . exact EA b hb b hm rfl
    exact L.sep b (by rw [dE]; exact List.mem_append_left _ hb) hm
  obtain ⟨r, j4, q1, q2, q3⟩ := hq; refine ⟨_, bV n1 t u, hk r j4 q1 h0 G S0 _ h' ms ((eB.made (Made.app L q2)).set ?_ n2)⟩; rw [dE, List.append_assoc]; exact q3
def Cell.flat : Cell -> Bool
  | .row _ τ _ => τ.fU
  | .var cs => cs.all PV.iP
  | .cap _ _ τ _ => τ.fU
  | .mp κ ν _ => κ.fU && ν.fU
  | .it _ _ => true
  | .loop _ _ _ _ _ _ _ => false
  | .tP _ _ _ => false
theorem aG.L4 {τ : Ty} {u : Value} {x : τ.den} (hf : τ.fU = true) (hx : aG h S τ u x) : aG h' S' τ u x := hx.vF (sC hf hx)
theorem cE.L4 {rs : List Value} {xs : List τ.den} (hf : τ.fU = true) (he : cE h S τ rs xs) : cE h' S' τ rs xs :=
  ⟨he.1, fun i hi => cR.vF (by
    have h1 := r7 (he.2 i hi) hf
    rw [h1]; exact vG τ _) (he.2 i hi)⟩
theorem bS.flat {w : Value} : ∀ {c : Cell}, c.flat = true -> bS h S w c -> (∀ b ∈ cW w, h'.get b = h.get b /\ b ∈ S') -> bS h' S' w c
  | .row e τ xs, hf, hc, hg => by
    rcases hc with hc | ⟨b, rs, m, rfl, h2, h3, h4⟩
    . exact .inl hc
    obtain ⟨g1, g2⟩ := hg b (by simp [cW])
    exact .inr ⟨b, rs, m, rfl, g2, by rw [g1]; exact h3, h4.L4 hf⟩
  | .var cs, hf, ⟨b, e, vs, h1, h2, h3, h4, h5⟩, hg => by
    subst h1; obtain ⟨g1, g2⟩ := hg b (by simp [cW])
    exact ⟨b, e, vs, rfl, g2, by rw [g1]; exact h3, (bA.iP hf h4).2 _ _, h5⟩
  | .cap e k τ xs, hf, ⟨b, rs, m, h1, h2, h3, h4, h5, h6⟩, hg => by
    subst h1; obtain ⟨g1, g2⟩ := hg b (by simp [cW])
    exact ⟨b, rs, m, rfl, g2, by rw [g1]; exact h3, h4, h5, h6.L4 hf⟩
  | .mp κ ν kvs, hf, ⟨b, es, c, h1, h2, h3, h4, h5⟩, hg => by
    subst h1; obtain ⟨g1, g2⟩ := hg b (by simp [cW]); obtain ⟨f1, f2⟩ := b6 (show (κ.fU && ν.fU) = true from hf)
    exact ⟨b, es, c, rfl, g2, by rw [g1]; exact h3, h4, fun i hi hj => ⟨(h5 i hi hj).1.L4 f1, (h5 i hi hj).2.L4 f2⟩⟩
  | .it s pos, hf, ⟨b, h1, h2, h3⟩, hg => by
    subst h1; obtain ⟨g1, g2⟩ := hg b (by simp [cW])
    exact ⟨b, rfl, g2, by rw [g1]; exact h3⟩
  | .loop st jump n fl ps assign body, hf, _, hg => by cases hf
  | .tP e n cs, hf, _, hg => by cases hf
def uW (P : Program) (fn : Func) (γ : aX) (Q : PV -> aX -> Prop) : Ex -> VL -> aX -> Prop := fun e fl σ => e.kB = true /\ ∃ ps, HB P fl [] fn.results.toList ps /\ Q (O8 ps) σ /\ ((∃ w e k τ xs, O8 ps = .raw w /\ (w, Cell.cap e k τ xs) ∈ σ) \/ (own σ = own γ /\ ∀ c ∈ σ, c.2.flat = true) \/ (∃ w e τ xs, O8 ps = .raw w /\ γ = [] /\ σ = [(w, Cell.row e τ xs)]) \/ (γ = [] /\ ∀ (h : aA) (S : List Nat) (u : Value), aJ h S (O8 ps) u -> (∀ c ∈ σ, bS h S c.1 c.2) -> af u = true -> own σ = [] /\ ∀ (h' : aA) (S' : List Nat), ∀ c ∈ σ, bS h' S' c.1 c.2))
theorem gS.enter {f : FuncId} {args : List PV} {fn : Func} {c : Code} {Q : PV -> aX -> Prop} (l5 : P.funcs[f]? = some fn) (hc : fn.body = some c) (ho : ∀ us h, orc f us h = none) (hn : (Nat.blt 4000 fn.ntmps || Nat.blt fn.ntmps args.length) = false)
    (hb : U P orc none c fn.ntmps (pJ 0 args) γ (uW P fn γ Q)) : gS P orc f args γ Q := fun h S us bW hS dD jT yR ha => by
  have hl := ha.len
  have tO : Nat.blt 4000 fn.ntmps = false /\ Nat.blt fn.ntmps args.length = false := by simpa using hn
  have n3 := j8 tO.1; have n4 := j8 tO.2; have mI : bA (entry h) (own γ ++ S) args us := bA.nx (h := h) (h' := entry h) (fun _ _ a b => ⟨a, b⟩) ha
  have I0 : Iv (entry h) (own γ) S (entry h) γ (kZ .leaf 0 us) [] (pJ 0 args) := {
    ok := bW
    s0 := hS.1
    gC := cO.refl _ _
    cells := fun c hc => (dD c hc).aW (fun _ _ => rfl) (fun _ _ a b => ⟨a, b⟩) fun b hb => List.mem_append_left _ (List.mem_flatMap.2 ⟨c, hc, hb⟩)
    new := fun b hb => ⟨.inl hb, yR b hb⟩
    apart := jT
    mark := fun d hd => by cases hd
    marks := List.nodup_nil
    aH := oX (hS.2.ent dD) mI (by omega) }
  refine rC.enter l5 hc (ho us h) (by rw [hl]; exact hn) ((hb (entry h) (own γ) S _ (entry h) [] I0).mono fun e fr h1 hq => ?_); obtain ⟨_, eQ, aQ, jH, he, ps, GB, hQ, hkd⟩ := hq; obtain ⟨h2, d1, d2, d3⟩ := sD jH.marks fun d hd => (jH.mark d hd).2
  have jU : ∀ b o, h1.get b = some o -> o ≠ .iR -> h2.get b = some o := fun b o hg cM => by
    rw [d3 b (fun hm => cM (by have := (jH.mark b hm).2; rw [hg] at this; exact Option.some.inj this))]; exact hg
  have a2 : cO (entry h) h2 (own γ) := jH.gC.trans d2 fun i hi => .inr (jH.mark i hi).1; have L1 := jH.lc; have Lz : Lc (own aQ ++ S) h1 [] fr.t eQ := ⟨L1.ok, L1.lt, (fun c hc => by cases hc), (fun b hb => by cases hb), List.nodup_nil, L1.aH⟩; obtain ⟨uT, e1, e2⟩ := GB.ok Lz jU (fun b _ hg cM sN => ⟨jU b _ hg cM, sN⟩); have nG := KT e2
  have rN : ∀ c ∈ aQ, ∀ b ∈ cW c.1, h2.get b = h1.get b := fun c hc b hb => by
    obtain ⟨o, hg, cM⟩ := (jH.cells c hc).isObj b hb; rw [jU b _ hg cM, hg]
  have u9 : ∀ c ∈ aQ, bS h2 (own aQ ++ S) c.1 c.2 := fun c hc => by
    have hx := jH.cells c hc; have hN : pI h1 (own aQ ++ S) h2 (own aQ ++ S) := fun b _ hg cM sN => ⟨jU b _ hg cM, sN⟩; have hgb := rN c hc; obtain ⟨w, cc⟩ := c
    cases cc with
    | row e τ xs =>
      rcases hx with hx | ⟨b, rs, m, h3, h4, h5, h6⟩
      . exact .inl hx
      exact .inr ⟨b, rs, m, h3, h4, jU b _ h5 (by simp), h6.1, fun i hi => (h6.2 i hi).mG hN⟩
    | var cs =>
      obtain ⟨b, e, vs, h3, h4, h5, h6, h7⟩ := hx
      exact ⟨b, e, vs, h3, h4, jU b _ h5 (by simp), h6.mG hN, h7⟩
    | cap e k τ xs =>
      obtain ⟨b, rs, m, h3, h4, h5, h6, h7, h8⟩ := hx
      exact ⟨b, rs, m, h3, h4, jU b _ h5 (by simp), h6, h7, h8.1, fun i hi => (h8.2 i hi).mG hN⟩
    | mp κ ν kvs =>
      obtain ⟨b, es, c, h3, h4, h5, h6, h7⟩ := hx
      exact ⟨b, es, c, h3, h4, jU b _ h5 (by simp), h6, fun i hi hj => ⟨⟨(h7 i hi hj).1.1, (h7 i hi hj).1.2.mG hN⟩, ⟨(h7 i hi hj).2.1, (h7 i hi hj).2.2.mG hN⟩⟩⟩
    | it s pos =>
      obtain ⟨b, h3, h4, h5⟩ := hx
      exact ⟨b, h3, h4, jU b _ h5 (by simp)⟩
    | loop st jump n fl ps assign body =>
      obtain ⟨l, tmps, d, h3, h4, h5, h6⟩ := hx
      exact ⟨l, tmps, d, h3, h4, jU l _ h5 (by simp), h6.mG hN⟩
    | tP e n cs =>
      rcases hx with hx | ⟨b, rs, m, h3, h4, h5, h6, h7⟩
      . exact .inl hx
      exact .inr ⟨b, rs, m, h3, h4, jU b _ h5 (by simp), h6.mG hN, h7⟩
  have WR : ∀ b ∈ own aQ, b ∈ own γ \/ h.next <= b := fun b hb => (jH.new b hb).1; refine ⟨he, h2, uT, d1, e1, ?_⟩; unfold leftOf
  cases pW : (af (iM uT) && Nat.ble h.next h2.low) with
  | true =>
    obtain ⟨EF, dV⟩ := b6 pW; have dV := fP dV; rcases hkd with ⟨w, e, k, τ, xs, N7, hw2⟩ | ⟨WM, ho2⟩ | ⟨w, e, τ, xs, N7, hw2, QB⟩ | ⟨hg0, am4⟩
    . exfalso; rw [N7] at nG; have QB : iM uT = w := nG; obtain ⟨b, rs, _, h3, _⟩ := jH.cells _ hw2; have NA : w = .slice (some ⟨b, 0, none⟩) xs.length 0 := h3; rw [QB, NA] at EF; cases hx : xs.length <;> rw [hx] at EF <;> cases EF
    . have k8 : ∀ b, b < h.next -> h2.get b = h.get b := fun b hb => by
        rcases a2.chg b hb with h3 | h3
        . exact h3
        omega
      refine ⟨_, aQ, hQ, ⟨cO.refl _ _, fun b hb => .inl (by rw [<- WM]; exact hb), by rw [WM]; exact jT, fun c hc => ?_⟩, nG.KS EF⟩; refine (u9 c hc).flat (ho2 c hc) fun b hb => ?_; have DY : b ∈ own aQ := List.mem_flatMap.2 ⟨c, hc, hb⟩; have Q5 : b < h.next := QJ dD bW b (by rw [<- WM]; exact DY); exact ⟨(k8 b Q5).symm, List.mem_append_left _ DY⟩
    . subst hw2 QB; rw [N7] at nG; have hw4 : iM uT = w := nG; rcases jH.cells _ List.mem_cons_self with ⟨SM, tO⟩ | ⟨b, rs, m, h3, _⟩
      . have aiP : w = .slice none 0 0 := SM; refine ⟨_, _, hQ, ⟨cO.refl _ _, fun b hb => ?_, ?_, fun c hc => ?_⟩, ?_⟩
        . rw [aiP] at hb; cases hb
        . rw [aiP]; exact List.nodup_nil
        . rw [List.mem_singleton.1 hc]; exact .inl ⟨SM, tO⟩
        rw [N7]; exact hw4
      exfalso; have NA : w = .slice (some ⟨b, 0, none⟩) xs.length 0 := h3; rw [hw4, NA] at EF; cases hx : xs.length <;> rw [hx] at EF <;> cases EF
    obtain ⟨z1, z2⟩ := am4 h2 (own aQ ++ S) _ nG u9 EF; refine ⟨_, aQ, hQ, ⟨cO.refl _ _, fun b hb => ?_, ?_, fun c hc => z2 _ _ c hc⟩, nG.KS EF⟩
    . rw [z1] at hb; cases hb
    rw [z1]; exact List.nodup_nil
  | false =>
    refine ⟨_, aQ, hQ, ⟨⟨a2.next, a2.get, fun x => a2.ok x, fun e h3 h4 h5 => Nat.le_min.2 ⟨h3, a2.low e (Nat.le_trans h4 (Nat.le_refl _)) h4 h5⟩, fun b hb => ?_, Nat.min_le_left _ _⟩, WR, jH.apart, fun c hc => (u9 c hc).aW (fun _ _ => rfl) (fun _ _ a b => ⟨a, b⟩) fun b hb => List.mem_append_left _ (List.mem_flatMap.2 ⟨c, hc, hb⟩)⟩, aJ.nx (h := h2) (h' := { next := h2.next, low := min h.low h2.low, aB := h2.aB }) (fun _ _ a b => ⟨a, b⟩) nG⟩; rcases a2.chg b hb with h3 | h3
    . exact .inl h3
    exact .inr (Nat.le_trans (Nat.min_le_right _ _) h3)
end Go.Fs
