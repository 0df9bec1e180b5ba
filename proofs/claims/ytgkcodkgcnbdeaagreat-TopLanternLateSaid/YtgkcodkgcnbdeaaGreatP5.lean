/- Parts of the proof: an evaluator of the model, what it is sound for, and contracts of functions. No condition. -/
import Derived.Test.YtgkcodkgcnbdeaaGreatP2
import Derived.Test.YtgkcodkgcnbdeaaGreatP4
import Derived.Scope
import Derived.Lib.ItoaNum
import Derived.Lib.Join
import Derived.Sort.OwnSorted
import Ieee.Arith
set_option linter.all false
namespace Go
variable {P : Program}
theorem kM {b : Frame} {a : Act} {k : List Item} {cs : List Frame} {w : World} {c : Code} : step P (lone (b.atR a (.code (.scope c) :: k)) cs w) = .next (lone (b.atR a (.code c :: .inScope c :: k)) cs w) :=
  step_lone_go (by simp [stepG, stepG.exec, Frame.atR])
theorem GH {b : Frame} {a : Act} {k : List Item} {cs : List Frame} {w : World} {c : Code} : step P (lone (b.atR a (.inScope c :: k)) cs w) = .next (lone (b.atR a k) cs w) :=
  step_lone_go (by simp [stepG, stepG.exec, Frame.atR])
theorem NC {F : Fence} {n : Nat} {Q : Exit -> Act -> World -> Prop} {a : Act} {w : World} {c : Code} (h : c.wpIn F n P (Exit.noGoto Q) a w) : (Code.scope c).wpIn F n P Q a w := by
  intro b k cs hro hb hr; have h0 : (lone (b.atR a (.code (.scope c) :: k)) cs w).fenced P F := fenced_calm hb hr rfl; obtain ⟨e, TA, TB, hq, OG⟩ := h b (.inScope c :: k) cs hro hb hr
  cases e with
  | normal => exact ⟨.normal, TA, TB, hq, .head h0 kM (StepsIn.trans OG (.one (fenced_calm hb hr rfl) GH))⟩
  | exit id =>
    have hx : exitTo id (.inScope c :: k) = exitTo id k := by simp [exitTo]
    exact ⟨.exit id, TA, TB, hq, fun k' hk => .head h0 kM (OG.1 k' (by rw [hx]; exact hk)),
      fun hr' hk => let ⟨k₁, h1, h2⟩ := OG.2 hr' (by rw [hx]; exact hk); ⟨k₁, h1, .head h0 kM h2⟩⟩
  | goto l => exact hq.elim
  | ret => exact ⟨_, TA, TB, hq, .of_steps (.one h0 kM) OG⟩
  | panic ch => exact ⟨_, TA, TB, hq, .of_steps (.one h0 kM) OG⟩
  | outgrown => exact ⟨_, TA, TB, hq, .of_steps (.one h0 kM) OG⟩
end Go
namespace Go.Fs
open Go.RowKit (Below)
variable {P : Program} {ρ bT : Ren} {S S' : Nat -> Prop} {B : Nat} {w0 w w' w1 w2 : World} {h h' h1 h2 : aA}
theorem yT (hP : lW P) {orc : FuncId -> List Value -> aA -> Option (Value × aA)} (o4 : eN P B w0 orc) {m : Nat} {rec : Rec} (jS : pF P B w0 m rec) : lG P B w0 (eG P orc rec) := by
  intro f args h v h' hf; unfold eG at hf; split at hf
  . rename_i r hr; simp only [Option.some.injEq] at hf; subst hf; exact .inl (o4 _ _ _ _ _ hr)
  split at hf
  . rename_i r hr; simp only [Option.some.injEq] at hf; subst hf; refine .inr fun ρ S w args' jZ ha => ?_; unfold FI at hr; split at hr
    . rename_i fn l5; obtain ⟨hb, hr3⟩ := aT hr; obtain ⟨s4, rD⟩ := b6 hb; split at hr3
      . rename_i e h1 h2; obtain ⟨pW, hr4⟩ := aT hr3; obtain ⟨hp, rfl⟩ := fF hr4; obtain ⟨h3, h4⟩ := qE hp w; have he : args' = args := ha.dR pW; subst he; refine ⟨w, v, ?_, ρ, aZ.same jZ, .mJ h4⟩; unfold callFunc
        have am6 : (fn.name == "runtime.NumGoroutine") = false := by simpa using rD
        simp only [Sem.run_bind, run_program, Result.andThen_ok, l5, s4, am6, Bool.false_eq_true, if_false, if_true, h1, h2]; have hm : (mark (Mark.extern f)).run P w = .ok () w := rfl; rw [hm]; simp only [Result.andThen_ok, h3, Sem.run_pure]
      cases hr3
    cases hr
  exact .inl (DZ hP jS _ _ _ _ _ hf)
theorem tY.same {fr : Fr} {a : Act} (hr : HR P ρ S B w0 h w) (ht : lF ρ S fr.t fr.n a.tmps) (hm : s5 ρ S fr.marks a.defers) : tY P B w0 ρ ρ S h w fr h w a :=
  ⟨aZ.same hr, ht.mono fun _ hb => ⟨.inl hb, rfl⟩, hm.mono fun _ hb => ⟨.inl hb, rfl⟩⟩
theorem HI (hP : lW P) {orc : FuncId -> List Value -> aA -> Option (Value × aA)} (o4 : eN P B w0 orc) {m : Nat} {rec : Rec} (jS : pF P B w0 m rec) : pF P B w0 (m + 1) (bF P orc rec) := by
  intro b7 c fr h e lE h' bW hf ρ S w a nn Q hr ht hm hs k; have gW : lG P B w0 (eG P orc rec) := yT hP o4 jS; have pX : gD P B w0 (eJ rec) := E0 jS
  cases c with
  | skip =>
    simp only [bF, Option.some.injEq, Prod.mk.injEq] at hf; obtain ⟨rfl, rfl, rfl⟩ := hf
    exact wpIn_skip (k _ _ _ (tY.same hr ht hm))
  | label l =>
    simp only [bF, Option.some.injEq, Prod.mk.injEq] at hf; obtain ⟨rfl, rfl, rfl⟩ := hf
    exact wpIn_label (k _ _ _ (tY.same hr ht hm))
  | exit id =>
    simp only [bF, Option.some.injEq, Prod.mk.injEq] at hf; obtain ⟨rfl, rfl, rfl⟩ := hf
    exact wpIn_exit (k _ _ _ (tY.same hr ht hm))
  | ret =>
    simp only [bF, Option.some.injEq, Prod.mk.injEq] at hf; obtain ⟨rfl, rfl, rfl⟩ := hf
    exact wpIn_ret (k _ _ _ (tY.same hr ht hm))
  | goto l => simp only [bF] at hf; cases hf
  | refuse l => simp only [bF] at hf; cases hf
  | scope b =>
    simp only [bF] at hf; refine NC ?_; refine (jS b7 b fr h e lE h' bW hf ρ S w a nn _ hr ht hm hs fun cS w1 a1 p1 => ?_).wpIn; have hq := k _ _ _ p1
    cases e with
    | normal => exact hq
    | exit id => exact hq
    | ret => exact hq
  | seq x y =>
    simp only [bF] at hf; obtain ⟨ok1, ok2⟩ := b6 (show (codeOk x && codeOk y) = true from bW); refine wpIn_seq ?_; split at hf
    . rename_i fr1 h1 eK; refine (jS b7 x fr h _ fr1 h1 ok1 eK ρ S w a nn _ hr ht hm hs fun cS w1 a1 p1 => ?_).wpIn; show y.wpIn (tX ρ b7) nn P Q a1 w1; rw [<- SP hs p1.cI.agree]; exact (jS b7 y fr1 h1 e lE h' ok2 hf cS _ w1 a1 nn Q p1.cI.hr p1.tmps p1.marks (fun l hl => .inl (hs l hl)) fun iZ w2 a2 p2 => k _ _ _ (tY.trans (fr1 := fr1) (a1 := a1) p1.cI p2)).wpIn
    rename_i cM; refine (jS b7 x fr h e lE h' ok1 hf ρ S w a nn _ hr ht hm hs fun cS w1 a1 p1 => ?_).wpIn; have hq := k _ _ _ p1
    cases e with
    | normal => exact (cM _ _ hf).elim
    | exit id => exact hq
    | ret => exact hq
  | cond x y z =>
    simp only [bF] at hf; obtain ⟨ok1, ok2⟩ := b6 (show (codeOk y && codeOk z) = true from bW); have bY := ht.eval a.defers x; split at hf
    . rename_i hx; rw [hx] at bY; exact wpIn_cond_true bY.vB (jS b7 y fr h e lE h' ok1 hf ρ S w a nn Q hr ht hm hs k).wpIn
    . rename_i hx; rw [hx] at bY; exact wpIn_cond_false bY.vB (jS b7 z fr h e lE h' ok2 hf ρ S w a nn Q hr ht hm hs k).wpIn
    cases hf
  | block id b =>
    simp only [bF] at hf; refine wpIn_block ?_; split at hf
    . rename_i xT fr1 h1 eK; refine (jS b7 b fr h _ fr1 h1 bW eK ρ S w a nn _ hr ht hm hs fun cS w1 a1 p1 => ?_).wpIn
      cases hb : Nat.beq xT id with
      | true =>
        rw [hb] at hf; simp only [cond_true, Option.some.injEq, Prod.mk.injEq] at hf; obtain ⟨rfl, rfl, rfl⟩ := hf; have := k _ _ _ p1; simp only [ZC, Exit.inBlock, bU hb, if_true]
        exact this
      | false =>
        rw [hb] at hf; simp only [cond_false, Option.some.injEq, Prod.mk.injEq] at hf; obtain ⟨rfl, rfl, rfl⟩ := hf; have := k _ _ _ p1; simp only [ZC, Exit.inBlock, if_neg (gA hb)]; exact this
    rename_i cM; refine (jS b7 b fr h e lE h' bW hf ρ S w a nn _ hr ht hm hs fun cS w1 a1 p1 => ?_).wpIn; have hq := k _ _ _ p1
    cases e with
    | normal => exact hq
    | exit xT => exact (cM _ _ _ hf).elim
    | ret => exact hq
  | loop b =>
    simp only [bF] at hf; show Code.roundsIn (tX ρ b7) nn P b Q (m + 1) a w; rw [roundsIn_succ]; split at hf
    . rename_i fr1 h1 eK; refine (jS b7 b fr h _ fr1 h1 bW eK ρ S w a nn _ hr ht hm hs fun cS w1 a1 p1 => ?_).wpIn; show Code.roundsIn (tX ρ b7) nn P b Q m a1 w1; rw [<- SP hs p1.cI.agree]; exact jS b7 (.loop b) fr1 h1 e lE h' bW hf cS _ w1 a1 nn Q p1.cI.hr p1.tmps p1.marks (fun l hl => .inl (hs l hl)) fun iZ w2 a2 p2 => k _ _ _ (tY.trans (fr1 := fr1) (a1 := a1) p1.cI p2)
    rename_i cM; refine (jS b7 b fr h e lE h' bW hf ρ S w a nn _ hr ht hm hs fun cS w1 a1 p1 => ?_).wpIn; have hq := k _ _ _ p1
    cases e with
    | normal => exact (cM _ _ hf).elim
    | exit id => exact hq
    | ret => exact hq
  | region id ops draw =>
    cases draw with
    | false =>
      simp only [bF] at hf; split at hf
      . rename_i t h1 eK; simp only [Option.some.injEq, Prod.mk.injEq] at hf; obtain ⟨rfl, rfl, rfl⟩ := hf; refine wpIn_region ?_; exact PS (step := sG P (eG P orc rec) (eJ rec)) rfl gW pX _ _ ρ S w a fr.t h VZ hr ht eK fun cS w1 a1 m1 DP FU => k _ _ _ ⟨m1, DP, by rw [FU]; exact hm.mono fun b hb => ⟨.inl hb, m1.agree b hb⟩⟩
      cases hf
    | true =>
      simp only [bF] at hf
      cases hl : BX ops with
      | false =>
        rw [hl] at hf; simp only [cond_false] at hf; split at hf
        . rename_i s eK; simp only [Option.some.injEq, Prod.mk.injEq] at hf; obtain ⟨rfl, rfl, rfl⟩ := hf; refine wpIn_region_draw fun t => ?_; rw [hP.mixed]; exact aaY (call := eG P orc rec) (yield := eJ rec) gW pX bW eK (hr.drew _) ht (fun cS w1 a1 m1 DP FU => k _ _ _ ⟨aZ.wH m1, DP, by rw [FU]; exact hm.mono fun b hb => ⟨.inl hb, m1.agree b hb⟩⟩) t
        cases hf
      | true =>
        rw [hl] at hf; simp only [cond_true] at hf; split at hf
        . rename_i s eK; simp only [Option.some.injEq, Prod.mk.injEq] at hf; obtain ⟨rfl, rfl, rfl⟩ := hf; refine wpIn_region_draw fun t => ?_; rw [hP.mixed]; exact WX (call := eG P orc rec) (yield := eJ rec) gW pX bW eK (hr.drew _) ht (fun cS w1 a1 m1 DP FU => k _ _ _ ⟨aZ.wH m1, DP, by rw [FU]; exact hm.mono fun b hb => ⟨.inl hb, m1.agree b hb⟩⟩) t
        cases hf
  | rangeFunc g ps assign body =>
    simp only [bF] at hf; obtain ⟨ok1, ok2⟩ := b6 (show (codeOk assign && codeOk body) = true from bW); exact G9 hP jS ok1 ok2 hf hr ht hm hs k
theorem HJ (hP : lW P) {orc : FuncId -> List Value -> aA -> Option (Value × aA)} (o4 : eN P B w0 orc) : ∀ m, pF P B w0 m (dH P orc m)
  | 0 => fun b7 c fr h e lE h' _ hf => by cases hf
  | m + 1 => HI hP o4 (HJ hP o4 m)
end Go.Fs
namespace Go.Fs
open Go.RowKit (Below)
variable {P : Program}
theorem aeG (hP : lW P) {B : Nat} {w0 w : World} {orc : FuncId -> List Value -> aA -> Option (Value × aA)} (o4 : eN P B w0 orc) {ρ : Ren} {S : Nat -> Prop} {h : aA} {f : FuncId} {args args' : List Value} {v : Value}
    (hE : Enters P f) (hr : HR P ρ S B w0 h w) (ha : LR ρ S args args') (he : rC P orc f args h fun u _ => u = v) (hv : af v = true) : Calls P f args'.toArray w fun | .returned v', w' => v' = v /\ Below B w0 w' | _, _ => False := by
  obtain ⟨m, u, h', h1, rfl⟩ := he
  have hc : CallsIn Fence.wide 0 P f args'.toArray w (xN P B w0 ρ S h w u h') := by
    rcases yT hP o4 (HJ hP o4 m) f args h u h' h1 with h2 | h2
    . exact h2.2 ρ S w args' hr ha 0
    obtain ⟨w', v', h3, _⟩ := h2 ρ S w args' hr ha; rw [uP hE] at h3; simp at h3
  refine Calls.mono (callsIn_wide.1 hc) fun e w' he => ?_
  cases e with
  | returned v' =>
    obtain ⟨bT, m1, WE⟩ := he
    exact ⟨WE.dR hv, m1.hr.below⟩
  | panicked c => exact he.elim
  | outgrown => exact he.elim
end Go.Fs
namespace Go.Fs
open Go.RowKit (Below)
variable {P : Program}
variable {B : Nat} {w0 w w' : World} {ρ : Ren} {S : Nat -> Prop} {h : aA}
end Go.Fs
namespace Go.Fs
open Go.RowKit (Below)
variable {P : Program}
end Go.Fs
namespace Go.Fs
open Go.RowKit (Below)
open Go.Sort Go.Proofs
variable {P : Program}
variable {B : Nat} {w0 w w' : World} {ρ : Ren} {S : Nat -> Prop} {h : aA}
end Go.Fs
namespace Go.Fs
open Go.RowKit (Below)
open Go.Sort Go.Proofs
variable {P : Program}
structure anP (IK : List Value -> Option (List Value)) : Prop where
  len : ∀ vs gV, IK vs = some gV -> gV.length = vs.length
  ino : ∀ vs gV, IK vs = some gV -> vs.all eF = true
  out : ∀ vs gV, IK vs = some gV -> gV.all eF = true
variable {B : Nat} {w0 w w' : World} {ρ : Ren} {S : Nat -> Prop} {h : aA}
end Go.Fs
namespace Go.Fs
variable {P : Program} {fl : VL} {σ γ : aX} {Q : PV -> aX -> Prop} {fn : Func}
variable {p q r : ByteArray}
variable {x y : Operand} {T T' : TypeId}
end Go.Fs
namespace Go.Fs
variable {P : Program} {orc : FuncId -> List Value -> aA -> Option (Value × aA)} {b7 : Option Nat} {h h' h0 h1 h2 : aA} {S S' S0 : List Nat} {σ aQ : aX} {t t' : Tr} {ms : List Nat} {fl : VL} {ops : Array Oper} {n i mem : Nat} {l : List Oper} {K : VL -> aX -> Prop}
  {d : Tmp} {ty : TypeId} {pos : String} {after : Array Edge} {op : Op} {v pv : PV} {g : Option (Nat × Bool)} {x y z : Operand} {T T' e : TypeId} {τ τ' : Ty}
inductive FnL : List PV -> List PV -> Prop where
  | nil : FnL [] []
  | same {p : PV} {l l' : List PV} (hl : FnL l l') : FnL (p :: l) (p :: l')
  | fn {f : FuncId} {l l' : List PV} (hl : FnL l l') : FnL (.mF f [] [] :: l) (.v .fn (some f) :: l')
end Go.Fs
namespace Go.Fs
variable {P : Program} {orc : FuncId -> List Value -> aA -> Option (Value × aA)} {b7 : Option Nat} {h h' h0 h1 h2 hr : aA} {S S' S0 B G A : List Nat} {σ aQ oI ρ : aX} {t t' : Tr} {ms : List Nat} {fl : VL} {ops : Array Oper} {n i mem : Nat} {l : List Oper} {K : VL -> aX -> Prop} {Q : Ex -> VL -> aX -> Prop}
  {d : Tmp} {ty : TypeId} {pos : String} {after : Array Edge} {op : Op} {v pv : PV} {g : Option (Nat × Bool)} {x y z : Operand} {T T' e : TypeId} {τ τ' : Ty} {bs nw rd chg : List Nat} {segs : List (Nat × Nat × Nat)} {tail tl : Bool} {w w' : Value}
section
variable (P orc)
def BC (hr : aA) (ops : Array Oper) (n : Nat) (l : List Oper) (i : Nat) (x : wB) (Q : wB -> Prop) : Prop := ∃ m x', jY P hr (mY P orc m) ops n l i x = some x' /\ Q x'
end
theorem BC.nil {x : wB} {QL : wB -> Prop} (hq : QL x) : BC P orc hr ops n [] i x QL := ⟨0, x, rfl, hq⟩
theorem BC.WY {o : Oper} {x x' : wB} {QL : wB -> Prop} (hs : eV P hr (fH P) ops n o i x = some x') (hl : BC P orc hr ops n l (i + 1) x' QL) : BC P orc hr ops n (o :: l) i x QL := by
  obtain ⟨m, s2, hf, hq⟩ := hl; refine ⟨m, s2, ?_, hq⟩; simp only [jY, xZ (FK m) hs]; exact hf
def vK : Op -> Bool
  | .load .. => true
  | .call { callee := .builtin .len, .. } => true
  | .slice .. => true
  | _ => false
theorem A5 {ev : Operand -> Value} {nx : Nat} (hq : vK op = false) : zP P hr op ev nx = none := by
  unfold zP; split
  . cases hq
  . cases hq
  . cases hq
  rfl
theorem gM.late {id : Nat} {fr : Fr} {QC : Ex -> Fr -> aA -> Prop} (hl : BX ops = true) (ho : BC P orc h ops fr.n ops.toList 0 (⟨fr.t, h, [], [], 0, false⟩, [], []) fun x => IW x = true /\ QC .normal { t := x.1.t, n := fr.n, marks := fr.marks } x.1.h) : gM P orc b7 (.region id ops true) fr h QC := by
  obtain ⟨m, x, hf, ha, hq⟩ := ho; refine ⟨m + 1, .normal, _, _, ?_, hq⟩; show bF P orc (dH P orc m) b7 (.region id ops true) fr h = _; unfold mY at hf; simp only [bF, hl, cond_true, tU, hf, ha]
structure tA (hr h : aA) (S0 A : List Nat) (σ ρ : aX) (t : Tr) (fl : VL) (nw rd chg : List Nat) : Prop where
  ok : mZ hr
  lt : QG hr (A ++ S0)
  next : hr.next <= h.next
  kB : cV hr (A ++ S0) h (own σ ++ S0)
  aH : ∀ k pv, jG fl k = some pv -> l8 nw k = false -> aJ hr (A ++ S0) pv (t.get k)
  suf : ∃ mO, σ = mO ++ ρ
  cells : ∀ c ∈ ρ, bS hr (A ++ S0) c.1 c.2
  fix : ∀ b ∈ own ρ, b ∈ A
  new : ∀ b ∈ own σ, b ∈ A \/ hr.next <= b
  rd : ∀ b ∈ rd, b < hr.next /\ (b ∈ own ρ \/ b ∉ A)
  chg : ∀ k ∈ chg, k ∉ own ρ /\ (k ∈ A \/ hr.next <= k)
section
variable (P orc)
def qK (ops : Array Oper) (n : Nat) (l : List Oper) (i : Nat) (fl : VL) (nw : List Nat) (σ ρ : aX) (bs : List Nat) (mem : Nat) (tl : Bool) (K : VL -> aX -> Prop) : Prop :=
  ∀ (hr h0 : aA) (G S0 A : List Nat) (t : Tr) (h : aA) (ms rd chg : List Nat) (segs : List (Nat × Nat × Nat)) (tail : Bool), (tl = false -> tail = false) -> Iv h0 G S0 h σ t ms fl -> tA hr h S0 A σ ρ t fl nw rd chg ->
    BC P orc hr ops n l i (⟨t, h, bs, segs, mem, tail⟩, rd, chg) fun x => IW x = true /\ ∃ eQ aQ, Iv h0 G S0 x.1.h aQ x.1.t ms eQ /\ K eQ aQ
end
theorem qK.nil (hk : K fl σ) : qK P orc ops n [] i fl nw σ ρ bs mem tl K := fun hr h0 G S0 A t h ms rd chg segs tail ht I L => by
  refine BC.nil ⟨?_, fl, σ, I, hk⟩; refine List.all_eq_true.2 fun b hb => List.all_eq_true.2 fun k hk => ?_; obtain ⟨r1, r2⟩ := L.rd b hb; obtain ⟨c1, c2⟩ := L.chg k hk
  have cM : b ≠ k := by
    intro e; subst e; rcases r2 with r2 | r2
    . exact c1 r2
    rcases c2 with c2 | c2
    . exact r2 c2
    omega
  rw [eD cM]; rfl
theorem qK.go {b : Code} (hx : U P orc b7 b n fl σ Q) : qK P orc ops n [] i fl nw σ ρ bs mem tl fun fl σ => KP P orc b7 n b Q .normal fl σ := qK.nil hx
theorem tA.set {u : Value} {old : Bool} (L : tA hr h S0 A σ ρ t fl nw rd chg) (hd : d < 4000) (hu : old = true -> aJ hr (A ++ S0) v u) : tA hr h S0 A σ ρ (t.set depth d u) ((d, v) :: fl) (fM old d nw) rd chg :=
  { L with
    aH := fun k pv hk hn => by
      rw [zV t d u k hd]; simp only [jG] at hk
      cases hb : Nat.beq d k with
      | true =>
        rw [hb] at hk; simp only [cond_true, Option.some.injEq] at hk; subst hk; rw [if_pos (bU hb).symm]
        cases old with
        | true => exact hu rfl
        | false =>
          simp only [fM, cond_false, l8, hb, cond_true] at hn
          cases hn
      | false =>
        rw [hb] at hk; simp only [cond_false] at hk; have cM := gA hb; rw [if_neg (Ne.symm cM)]; refine L.aH k pv hk ?_
        cases old with
        | true => rw [fM, cond_true, o3 (Ne.symm cM)] at hn; exact hn
        | false => simpa only [fM, cond_false, l8, hb] using hn }
theorem tA.read (L : tA hr h S0 A σ ρ t fl nw rd chg) {b : Nat} (hb : b < hr.next /\ (b ∈ own ρ \/ b ∉ A)) : tA hr h S0 A σ ρ t fl nw (b :: rd) chg :=
  { L with
    rd := fun k hk => by
      rcases List.mem_cons.1 hk with rfl | hk
      . exact hb
      exact L.rd k hk }
theorem tA.made (L : tA hr h S0 A σ ρ t fl nw rd chg) (I : Iv h0 G S0 h σ t ms fl) (m : Made S0 h h' σ aQ) (hs : ∃ mO, aQ = mO ++ ρ) : tA hr h' S0 A aQ ρ t fl nw rd chg :=
  { L with
    next := Nat.le_trans L.next m.gC.next
    kB := L.kB.trans (I.kB (fun _ hb => hb) m.gC m.new)
    suf := hs
    new := fun b hb => by
      rcases m.new b hb with h3 | h3
      . exact L.new b h3
      have := L.next
      exact .inr (by omega) }
theorem qK.c {b : Nat} (hc : aI P fl [] op v) (hk : qK P orc ops n l (i + 1) ((d, v) :: fl) (fM (GC nw op || v.iP) d nw) σ ρ (bs ++ [b]) mem tl K)
    (hb : aP bs ⟨some d, op, ty, pos, after, g⟩ = b := by rfl) (hw : cX ops fl g = some true := by rfl) (hn : (Nat.blt d n && Nat.ble n 4000) = true := by rfl) :
    qK P orc ops n (⟨some d, op, ty, pos, after, g⟩ :: l) i fl nw σ ρ bs mem tl K := fun hr h0 G S0 A t h ms rd chg segs tail ht I L => by
  obtain ⟨n1, n2⟩ := fits hn; obtain ⟨u, e1, e2⟩ := hc.2 h (own σ ++ S0) t I.aH.r8 (fun _ hc => by cases hc); refine BC.WY (x' := (⟨t.set depth d u, h, bs ++ [b], segs, mem, tail⟩, rd, chg)) ?_ (hk hr h0 G S0 A _ h ms rd chg segs tail ht (I.set e1 n2) (L.set n2 fun hold => ?_))
  . unfold eV; have sL : bJ ops t ⟨some d, op, ty, pos, after, g⟩ = some true := cH I.aH hw; simp only [sL, hc.1, if_true, e2, Nat.beq_refl, cond_true, bV n1, Option.map_some, hb]
  rcases Bool.or_eq_true_iff.1 hold with hold | hold
  . obtain ⟨u', f1, f2⟩ := hc.2 hr (A ++ S0) t (zZ L.aH hold) (fun _ hc => by cases hc)
    have : u' = u := by
      have g1 := e2 none 0 "" #[] none h; rw [f2 none 0 "" #[] none h] at g1; simpa using g1
    rw [<- this]; exact f1
  exact (aJ.iP hold e1).2 _ _
theorem WZ {b o : Nat} {ob : bB} {H : aA} {nx : Nat} {u : Value} (hg : H.get b = some ob) (hv : eU P T (.pointer (some ⟨b, o, none⟩)) H = some u) : eU P T (.pointer (some ⟨b, o, none⟩)) { next := nx, low := nx, aB := [(b, ob)] } = some u := by
  unfold eU at hv ⊢; simp only at hv ⊢
  have : aA.get { next := nx, low := nx, aB := [(b, ob)] } b = some ob := by
    show look [(b, ob)] b = some ob; simp [look]
  rw [this]; rw [hg] at hv; exact hv
theorem TC {b b0 o0 : Nat} {ob : bB} {u : Value} (hx : aC t x = .pointer (some ⟨b0, o0, none⟩)) (hg : hr.get b0 = some ob) (bL : b0 < hr.next) (hv : eU P T (.pointer (some ⟨b0, o0, none⟩)) hr = some u)
    (hb : aP bs ⟨some d, .load T x, ty, pos, after, g⟩ = b) (hw : bJ ops t ⟨some d, .load T x, ty, pos, after, g⟩ = some true) (n1 : Nat.blt d n = true) :
    eV P hr (fH P) ops n ⟨some d, .load T x, ty, pos, after, g⟩ i (⟨t, h, bs, segs, mem, tail⟩, rd, chg) = some (⟨t.set depth d u, h, bs ++ [b], segs, mem, tail⟩, b0 :: rd, chg) := by
  have hq : zP P hr (.load T x) (aC t) h.next = some (u, [b0]) := by
    have Q5 : Nat.blt b0 hr.next = true := by rw [Nat.blt_eq]; exact bL
    simp only [zP, hx, hg, Q5, cond_true, WZ (nx := h.next) hg hv, Option.map_some]
  unfold eV; simp only [hw, show calm (Op.load T x) = false from rfl, Bool.false_eq_true, if_false, hq, bV n1, Option.map_some, hb]; rfl
theorem X0 {b : Nat} {o : Oper} {u : Value} {t2 : Tr} (hb : aP bs o = b) (hp : put n t o.dst u = some t2) (wF : calm o.op = false) (Q6 : vK o.op = false) (hw : bJ ops t o = some true) (iW : Nat.beq (mem &&& b) mem = true) (bW : mZ h) (bR : fH P o (aC t) (entry h) = some (u, h')) (hB : cO (entry h) h' B)
    (htu : h.next <= h'.low \/ ∃ k, rV o.op (aC t) = some k) :
    ∃ h2 oK EH, eV P hr (fH P) ops n o i (⟨t, h, bs, segs, mem, tail⟩, rd, chg) = some (⟨t2, h2, bs ++ [b], (i, h.next, h'.next) :: segs, mem ||| 2 ^ i, oK⟩, rd, EH) /\ (∀ b, h2.get b = h'.get b) /\ h2.next = h'.next /\ cO h h2 B /\ ((EH = chg /\ oK = tail) \/ ∃ k, rV o.op (aC t) = some k /\ ¬ h.next <= h'.low /\ EH = k :: chg) := by
  have j6 := hB.next; have aeA : Nat.blt h'.next h.next = false := l6 j6; unfold eV; simp only [hw, wF, Bool.false_eq_true, if_false, A5 Q6]; unfold nP; simp only [hb, iW, Bool.not_true, Bool.and_false, cond_false, cond_true]; unfold entry at bR; rw [bR]; simp only [aeA, cond_false, hp]
  cases dV : Nat.ble h.next h'.low with
  | true =>
    have hl := fP dV
    have k8 : ∀ b, b < h.next -> h'.get b = h.get b := fun b hb => by
      rcases hB.chg b hb with h3 | h3
      . exact h3
      omega
    have jE : ∀ b, look (bH h.next h'.next h'.aB ++ h.aB) b = h'.get b := fun b => by
      rw [iN]; by_cases hb : b < h.next
      . cases lS : look (bH h.next h'.next h'.aB) b with
        | some o => have := (eO _ _ _ lS).1; omega
        | none => exact (k8 b hb).symm
      have hold : look h.aB b = none := by
        cases lS : look h.aB b with
        | none => rfl
        | some o => exact absurd (bW b o lS) hb
      rw [hold, Option.or_none]
      cases lS : look h'.aB b with
      | some o =>
        have : b < h'.next := hB.ok bW b o lS; rw [zW _ _ (by omega) this, lS]
        exact lS.symm
      | none =>
        cases hl3 : look (bH h.next h'.next h'.aB) b with
        | none => exact lS.symm
        | some o => rw [(eO _ _ _ hl3).2] at lS; cases lS
    refine ⟨_, _, _, rfl, jE, rfl, ⟨j6, fun b hb hn => (jE b).trans (hB.get b hb hn), fun _ b o hg => ?_, fun e h3 _ _ => h3, fun b hb => .inl ((jE b).trans (k8 b hb)), Nat.le_refl _⟩, .inl ⟨rfl, rfl⟩⟩
    exact hB.ok bW b o ((jE b).symm.trans hg)
  | false =>
    rcases htu with htu | ⟨k, htu⟩
    . have : Nat.ble h.next h'.low = true := by rw [Nat.ble_eq]; exact htu
      rw [this] at dV; cases dV
    simp only [htu, cond_false, cond_true]; refine ⟨_, _, _, rfl, fun _ => rfl, rfl, ⟨j6, hB.get, fun _ => hB.ok bW, fun e h3 h4 h5 => Nat.le_min.2 ⟨h3, hB.low e h4 h4 h5⟩, fun b hb => ?_, Nat.min_le_left _ _⟩, .inr ⟨k, rfl, fun hle => (by have e : Nat.ble h.next h'.low = true := (by rw [Nat.ble_eq]; exact hle); rw [e] at dV; cases dV), rfl⟩⟩; rcases hB.chg b hb with h3 | h3
    . exact .inl h3
    exact .inr (Nat.le_trans (Nat.min_le_right _ _) h3)
def QT (P : Program) (fl : VL) (op : Op) (w : Value) (c : Cell) : Prop := vK op = false /\ ∀ (h h' : aA) (S : List Nat) (t : Tr) (u : Value) (d : Option Tmp) (ty : TypeId) (pos : String) (after : Array Edge) (g : Option (Nat × Bool)), E5 h S t fl op -> bS h S w c -> fH P ⟨d, op, ty, pos, after, g⟩ (aC t) h = some (u, h') ->
  (∀ k, rV op (aC t) = some k -> k ∈ cW w) /\ (h.low <= h'.low \/ ∃ k, rV op (aC t) = some k)
theorem QT.store {q : Value} {cs : List PV} (hx : aY fl x = some (.raw q)) (hq : q = w \/ ∃ k, q = sQ w k) : QT P fl (.store T x y) w (.var cs) := ⟨rfl, fun h h' S t u d ty pos after g hs hc _ => by
  have hxq : aC t x = q := (hs x (by simp [Op.operands]) _ hx : aJ _ _ (.raw q) _); obtain ⟨b0, e', vs, h1, h2, h3, h4, h5⟩ := hc
  obtain ⟨o0, hqb⟩ : ∃ o0, q = .pointer (some ⟨b0, o0, none⟩) := by
    rcases hq with hq | ⟨k, hq⟩
    . exact ⟨0, hq.trans h1⟩
    exact ⟨0 + k, by rw [hq, h1]; rfl⟩
  have ht : rV (.store T x y) (aC t) = some b0 := by simp only [rV, hxq, hqb]
  refine ⟨fun k hk => ?_, .inr ⟨b0, ht⟩⟩; rw [ht] at hk; obtain rfl := Option.some.inj hk
  rw [h1]; exact List.mem_cons_self⟩
theorem tA.am7 {c : Cell} (L : tA hr h S0 A ((w, c) :: oI) ρ t fl nw rd chg) (n9 : (own ((w, c) :: oI)).Nodup) (hs : ∃ mO, oI = mO ++ ρ) {k : Nat} (hk : k ∈ cW w) : tA hr h S0 A ((w, c) :: oI) ρ t fl nw rd (k :: chg) :=
  { L with
    chg := fun j hj => by
      rcases List.mem_cons.1 hj with rfl | hj
      . rw [bE] at n9; refine ⟨fun hm => (List.nodup_append.1 n9).2.2 j hk j ?_ rfl, L.new j (by rw [bE]; exact List.mem_append_left _ hk)⟩; obtain ⟨mO, rfl⟩ := hs; rw [dE]; exact List.mem_append_right _ hm
      exact L.chg j hj }
theorem qK.rJ {c : Cell} {b : Nat} {Tt : PV -> aX -> Prop} (hs : cA P fl ((w, c) :: oI) op Tt) (hT : QT P fl op w c) (hρ : ∃ mO, oI = mO ++ ρ) (hk : ∀ v aQ, Tt v aQ -> (∃ mO, aQ = mO ++ ρ) /\ qK P orc ops n l (i + 1) fl nw aQ ρ (bs ++ [b]) (mem ||| 2 ^ i) true K)
    (hb : aP bs ⟨none, op, ty, pos, after, g⟩ = b := by rfl) (iW : Nat.beq (mem &&& b) mem = true := by rfl) (hw : cX ops fl g = some true := by rfl) :
    qK P orc ops n (⟨none, op, ty, pos, after, g⟩ :: l) i fl nw ((w, c) :: oI) ρ bs mem tl K := fun hr h0 G S0 A t h ms rd chg segs tail ht I L => by
  have Le := I.lc.aB (h' := entry h) (fun _ => rfl) rfl; obtain ⟨u, h', v, aQ, e1, e2, e3, e4⟩ := hs.2 S0 (entry h) t Le; have bR := e4 none ty pos after g; obtain ⟨t1, t2⟩ := hT.2 (entry h) h' _ t u _ _ _ _ _ Le.aH.r8 (Le.cells _ List.mem_cons_self) bR; obtain ⟨h2, oK, EH, f1, f2, f3, f4, f5⟩ := X0 (n := n) (hr := hr) (rd := rd) (chg := chg) (i := i) (segs := segs) (tail := tail) (o := ⟨none, op, ty, pos, after, g⟩) hb (O0 n t u) hs.1 hT.1 (cH I.aH hw) iW I.ok bR e2.gC t2; have m2 := CM e2 f2 f4; obtain ⟨GG, hk⟩ := hk v aQ e1
  have L2 : tA hr h S0 A ((w, c) :: oI) ρ t fl nw rd EH := by
    rcases f5 with ⟨rfl, _⟩ | ⟨k, g1, _, rfl⟩
    . exact L
    exact L.am7 I.apart hρ (t1 k g1)
  exact BC.WY f1 (hk hr h0 G S0 A _ _ ms rd EH _ oK (fun e => by cases e) (I.made m2) (L2.made I m2 GG))
theorem qK.nws {L5 : List Nat} (T6 : List Nat) (hk : qK P orc ops n l i fl T6 σ ρ bs mem tl K) (he : L5 = T6 := by rfl) : qK P orc ops n l i fl L5 σ ρ bs mem tl K := he ▸ hk
end Go.Fs
namespace Ieee
theorem ab5 (neg : Bool) (n : Nat) : Toward.even.cut neg n 0 = n := by
  unfold Toward.cut; simp [Nat.mod_one]
theorem IL {n d : Nat} (hn : n ≠ 0) (h : 2 ^ d ∣ n) : d <= n.log2 := (Nat.le_log2 hn).2 (Nat.le_of_dvd (Nat.pos_of_ne_zero hn) h)
theorem X1 {neg : Bool} {way : Toward} {n d : Nat} (hn : n ≠ 0) (h : 2 ^ d ∣ n) : way.cut neg n d = n / 2 ^ d := by
  have h1 := IL hn h
  have h2 : min d (n.log2 + 2) = d := by omega
  have h3 : n % 2 ^ d = 0 := Nat.mod_eq_zero_of_dvd h; unfold Toward.cut; simp only [h2, Nat.one_shiftLeft, h3]; have hp : 0 < 2 ^ d := Nat.two_pow_pos d; cases way <;> simp <;> omega
namespace Format
variable (f : Format)
theorem yU {neg : Bool} {r : Nat} (h : r < f.binade) (hw : r < f.signWeight) : f.read (f.word neg r) = .number neg r f.leastPlace := by
  have e1 : f.word neg r % f.signWeight = r := by
    unfold word; cases neg
    . exact Nat.mod_eq_of_lt hw
    simp only [if_true]; rw [Nat.add_mod_left]; exact Nat.mod_eq_of_lt hw
  have e2 : (f.word neg r / f.signWeight % 2 == 1) = neg := by
    unfold word; have hp : 0 < f.signWeight := Nat.two_pow_pos _; cases neg
    . simp [Nat.div_eq_of_lt hw]
    simp only [if_true]; rw [Nat.add_div_left _ hp, Nat.div_eq_of_lt hw]; rfl
  unfold read; simp only [e1, e2, h, if_true]
theorem L8 {neg : Bool} {r : Nat} (h : f.binade <= r) (hi : r < f.infRung) (hw : r < f.signWeight) : f.read (f.word neg r) = .number neg (f.binade + r % f.binade) (f.leastPlace + (r / f.binade - 1 : Nat)) := by
  have e1 : f.word neg r % f.signWeight = r := by
    unfold word; cases neg
    . exact Nat.mod_eq_of_lt hw
    simp only [if_true]; rw [Nat.add_mod_left]; exact Nat.mod_eq_of_lt hw
  have e2 : (f.word neg r / f.signWeight % 2 == 1) = neg := by
    unfold word; have hp : 0 < f.signWeight := Nat.two_pow_pos _; cases neg
    . simp [Nat.div_eq_of_lt hw]
    simp only [if_true]; rw [Nat.add_div_left _ hp, Nat.div_eq_of_lt hw]; rfl
  unfold read; simp only [e1, e2]; rw [if_neg (by omega), if_pos hi]
theorem TD : f.infRung < f.signWeight := by
  have h : 0 < 2 ^ f.exponentBits := Nat.two_pow_pos _; have hb : 0 < f.binade := Nat.two_pow_pos _
  have : f.infRung + f.binade = f.signWeight := by
    unfold infRung signWeight; rw [Nat.pow_add, <- Nat.succ_mul]; exact congrArg (· * f.binade) (by omega)
  omega
def jV (o5 : Nat) (place : Int) : Int := max (place + o5.log2 - f.fractionBits) f.leastPlace
def J1 (neg : Bool) (o5 : Nat) (place : Int) : Nat := Toward.even.cut neg (o5 <<< (place - f.jV o5 place).toNat) (f.jV o5 place - place).toNat
theorem ND {neg : Bool} {o5 : Nat} {place : Int} (hm : o5 ≠ 0) {k : Nat} (hk : f.J1 neg o5 place = k) (nU : k < 2 * f.binade) (iH : f.jV o5 place = f.leastPlace \/ f.binade <= k)
    (rM : (f.jV o5 place - f.leastPlace).toNat * f.binade + k < f.infRung) : f.read (f.nearest neg o5 place) = .number neg k (f.jV o5 place) := by
  have hl : f.leastPlace <= f.jV o5 place := by unfold jV; omega
  have hb : 0 < f.binade := Nat.two_pow_pos _; have hsw := f.TD
  have hn : f.nearest neg o5 place = f.word neg ((f.jV o5 place - f.leastPlace).toNat * f.binade + k) := by
    unfold nearest; rw [if_neg hm]; show f.word neg (min ((f.jV o5 place - f.leastPlace).toNat * f.binade + f.J1 neg o5 place) f.infRung) = _; rw [hk, Nat.min_eq_left (by omega)]
  rw [hn]; generalize hL : f.jV o5 place = L at *; obtain ⟨d, rfl⟩ : ∃ d : Nat, L = f.leastPlace + d := ⟨(L - f.leastPlace).toNat, by omega⟩
  have e0 : (f.leastPlace + (d : Int) - f.leastPlace).toNat = d := by omega
  rw [e0] at rM ⊢; by_cases hkb : k < f.binade
  . have hd : d = 0 := by rcases iH with h | h <;> omega
    subst hd; rw [Nat.zero_mul, Nat.zero_add] at rM ⊢; rw [f.yU hkb (by omega)]; simp
  have h1 : f.binade <= d * f.binade + k := by have := Nat.zero_le (d * f.binade); omega
  rw [f.L8 h1 rM (by omega)]
  have e1 : (d * f.binade + k) % f.binade = k - f.binade := by
    rw [Nat.add_comm, Nat.add_mul_mod_self_right, show k = (k - f.binade) + f.binade by omega, Nat.add_mod_right, Nat.mod_eq_of_lt (by omega)]; omega
  have e2 : (d * f.binade + k) / f.binade = d + 1 := by
    rw [Nat.add_comm, Nat.add_mul_div_right _ _ hb, show k = (k - f.binade) + f.binade by omega, Nat.add_div_right _ hb, Nat.div_eq_of_lt (by omega)]; omega
  rw [e1, e2]; congr 1; omega
theorem lY {c k : Nat} (hc : c ≠ 0) : (c * 2 ^ k).log2 = c.log2 + k := by
  have hp : 0 < 2 ^ k := Nat.two_pow_pos k; refine (Nat.log2_eq_iff (Nat.mul_ne_zero hc (by omega))).2 ⟨?_, ?_⟩
  . rw [Nat.pow_add]; exact Nat.mul_le_mul_right _ (Nat.log2_self_le hc)
  rw [show c.log2 + k + 1 = (c.log2 + 1) + k by omega, Nat.pow_add]; exact Nat.mul_lt_mul_of_pos_right (Nat.lt_log2_self) hp
theorem QU {neg : Bool} {o5 c : Nat} {place q base : Int} (hm : o5 ≠ 0) (s4 : base <= place) (rD : base <= q) (hq : f.leastPlace <= q) (hc : c < 2 ^ (f.fractionBits + 1)) (heq : o5 * 2 ^ (place - base).toNat = c * 2 ^ (q - base).toNat)
    (rM : (q - f.leastPlace).toNat + 2 <= 2 ^ f.exponentBits - 1) : ∃ m p, f.read (f.nearest neg o5 place) = .number neg m p /\ f.leastPlace <= p /\ m ≠ 0 /\ m * 2 ^ (p - f.leastPlace).toNat = c * 2 ^ (q - f.leastPlace).toNat := by
  have MW : c ≠ 0 := by
    rintro rfl; rw [Nat.zero_mul] at heq; have hp : 0 < 2 ^ (place - base).toNat := Nat.two_pow_pos _; rcases Nat.mul_eq_zero.1 heq with h | h
    . exact hm h
    omega
  have ao3 : o5.log2 + (place - base).toNat = c.log2 + (q - base).toNat := by
    rw [<- lY hm, <- lY MW, heq]
  have wD : c.log2 <= f.fractionBits := by
    have := (Nat.log2_lt MW).2 hc; omega
  obtain ⟨L, hL⟩ : ∃ L, f.jV o5 place = L := ⟨_, rfl⟩
  have hLq : L <= q := by rw [<- hL]; unfold jV; omega
  have hLl : f.leastPlace <= L := by rw [<- hL]; unfold jV; omega
  have hLn : place + o5.log2 - f.fractionBits <= L := by rw [<- hL]; unfold jV; omega
  have hLc : L = f.leastPlace \/ L = place + o5.log2 - f.fractionBits := by rw [<- hL]; unfold jV; omega
  -- what is kept is c * 2 ^ (q - L)
  have ak9 : f.J1 neg o5 place = c * 2 ^ (q - L).toNat := by
    unfold J1; rw [hL]; by_cases hle : L <= place
    . have e1 : (L - place).toNat = 0 := by omega
      rw [e1, ab5, Nat.shiftLeft_eq]
      have hbL : min base L <= L := by omega
      have hp : 0 < 2 ^ (L - min base L).toNat := Nat.two_pow_pos _
      -- both sides times 2 ^ (L - b)
      have h1 : o5 * 2 ^ (place - min base L).toNat = c * 2 ^ (q - min base L).toNat := by
        have e2 : (place - min base L).toNat = (place - base).toNat + (base - min base L).toNat := by omega
        have e3 : (q - min base L).toNat = (q - base).toNat + (base - min base L).toNat := by omega
        rw [e2, e3, Nat.pow_add, Nat.pow_add, <- Nat.mul_assoc, <- Nat.mul_assoc, heq]
      refine Nat.eq_of_mul_eq_mul_right hp ?_; rw [Nat.mul_assoc, Nat.mul_assoc, <- Nat.pow_add, <- Nat.pow_add]; rw [show (place - L).toNat + (L - min base L).toNat = (place - min base L).toNat by omega, show (q - L).toNat + (L - min base L).toNat = (q - min base L).toNat by omega]; exact h1
    have e1 : (place - L).toNat = 0 := by omega
    rw [e1, Nat.shiftLeft_zero]; have anQ : base <= place := s4
    have aiV : o5 = c * 2 ^ (q - place).toNat := by
      have hp : 0 < 2 ^ (place - base).toNat := Nat.two_pow_pos _; refine Nat.eq_of_mul_eq_mul_right hp ?_; rw [heq, Nat.mul_assoc, <- Nat.pow_add, show (q - place).toNat + (place - base).toNat = (q - base).toNat by omega]
    have hd : 2 ^ (L - place).toNat ∣ o5 := by
      rw [aiV, show (q - place).toNat = (q - L).toNat + (L - place).toNat by omega, Nat.pow_add, <- Nat.mul_assoc]; exact Nat.dvd_mul_left _ _
    rw [X1 hm hd]; refine Nat.div_eq_of_eq_mul_left (Nat.two_pow_pos _) ?_; rw [aiV, Nat.mul_assoc, <- Nat.pow_add, show (q - L).toNat + (L - place).toNat = (q - place).toNat by omega]
  have hkl : (c * 2 ^ (q - L).toNat).log2 <= f.fractionBits := by
    rw [lY MW]; omega
  have iI : c * 2 ^ (q - L).toNat ≠ 0 := by
    have := Nat.two_pow_pos (q - L).toNat; exact Nat.mul_ne_zero MW (by omega)
  have hkb : c * 2 ^ (q - L).toNat < 2 * f.binade := by
    have := (Nat.log2_lt iI).1 (show (c * 2 ^ (q - L).toNat).log2 < f.fractionBits + 1 by omega); rw [Nat.pow_succ] at this; unfold binade; omega
  have iH : f.jV o5 place = f.leastPlace \/ f.binade <= c * 2 ^ (q - L).toNat := by
    rw [hL]; rcases hLc with h | h
    . exact .inl h
    refine .inr ?_; unfold binade; refine (Nat.le_log2 iI).1 ?_; rw [lY MW]; omega
  have akA : (f.jV o5 place - f.leastPlace).toNat * f.binade + c * 2 ^ (q - L).toNat < f.infRung := by
    rw [hL]; unfold infRung
    have h1 : (L - f.leastPlace).toNat * f.binade + 2 * f.binade <= (2 ^ f.exponentBits - 1) * f.binade := by
      rw [<- Nat.add_mul]; exact Nat.mul_le_mul_right _ (by omega)
    omega
  refine ⟨_, L, by have := f.ND (neg := neg) hm ak9 hkb iH akA; rw [hL] at this; exact this, hLl, iI, ?_⟩; rw [Nat.mul_assoc, <- Nat.pow_add, show (q - L).toNat + (L - f.leastPlace).toNat = (q - f.leastPlace).toNat by omega]
end Format
end Ieee
namespace Ieee
def sg (s : Bool) (r : Nat) : Int := if s then -(r : Int) else r
theorem tB (s : Bool) (m k : Nat) : signed s m k = sg s (m * 2 ^ k) := by
  unfold signed sg; rw [Nat.shiftLeft_eq]
theorem oD (s : Bool) (a b : Nat) : sg s (a * b) = sg s a * b := by
  unfold sg; cases s <;> simp [Int.neg_mul]
theorem TE (s t : Bool) (a b : Nat) : sg s a * sg t b = sg (s ^^ t) (a * b) := by
  unfold sg; cases s <;> cases t <;> simp [Int.neg_mul, Int.mul_neg]
theorem qL (s : Bool) (a : Nat) : (sg s a).natAbs = a := by unfold sg; cases s <;> simp
theorem aeH (s : Bool) : sg s 0 = 0 := by unfold sg; cases s <;> rfl
namespace Format
variable (f : Format)
def dX (x : Nat) : Option Int := match f.read x with
  | .number s m p => some (sg s (m * 2 ^ (p - f.leastPlace).toNat))
  | _ => none
def TF (r : Nat) : Prop := ∃ c k, r = c * 2 ^ k /\ c < 2 ^ (f.fractionBits + 1) /\ k + 2 <= 2 ^ f.exponentBits - 1
variable {f}
theorem fN {x : Nat} {u : Int} (h : f.dX x = some u) : ∃ s m p, f.read x = .number s m p /\ f.leastPlace <= p /\ u = sg s (m * 2 ^ (p - f.leastPlace).toNat) := by
  unfold dX at h; split at h
  . rename_i s m p hr; refine ⟨s, m, p, hr, ?_, (Option.some.inj h).symm⟩; unfold read at hr; dsimp only at hr; split at hr
    . cases hr; omega
    split at hr
    . cases hr; omega
    split at hr <;> cases hr
  cases h
theorem HK {x : Nat} (h : f.dX x = none) : (∃ s, f.read x = .infinity s) \/ ∃ s t, f.read x = .nan s t := by
  unfold dX at h; split at h
  . cases h
  rename_i hn
  cases hr : f.read x with
  | number s m p => exact absurd hr (hn s m p)
  | infinity s => exact .inl ⟨s, rfl⟩
  | nan s t => exact .inr ⟨s, t, rfl⟩
theorem oE (p : Int) : (p - p).toNat = 0 := by omega
theorem pL {s : Bool} {m r : Nat} {p : Int} (base : Int) (s4 : base <= p) (rD : base <= f.leastPlace) (heq : m * 2 ^ (p - base).toNat = r * 2 ^ (f.leastPlace - base).toNat) (hr : f.TF r) (hg : 0 < f.exponentBits /\ 0 < f.fractionBits) :
    f.dX (f.write (.number s m p)) = some (sg s r) := by
  have hp1 : 0 < 2 ^ (p - base).toNat := Nat.two_pow_pos _; have X2 : 0 < 2 ^ (f.leastPlace - base).toNat := Nat.two_pow_pos _; by_cases hm : m = 0
  . subst hm
    have h0 : r = 0 := by
      rw [Nat.zero_mul] at heq; rcases Nat.mul_eq_zero.1 heq.symm with h | h
      . exact h
      omega
    subst h0; have am8 : 0 < f.binade := Nat.two_pow_pos _; have hsw : 0 < f.signWeight := Nat.two_pow_pos _
    have : f.read (f.write (.number s 0 p)) = .number s 0 f.leastPlace := by
      show f.read (f.nearest s 0 p) = _; unfold nearest; rw [if_pos rfl]; exact f.yU am8 hsw
    unfold dX; rw [this]; simp
  obtain ⟨c, k, rfl, hc, hk⟩ := hr
  have am9 : m * 2 ^ (p - base).toNat = c * 2 ^ ((f.leastPlace + k) - base).toNat := by
    rw [heq, Nat.mul_assoc, <- Nat.pow_add]; congr 2; omega
  obtain ⟨m', p', h1, h2, h3, h4⟩ := f.QU (neg := s) hm s4 (show base <= f.leastPlace + k by omega) (by omega) hc am9 (by omega); unfold dX; show (match f.read (f.nearest s m p) with | .number s m p => some (sg s (m * 2 ^ (p - f.leastPlace).toNat)) | _ => none) = _; rw [h1]; simp only; rw [h4]; congr 4; omega
theorem EI {x y : Nat} {u v : Int} (hx : f.dX x = some u) (hy : f.dX y = some v) : f.order x y = some (compare u v) := by
  obtain ⟨s, m, p, h1, h2, rfl⟩ := fN hx; obtain ⟨t, n, q, h3, h4, rfl⟩ := fN hy; unfold order; rw [h1, h3]; unfold Datum.order; simp only; rw [tB, tB]; congr 1
  have hb : f.leastPlace <= min p q := by omega
  have e1 : sg s (m * 2 ^ (p - f.leastPlace).toNat) = sg s (m * 2 ^ (p - min p q).toNat) * ((2 ^ (min p q - f.leastPlace).toNat : Nat) : Int) := by
    rw [<- oD, Nat.mul_assoc, <- Nat.pow_add]; congr 3; omega
  have e2 : sg t (n * 2 ^ (q - f.leastPlace).toNat) = sg t (n * 2 ^ (q - min p q).toNat) * ((2 ^ (min p q - f.leastPlace).toNat : Nat) : Int) := by
    rw [<- oD, Nat.mul_assoc, <- Nat.pow_add]; congr 3; omega
  rw [e1, e2]
  have hp : (0 : Int) < ((2 ^ (min p q - f.leastPlace).toNat : Nat) : Int) := by have := Nat.two_pow_pos (min p q - f.leastPlace).toNat; omega
  generalize sg s (m * 2 ^ (p - min p q).toNat) = a; generalize sg t (n * 2 ^ (q - min p q).toNat) = b; generalize ((2 ^ (min p q - f.leastPlace).toNat : Nat) : Int) = k at hp; show compareOfLessAndEq a b = compareOfLessAndEq (a * k) (b * k); unfold compareOfLessAndEq; have h1 : a < b ↔ a * k < b * k := (Int.mul_lt_mul_right hp).symm; have h2 : a = b ↔ a * k = b * k := ⟨fun h => by rw [h], fun h => Int.eq_of_mul_eq_mul_right (by omega) h⟩; by_cases h3 : a < b
  . rw [if_pos h3, if_pos (h1.1 h3)]
  rw [if_neg h3, if_neg (fun h => h3 (h1.2 h))]; by_cases h4 : a = b
  . rw [if_pos h4, if_pos (h2.1 h4)]
  rw [if_neg h4, if_neg (fun h => h4 (h2.2 h))]
end Format
end Ieee
namespace Ieee
namespace Format
variable {f g : Format}
theorem L9 (t : Int) (h : t ≠ 0) : sg (decide (t < 0)) t.natAbs = t := by
  unfold sg; by_cases h1 : t < 0
  . rw [if_pos (by simpa using h1)]; omega
  rw [if_neg (by simpa using h1)]; omega
theorem TG (s : Bool) {t : Int} (h : t = 0) : sg s t.natAbs = t := by
  subst h; simp [aeH]
theorem CO {x y : Nat} {u v r : Int} (hx : f.dX x = some u) (hy : f.dX y = some v) (hl : f.leastPlace <= 0) (h : u * v = r * (2 ^ (-f.leastPlace).toNat : Nat)) (hr : f.TF r.natAbs) (hg : 0 < f.exponentBits /\ 0 < f.fractionBits) :
    ∃ w, f.mul x y = some w /\ f.dX w = some r := by
  obtain ⟨s, m, p, h1, h2, rfl⟩ := fN hx; obtain ⟨t, n, q, h3, h4, rfl⟩ := fN hy; unfold mul; rw [h1, h3]; refine ⟨_, rfl, ?_⟩; have hk := congrArg Int.natAbs h; rw [TE, qL, Int.natAbs_mul, Int.natAbs_natCast] at hk
  have hb : 2 * f.leastPlace <= p + q := by omega
  rw [pL (r := r.natAbs) (2 * f.leastPlace) hb (by omega) ?_ hr hg]
  . congr 1
    have hs : sg (s ^^ t) (m * 2 ^ (p - f.leastPlace).toNat * (n * 2 ^ (q - f.leastPlace).toNat)) = r * (2 ^ (-f.leastPlace).toNat : Nat) := by rw [<- TE, h]
    have nF : (0 : Int) < ((2 ^ (-f.leastPlace).toNat : Nat) : Int) := by have := Nat.two_pow_pos (-f.leastPlace).toNat; omega
    rw [hk, oD] at hs; exact Int.eq_of_mul_eq_mul_right (by omega) hs
  rw [show (p + q - 2 * f.leastPlace).toNat = (p - f.leastPlace).toNat + (q - f.leastPlace).toNat by omega, show (f.leastPlace - 2 * f.leastPlace).toNat = (-f.leastPlace).toNat by omega, <- hk, Nat.pow_add]; simp only [Nat.mul_comm, Nat.mul_left_comm, Nat.mul_assoc]
theorem ab6 {y : Nat} {v : Int} (hy : f.dX y = some v) : ∃ s m p, (f.read y).opposite = .number s m p /\ f.leastPlace <= p /\ sg s (m * 2 ^ (p - f.leastPlace).toNat) = -v := by
  obtain ⟨t, n, q, h3, h4, rfl⟩ := fN hy; rw [h3]; refine ⟨_, _, _, rfl, h4, ?_⟩; unfold sg; cases t <;> simp
theorem X3 {x y : Nat} {u v r : Int} (hx : f.dX x = some u) (hy : f.dX y = some v) (h : u - v = r) (hr : f.TF r.natAbs) (hg : 0 < f.exponentBits /\ 0 < f.fractionBits) : ∃ w, f.sub x y = some w /\ f.dX w = some r := by
  obtain ⟨s, m, p, h1, h2, rfl⟩ := fN hx; obtain ⟨t, n, q, h3, h4, h5⟩ := ab6 hy; unfold sub; rw [h1, h3]; refine ⟨_, rfl, ?_⟩
  have e1 : sg s (m * 2 ^ (p - f.leastPlace).toNat) = sg s (m * 2 ^ (p - min p q).toNat) * ((2 ^ (min p q - f.leastPlace).toNat : Nat) : Int) := by
    rw [<- oD, Nat.mul_assoc, <- Nat.pow_add]; congr 3; omega
  have e2 : sg t (n * 2 ^ (q - f.leastPlace).toNat) = sg t (n * 2 ^ (q - min p q).toNat) * ((2 ^ (min p q - f.leastPlace).toNat : Nat) : Int) := by
    rw [<- oD, Nat.mul_assoc, <- Nat.pow_add]; congr 3; omega
  have hT : (signed s m (p - min p q).toNat + signed t n (q - min p q).toNat) * ((2 ^ (min p q - f.leastPlace).toNat : Nat) : Int) = r := by
    rw [tB, tB, Int.add_mul, <- e1, <- e2, h5, <- h]; omega
  generalize signed s m (p - min p q).toNat + signed t n (q - min p q).toNat = T at hT ⊢
  have hk : T.natAbs * 2 ^ (min p q - f.leastPlace).toNat = r.natAbs := by
    rw [<- hT, Int.natAbs_mul, Int.natAbs_natCast]
  rw [pL (r := r.natAbs) f.leastPlace (by omega) (Int.le_refl _) (by rw [hk, oE]; simp) hr hg, <- hk, oD, <- hT]; congr 2; by_cases hT : T = 0
  . rw [if_pos hT]; exact TG _ hT
  rw [if_neg hT]; exact L9 T hT
theorem LA {x : Nat} (hx : f.dX x = none) : f.sub x x = none := by
  unfold sub; rcases HK hx with ⟨s, h⟩ | ⟨s, t, h⟩ <;> rw [h]
  . cases s <;> rfl
  rfl
theorem QV {x : Nat} {u : Int} (hx : f.dX x = some u) (hl : f.leastPlace <= 0) : (f.read x).toInt .zero = some (u.tdiv (2 ^ (-f.leastPlace).toNat : Nat)) := by
  obtain ⟨s, m, p, h1, h2, rfl⟩ := fN hx; rw [h1]; show some (signed s (Toward.zero.cut s (m <<< p.toNat) (-p).toNat) 0) = _; congr 1; rw [tB, Nat.pow_zero, Nat.mul_one]
  have KN : Toward.zero.cut s (m <<< p.toNat) (-p).toNat = (m * 2 ^ p.toNat) / 2 ^ (-p).toNat := by
    rw [Nat.shiftLeft_eq]; generalize m * 2 ^ p.toNat = M; unfold Toward.cut; simp only [Nat.one_shiftLeft, Bool.toNat_false, Nat.add_zero]; by_cases hle : (-p).toNat <= M.log2 + 2
    . rw [Nat.min_eq_left hle]
    rw [Nat.min_eq_right (by omega)]; have hM : M < 2 ^ (M.log2 + 2) := Nat.lt_trans (Nat.lt_log2_self) (Nat.pow_lt_pow_right (by omega) (by omega)); rw [Nat.div_eq_of_lt hM, Nat.div_eq_of_lt (Nat.lt_of_lt_of_le hM (Nat.pow_le_pow_right (by omega) (by omega)))]
  rw [KN]
  have hdiv : m * 2 ^ (p - f.leastPlace).toNat / 2 ^ (-f.leastPlace).toNat = m * 2 ^ p.toNat / 2 ^ (-p).toNat := by
    by_cases hp : 0 <= p
    . rw [show (p - f.leastPlace).toNat = p.toNat + (-f.leastPlace).toNat by omega, Nat.pow_add, <- Nat.mul_assoc, Nat.mul_div_cancel _ (Nat.two_pow_pos _), show (-p).toNat = 0 by omega]; simp
    rw [show (-f.leastPlace).toNat = (-p).toNat + (p - f.leastPlace).toNat by omega, Nat.pow_add, Nat.mul_div_mul_right _ _ (Nat.two_pow_pos _), show p.toNat = 0 by omega]; simp
  rw [<- hdiv]; generalize m * 2 ^ (p - f.leastPlace).toNat = a; unfold sg
  cases s with
  | false => simp
  | true => simp [Int.neg_tdiv]
theorem QW {n : Int} (hl : f.leastPlace <= 0) (hr : f.TF (n.natAbs * 2 ^ (-f.leastPlace).toNat)) (hg : 0 < f.exponentBits /\ 0 < f.fractionBits) : f.dX (f.write (.number (n < 0) n.natAbs 0)) = some (n * (2 ^ (-f.leastPlace).toNat : Nat)) := by
  rw [pL (r := n.natAbs * 2 ^ (-f.leastPlace).toNat) f.leastPlace hl (Int.le_refl _) (by rw [oE, show (0 - f.leastPlace).toNat = (-f.leastPlace).toNat by omega]; simp) hr hg, oD]; congr 2; by_cases h : n = 0
  . subst h; rfl
  exact L9 n h
theorem QX {x : Nat} {u : Int} (hx : f.dX x = some u) (hle : g.leastPlace <= f.leastPlace) (hr : g.TF (u.natAbs * 2 ^ (f.leastPlace - g.leastPlace).toNat)) (hg : 0 < g.exponentBits /\ 0 < g.fractionBits) : g.dX (g.write (f.read x)) = some (u * (2 ^ (f.leastPlace - g.leastPlace).toNat : Nat)) := by
  obtain ⟨s, m, p, h1, h2, rfl⟩ := fN hx; rw [h1]; rw [qL] at hr; rw [pL (r := m * 2 ^ (p - f.leastPlace).toNat * 2 ^ (f.leastPlace - g.leastPlace).toNat) g.leastPlace (by omega) (Int.le_refl _) ?_ hr hg, oD]; rw [oE, Nat.pow_zero, Nat.mul_one, Nat.mul_assoc, <- Nat.pow_add]; congr 2; omega
theorem QY {x : Nat} {u : Int} (hx : f.dX x = some u) (hl : f.leastPlace <= 0) (hr : f.TF (u.fdiv (2 ^ (-f.leastPlace).toNat : Nat) * (2 ^ (-f.leastPlace).toNat : Nat)).natAbs) (hg : 0 < f.exponentBits /\ 0 < f.fractionBits) :
    f.dX (f.write ((f.read x).integral .down)) = some (u.fdiv (2 ^ (-f.leastPlace).toNat : Nat) * (2 ^ (-f.leastPlace).toNat : Nat)) := by
  obtain ⟨s, m, p, h1, h2, rfl⟩ := fN hx; rw [h1]; show f.dX (f.write (.number s (Toward.down.cut s (m <<< p.toNat) (-p).toNat) 0)) = _
  have KN : sg s (Toward.down.cut s (m <<< p.toNat) (-p).toNat) = (sg s (m * 2 ^ (p - f.leastPlace).toNat)).fdiv (2 ^ (-f.leastPlace).toNat : Nat) := by
    have key : ∀ (M d : Nat), sg s (Toward.down.cut s M d) = (sg s M).fdiv (2 ^ d : Nat) := by
      intro M d
      have ahC : Toward.down.cut s M d = M / 2 ^ d + (s && decide (M % 2 ^ d ≠ 0)).toNat := by
        unfold Toward.cut; simp only [Nat.one_shiftLeft]; by_cases hle : d <= M.log2 + 2
        . rw [Nat.min_eq_left hle]; congr 2; cases s <;> first | rfl | (by_cases hz : M % 2 ^ d = 0 <;> simp [hz])
        rw [Nat.min_eq_right (by omega)]; have hM : M < 2 ^ (M.log2 + 2) := Nat.lt_trans (Nat.lt_log2_self) (Nat.pow_lt_pow_right (by omega) (by omega)); have hM2 : M < 2 ^ d := Nat.lt_of_lt_of_le hM (Nat.pow_le_pow_right (by omega) (by omega)); rw [Nat.div_eq_of_lt hM, Nat.div_eq_of_lt hM2, Nat.mod_eq_of_lt hM, Nat.mod_eq_of_lt hM2]; congr 2; cases s <;> first | rfl | (by_cases hz : M = 0 <;> simp [hz])
      rw [ahC]; have hp : 0 < 2 ^ d := Nat.two_pow_pos d; generalize 2 ^ d = D at hp; unfold sg
      cases s with
      | false =>
        simp only [Bool.false_and, Bool.toNat_false, Nat.add_zero, Bool.false_eq_true, if_false]
        rw [Int.fdiv_eq_ediv_of_nonneg _ (by omega)]; rfl
      | true =>
        simp only [Bool.true_and, if_true]; rw [Int.fdiv_eq_ediv_of_nonneg _ (by omega)]; have hd := Nat.div_add_mod M D; have hm := Nat.mod_lt M hp; by_cases hz : M % D = 0
        . rw [show decide (M % D ≠ 0) = false by simpa using hz]; rw [Bool.toNat_false, Nat.add_zero]; refine (Int.ediv_eq_of_eq_mul_left (by omega) ?_).symm
          have : M = D * (M / D) := by omega
          have h3 : ((M : Nat) : Int) = (D : Int) * ((M / D : Nat) : Int) := by rw [<- Int.natCast_mul, <- this]
          rw [h3, Int.neg_mul, Int.mul_comm]
        rw [show decide (M % D ≠ 0) = true by simpa using hz]; rw [Bool.toNat_true]
        have h3 : ((M : Nat) : Int) = (D : Int) * ((M / D : Nat) : Int) + ((M % D : Nat) : Int) := by rw [<- Int.natCast_mul, <- Int.natCast_add, hd]
        have h4 : (-(M : Int)) = ((D : Int) - ((M % D : Nat) : Int)) + (D : Int) * (-(((M / D + 1 : Nat)) : Int)) := by
          rw [h3, Int.natCast_add, Int.mul_neg, Int.mul_add]; simp; omega
        rw [h4, Int.add_mul_ediv_left _ _ (by omega), Int.ediv_eq_zero_of_lt (by omega) (by omega)]; omega
    rw [key, Nat.shiftLeft_eq]; by_cases hp : 0 <= p
    . rw [show (p - f.leastPlace).toNat = p.toNat + (-f.leastPlace).toNat by omega, Nat.pow_add, <- Nat.mul_assoc, show (-p).toNat = 0 by omega, oD s (m * 2 ^ p.toNat)]
      have hq : (0 : Int) < ((2 ^ (-f.leastPlace).toNat : Nat) : Int) := by have := Nat.two_pow_pos (-f.leastPlace).toNat; omega
      rw [Int.mul_fdiv_cancel _ (by omega)]; simp
    rw [show (-f.leastPlace).toNat = (-p).toNat + (p - f.leastPlace).toNat by omega, Nat.pow_add, show p.toNat = 0 by omega, Nat.pow_zero, Nat.mul_one, oD s m, Int.natCast_mul]
    have hq : (0 : Int) < ((2 ^ (p - f.leastPlace).toNat : Nat) : Int) := by have := Nat.two_pow_pos (p - f.leastPlace).toNat; omega
    have wE : (0 : Int) < ((2 ^ (-p).toNat : Nat) : Int) := by have := Nat.two_pow_pos (-p).toNat; omega
    rw [Int.fdiv_eq_ediv_of_nonneg _ (by omega), Int.fdiv_eq_ediv_of_nonneg _ (by have := Int.mul_pos wE hq; omega), Int.mul_ediv_mul_of_pos_left _ _ hq]
  rw [<- KN] at hr ⊢; rw [<- oD, qL] at hr; rw [pL (r := Toward.down.cut s (m <<< p.toNat) (-p).toNat * 2 ^ (-f.leastPlace).toNat) f.leastPlace hl (Int.le_refl _) (by rw [oE, show (0 - f.leastPlace).toNat = (-f.leastPlace).toNat by omega]; simp) hr hg, oD]
end Format
end Ieee
namespace Ieee
open Format
theorem A6 : 0 < single.exponentBits /\ 0 < single.fractionBits := by decide
theorem GI : 0 < double.exponentBits /\ 0 < double.fractionBits := by decide
theorem TH {f : Format} {x : Nat} {u : Int} (h : f.dX x = some u) : ∃ c k, u.natAbs = c * 2 ^ k /\ c < 2 ^ (f.fractionBits + 1) /\ (c = 0 -> k = 0) := by
  obtain ⟨s, m, p, h1, h2, rfl⟩ := fN h
  have hm : m < 2 ^ (f.fractionBits + 1) := by
    have hb : 0 < f.binade := Nat.two_pow_pos _
    have h2b : 2 ^ (f.fractionBits + 1) = 2 * f.binade := by rw [Nat.pow_succ, Nat.mul_comm]; rfl
    rw [h2b]; unfold Format.read at h1; dsimp only at h1; split at h1
    . cases h1; omega
    split at h1
    . cases h1; have := Nat.mod_lt (x % f.signWeight) hb; omega
    split at h1 <;> cases h1
  rw [qL]; by_cases h0 : m = 0
  . exact ⟨0, 0, by rw [h0]; simp, Nat.two_pow_pos _, fun _ => rfl⟩
  exact ⟨m, _, rfl, hm, fun e => absurd e h0⟩
theorem J2 {f g : Format} {x : Nat} {u : Int} (h : f.dX x = some u) (hle : f.fractionBits <= g.fractionBits) {B j : Nat} (hB : u.natAbs <= 2 ^ B) (hj : B + j + 2 <= 2 ^ g.exponentBits - 1) : g.TF (u.natAbs * 2 ^ j) := by
  obtain ⟨c, k, h1, h2, h3⟩ := TH h; by_cases h0 : c = 0
  . refine ⟨0, 0, by rw [h1, h0]; simp, Nat.two_pow_pos _, by omega⟩
  refine ⟨c, k + j, by rw [h1, Nat.mul_assoc, <- Nat.pow_add], Nat.lt_of_lt_of_le h2 (Nat.pow_le_pow_right (by omega) (by omega)), ?_⟩
  have hk : k <= B := by
    have : 2 ^ k <= 2 ^ B := by
      refine Nat.le_trans ?_ hB; rw [h1]; exact Nat.le_mul_of_pos_left _ (by omega)
    exact (Nat.pow_le_pow_iff_right (by omega)).1 this
  omega
theorem LB {f : Format} {n j : Nat} (hn : n < 2 ^ (f.fractionBits + 1)) (hj : j + 2 <= 2 ^ f.exponentBits - 1) : f.TF (n * 2 ^ j) := ⟨n, j, rfl, hn, hj⟩
abbrev u32 (x : Nat) : Option Int := single.dX x
abbrev u64 (x : Nat) : Option Int := double.dX x
theorem ZI : (2 ^ (-single.leastPlace).toNat : Nat) = 713623846352979940529142984724747568191373312 := by decide
def kN (x : Nat) : Int := match u32 x with
  | none => 1
  | some u => if (-45671926166590716193865151022383844364247891968 <= u /\ u <= 45671926166590716193865151022383844364247891968) /\ u % 44601490397061246283071436545296723011960832 = 0 then 0 else 3
def kU (x : Nat) : Int := match u32 x with
  | none => 0
  | some u => u / 44601490397061246283071436545296723011960832
theorem QZ {x : Nat} (h : kN x = 0) : u32 x = some (kU x * 44601490397061246283071436545296723011960832) /\ -1024 <= kU x /\ kU x <= 1024 := by
  unfold kN at h; split at h
  . cases h
  rename_i u hu; split at h
  . rename_i hc; unfold kU; rw [hu]; simp only; have hd := Int.mul_ediv_add_emod u 44601490397061246283071436545296723011960832; refine ⟨?_, by omega, by omega⟩; congr 1; omega
  cases h
theorem aeI {x w : Nat} {u : Int} (hw : u32 w = some (16 * 713623846352979940529142984724747568191373312)) (h : u32 x = some u) (h0 : u.natAbs <= 45671926166590716193865151022383844364247891968) : ∃ r, single.mul x w = some r /\ u32 r = some (16 * u) := by
  refine CO h hw (by decide) ?_ ?_ A6
  . rw [ZI, Int.mul_comm 16 u, Int.mul_assoc]; rfl
  have := J2 (g := single) h (Nat.le_refl _) (B := 155) (j := 4) (Nat.le_trans h0 (by decide)) (by decide)
  rwa [show (16 * u).natAbs = u.natAbs * 2 ^ 4 by omega]
theorem ahD {x w : Nat} {u : Int} (hw : u32 w = some (16 * 713623846352979940529142984724747568191373312)) (h : u32 x = some u) (h0 : u.natAbs <= 45671926166590716193865151022383844364247891968) : ∃ r, single.mul w x = some r /\ u32 r = some (16 * u) := by
  refine CO hw h (by decide) ?_ ?_ A6
  . rw [ZI, Int.mul_assoc, Int.mul_comm _ u, <- Int.mul_assoc]; rfl
  have := J2 (g := single) h (Nat.le_refl _) (B := 155) (j := 4) (Nat.le_trans h0 (by decide)) (by decide)
  rwa [show (16 * u).natAbs = u.natAbs * 2 ^ 4 by omega]
theorem toInt32 {x : Nat} {u : Int} (h : u32 x = some u) : (single.read x).toInt .zero = some (u.tdiv 713623846352979940529142984724747568191373312) := by
  rw [QV h (by decide), ZI]; rfl
theorem ofInt32 {n : Int} (h : n.natAbs < 2 ^ 24) : u32 (single.write (.number (n < 0) n.natAbs 0)) = some (n * 713623846352979940529142984724747568191373312) := by
  rw [u32, QW (by decide) (LB h (by decide)) A6, ZI]; rfl
theorem TI {x : Nat} {u : Int} (hx : u32 x = some u) : ∃ r, single.sub x x = some r /\ u32 r = some 0 := X3 hx hx (by omega) ⟨0, 0, rfl, by decide, by decide⟩ A6
def kW : Nat := 2 ^ (single.leastPlace - double.leastPlace).toNat
theorem ahE : 0 < kW := Nat.two_pow_pos _
def HL : Nat := 300
theorem X4 {x : Nat} {u : Int} (hx : u32 x = some u) (h0 : u.natAbs <= 2 ^ HL) : u64 (double.write (single.read x)) = some (u * (kW : Nat)) := by
  have := QX (g := double) hx (by decide) (J2 (g := double) hx (by decide) (B := HL) h0 (by decide +kernel)) GI; rw [u64, this]; rfl
end Ieee
namespace Ieee
open Format
theorem X5 : (2 ^ (-double.leastPlace).toNat : Nat) = 713623846352979940529142984724747568191373312 * kW := by decide +kernel
theorem X6 {x : Nat} {u : Int} (h : u32 x = some u) : u.natAbs <= 2 ^ HL := by
  obtain ⟨s, m, p, h1, h2, rfl⟩ := fN h; rw [qL]; have hb : 0 < single.binade := Nat.two_pow_pos _
  have eb : single.binade = 8388608 := by decide
  have ei : single.infRung = 2139095040 := by decide
  have hm : m < 2 ^ 24 /\ (p - single.leastPlace).toNat <= 253 := by
    unfold Format.read at h1; dsimp only at h1; split at h1
    . cases h1; omega
    split at h1
    . rename_i h3 h4; cases h1; have h5 := Nat.mod_lt (x % single.signWeight) hb; rw [eb] at h5 ⊢; rw [ei] at h4; omega
    split at h1 <;> cases h1
  have h3 : 2 ^ (p - single.leastPlace).toNat <= 2 ^ 253 := Nat.pow_le_pow_right (by omega) hm.2; have h4 : m * 2 ^ (p - single.leastPlace).toNat <= 2 ^ 24 * 2 ^ 253 := Nat.mul_le_mul (by omega) h3; exact Nat.le_trans h4 (by decide +kernel)
theorem ahF {x y w : Nat} {u : Int} (hw : u64 w = some ((16 : Int) * ((713623846352979940529142984724747568191373312 * kW : Nat) : Int))) (hx : u32 x = some u) (hy : u64 y = some (u * (kW : Nat))) (h0 : u.natAbs <= 2 ^ HL) : ∃ r, double.mul w y = some r /\ u64 r = some (16 * (u * (kW : Nat))) := by
  refine CO hw hy (by decide) ?_ ?_ GI
  . rw [X5, Int.mul_assoc, Int.mul_comm _ (u * (kW : Nat)), <- Int.mul_assoc]
  have := J2 (g := double) hx (by decide) (B := HL) (j := 4 + (single.leastPlace - double.leastPlace).toNat) h0 (by decide +kernel); rw [Nat.pow_add, <- Nat.mul_assoc] at this
  rwa [show (16 * (u * (kW : Nat))).natAbs = u.natAbs * 2 ^ 4 * kW by rw [Int.natAbs_mul, Int.natAbs_mul, Int.natAbs_natCast, <- Nat.mul_assoc, Nat.mul_comm u.natAbs]; rfl]
theorem X7 {a k : Int} (hk : 0 < k) : (a * k).fdiv (713623846352979940529142984724747568191373312 * k) = a / 713623846352979940529142984724747568191373312 := by
  rw [Int.fdiv_eq_ediv_of_nonneg _ (by omega), Int.mul_ediv_mul_of_pos_left _ _ hk]
theorem J3 : (0 : Int) < (kW : Int) := by have := ahE; omega
theorem cast_mk : ((713623846352979940529142984724747568191373312 * kW : Nat) : Int) = 713623846352979940529142984724747568191373312 * (kW : Int) := by rw [Int.natCast_mul]; rfl
theorem ahG {r : Nat} {u : Int} (hr : u64 r = some (16 * (u * (kW : Nat)))) (h0 : -45671926166590716193865151022383844364247891968 <= u /\ u <= 45671926166590716193865151022383844364247891968) :
    u64 (double.write ((double.read r).integral .down)) = some (16 * u / 713623846352979940529142984724747568191373312 * (713623846352979940529142984724747568191373312 * kW : Nat)) := by
  have hf : (16 * (u * (kW : Nat))).fdiv (2 ^ (-double.leastPlace).toNat : Nat) = 16 * u / 713623846352979940529142984724747568191373312 := by
    rw [X5, cast_mk, <- Int.mul_assoc]; exact X7 J3
  have := QY hr (by decide) (by
    rw [hf, Int.natAbs_mul, Int.natAbs_natCast]; refine LB ?_ (by decide)
    have : (16 * u / 713623846352979940529142984724747568191373312).natAbs < 2000 := by omega
    exact Nat.lt_of_lt_of_le this (by decide)) GI
  rw [hf, X5] at this; exact this
theorem X8 {u : Int} : (16 * (u * (kW : Nat)) = 16 * u / 713623846352979940529142984724747568191373312 * (713623846352979940529142984724747568191373312 * kW : Nat)) ↔ u % 44601490397061246283071436545296723011960832 = 0 := by
  rw [cast_mk, <- Int.mul_assoc, <- Int.mul_assoc]; have hk := J3; constructor
  . intro h; have := Int.eq_of_mul_eq_mul_right (by omega) h; omega
  intro h; congr 1; omega
theorem R0 {u : Int} (h0 : -45671926166590716193865151022383844364247891968 <= u /\ u <= 45671926166590716193865151022383844364247891968) : ((16 * u).tdiv 713623846352979940529142984724747568191373312 * 713623846352979940529142984724747568191373312 = 16 * u) ↔ u % 44601490397061246283071436545296723011960832 = 0 := by
  have h1 := Int.mul_tdiv_add_tmod (16 * u) 713623846352979940529142984724747568191373312; have h2 : (16 * u).tmod 713623846352979940529142984724747568191373312 = 0 ↔ (713623846352979940529142984724747568191373312 : Int) ∣ 16 * u := (Int.dvd_iff_tmod_eq_zero).symm; constructor
  . intro h; have h3 : (713623846352979940529142984724747568191373312 : Int) ∣ 16 * u := h2.1 (by omega); omega
  intro h
  have h3 : (713623846352979940529142984724747568191373312 : Int) ∣ 16 * u := by omega
  have := h2.2 h3; omega
theorem aeJ {u n : Int} (h : u = n * 44601490397061246283071436545296723011960832) : (16 * u).tdiv 713623846352979940529142984724747568191373312 = n := by
  rw [h, show 16 * (n * 44601490397061246283071436545296723011960832) = n * 713623846352979940529142984724747568191373312 by omega, Int.mul_tdiv_cancel _ (by decide)]
end Ieee
namespace Go.Fs
variable {P : Program} {h : aA} {S : List Nat} {σ : aX} {t : Tr} {fl : VL} {x y : Operand} {T T' : TypeId} {v pv : PV} {k k' : FloatKind} {p q : Nat}
def fC (b : BinOp) (k : FloatKind) (p q : Nat) : Bool := match b with
  | .eql => k.format.order p q == some .eq
  | .neq => k.format.order p q != some .eq
  | .lss => k.format.order p q == some .lt
  | .leq => k.format.order p q == some .lt || k.format.order p q == some .eq
  | .gtr => k.format.order p q == some .gt
  | .geq => k.format.order p q == some .gt || k.format.order p q == some .eq
  | _ => false
def ZJ : BinOp -> Bool
  | .eql | .neq | .lss | .leq | .gtr | .geq => true
  | _ => false
theorem aI.ZK (b : BinOp) (hb : ZJ b = true := by rfl) (hx : aY fl x = some (.v (.bQ k) p) := by rfl) (hy : aY fl y = some (.v (.bQ k) q) := by rfl) : aI P fl σ (.binOp b T x y T') (.v .bool (fC b k p q)) :=
  .bin hx hy fun h S a c ha hc => by
    obtain rfl := aG.bQ ha; obtain rfl := aG.bQ hc; refine ⟨.bool (fC b k p q), aG.ofBool _, rfl, ?_⟩; cases b <;> first | (cases hb; done) | skip
    all_goals simp [cL, eqGuard, binOp, Op.floatCmp, fC, aF, aK, aE, af, pU, eF]
def OH (b : BinOp) (k : FloatKind) (p q : Nat) : Option Nat := match b with
  | .add => k.format.add p q
  | .sub => k.format.sub p q
  | .mul => k.format.mul p q
  | .quo => k.format.div p q
  | _ => none
theorem aI.fop {b : BinOp} {r : Nat} (hr : OH b k p q = some r) (hx : aY fl x = some (.v (.bQ k) p) := by rfl) (hy : aY fl y = some (.v (.bQ k) q) := by rfl) : aI P fl σ (.binOp b T x y T') (.v (.bQ k) r) :=
  .bin hx hy fun h S a c ha hc => by
    obtain rfl := aG.bQ ha; obtain rfl := aG.bQ hc; refine ⟨.float k r, aG.CI _ _, rfl, ?_⟩; cases b <;> first | (cases hr; done) | skip
    all_goals
      simp only [OH] at hr; simp [cL, eqGuard, binOp, Op.floatArith, hr, aF, aK, aE, af, pU, eF]
theorem aI.amA {b : BinOp} (hn : JC b k p q = true) (hx : aY fl x = some (.v (.bQ k) p) := by rfl) (hy : aY fl y = some (.v (.bQ k) q) := by rfl) : aI P fl σ (.binOp b T x y T') (.raw (jM k)) :=
  ⟨rfl, fun h S t hs _ => by
    have ha := aG.bQ (hs x (by simp [Op.operands]) _ hx : aG h S (.bQ k) _ p); have hc := aG.bQ (hs y (by simp [Op.operands]) _ hy : aG h S (.bQ k) _ q); refine ⟨jM k, rfl, fun _ _ _ _ _ H => ?_⟩; show (if (af (aC t x) && af (aC t y)) = true then ((cL P (do eqGuard b T x y (aC t x) (aC t y); binOp b T (aC t x) (aC t y))).or (zN b (aC t x) (aC t y))).map _ else _) = _; rw [ha, hc, if_pos (show (af (Value.float k p) && af (Value.float k q)) = true from rfl)]
    have h1 : cL P (do eqGuard b T x y (.float k p) (.float k q); binOp b T (.float k p) (.float k q)) = none := by
      unfold JC at hn; split at hn
      all_goals first | (cases hn; done) | skip
      all_goals
        rw [Option.isNone_iff_eq_none] at hn; simp [cL, eqGuard, binOp, Op.floatArith, hn, aF, aK, aE, choose, Sem.bind]
        exact fun a ha => by have h0 : (none : Option Value) = some a := ha; cases h0
    have h2 : zN b (.float k p) (.float k q) = some (jM k) := by
      unfold zN; simp [hn]
    rw [h1, h2]; rfl⟩
theorem aI.aeK {b : BinOp} {r : Bool} (hr : IU b = some r) (hx : aY fl x = some (.raw (jM k)) := by rfl) (hy : aY fl y = some (.v (.bQ k) q) := by rfl) : aI P fl σ (.binOp b T x y T') (.v .bool r) :=
  ⟨rfl, fun h S t hs _ => by
    have ha : aC t x = jM k := hs x (by simp [Op.operands]) _ hx; have hc := aG.bQ (hs y (by simp [Op.operands]) _ hy : aG h S (.bQ k) _ q); refine ⟨.bool r, aG.ofBool _, fun _ _ _ _ _ H => ?_⟩; show (if (af (aC t x) && af (aC t y)) = true then _ else ((wA P b T (aC t x) (aC t y)).or (rU b (aC t x) (aC t y))).map _) = _; rw [ha, hc, if_neg (by simp [af, pU, eF, jM])]
    have h2 : rU b (jM k) (.float k q) = some r := by
      simp [rU, uJ, jM, D5, hr]
    rw [h2]; rfl⟩
theorem aI.ab7 {b : BinOp} {r : Bool} (hr : IU b = some r) (hx : aY fl x = some (.raw (jM k)) := by rfl) (hy : aY fl y = some (.raw (jM k)) := by rfl) : aI P fl σ (.binOp b T x y T') (.v .bool r) :=
  ⟨rfl, fun h S t hs _ => by
    have ha : aC t x = jM k := hs x (by simp [Op.operands]) _ hx; have hc : aC t y = jM k := hs y (by simp [Op.operands]) _ hy; refine ⟨.bool r, aG.ofBool _, fun _ _ _ _ _ H => ?_⟩; show (if (af (aC t x) && af (aC t y)) = true then _ else ((wA P b T (aC t x) (aC t y)).or (rU b (aC t x) (aC t y))).map _) = _; rw [ha, hc, if_neg (by simp [af, pU, eF, jM])]
    have h2 : rU b (jM k) (jM k) = some r := by
      simp [rU, uJ, jM, D5, hr]
    rw [h2]; rfl⟩
def pM (P : Program) (s D : TypeId) (k2 : FloatKind) : Bool := (P.underlying s).isSome && (match P.underlying D with | some (.float k) => decide (k = k2) | _ => false)
theorem aI.amB {n : Int} {s D : TypeId} {κ : IntKind} (k2 : FloatKind) (hx : aY fl x = some (.v (.int κ) n) := by rfl) (hb : pM P s D k2 = true := by kernel_rfl) : aI P fl σ (.convert s D x) (.v (.bQ k2) (k2.nearest n)) :=
  .conv hx fun h S a ha => by
    obtain rfl := aG.int ha; unfold pM at hb; obtain ⟨b1, b2⟩ := b6 hb; obtain ⟨td, hs⟩ := Option.isSome_iff_exists.1 b1; split at b2
    . rename_i k3 hd; obtain rfl : k3 = k2 := of_decide_eq_true b2; refine ⟨.float k3 (k3.nearest n), aG.CI _ _, rfl, ?_⟩; unfold cL convert; simp only [aF, aL hs, aL hd, Option.bind_some]; show (aE P (Conv.intToFloat k3 n)).bind _ = _; simp only [Conv.intToFloat, aK, Option.bind_some]; rfl
    cases b2
theorem aI.aiW {n : Int} {s D : TypeId} (hn : (k.decode p).toInt .zero = some n) (hf : fit n) (hx : aY fl x = some (.v (.bQ k) p) := by rfl) (hb : QK P s D .i64 = true := by kernel_rfl) : aI P fl σ (.convert s D x) (.v (.int .i64) n) :=
  .conv hx fun h S a ha => by
    obtain rfl := aG.bQ ha; unfold QK at hb; obtain ⟨b1, b2⟩ := b6 hb; obtain ⟨td, hs⟩ := Option.isSome_iff_exists.1 b1; split at b2
    . rename_i k3 hd; obtain rfl : k3 = .i64 := of_decide_eq_true b2; refine ⟨.int .i64 n, aG.ofInt _ _, rfl, ?_⟩; unfold cL convert; simp only [aF, aL hs, aL hd, Option.bind_some]; show (aE P (Conv.floatToInt k p .i64)).bind _ = _; have hr : IntKind.i64.min <= n /\ n <= IntKind.i64.max := ⟨hf.1, hf.2⟩; simp only [Conv.floatToInt, hn, hr, and_self, if_true, aK, Option.bind_some]; rfl
    cases b2
theorem aI.amC {s D : TypeId} (k2 : FloatKind) (cM : ¬ k = k2) {u : Int} (hu : k.format.dX p = some u) {r : Nat} {u' : Int} (hr : k2.format.write (k.format.read p) = r) (jZ : k2.format.dX r = some u') (hx : aY fl x = some (.v (.bQ k) p) := by rfl) (hb : pM P s D k2 = true := by kernel_rfl) : aI P fl σ (.convert s D x) (.v (.bQ k2) r) :=
  .conv hx fun h S a ha => by
    obtain rfl := aG.bQ ha; unfold pM at hb; obtain ⟨b1, b2⟩ := b6 hb; obtain ⟨td, hs⟩ := Option.isSome_iff_exists.1 b1; split at b2
    . rename_i k3 hd; obtain rfl : k3 = k2 := of_decide_eq_true b2; refine ⟨.float k3 r, aG.CI _ _, rfl, ?_⟩; unfold cL convert; simp only [aF, aL hs, aL hd, Option.bind_some]; show (aE P (Conv.floatToFloat k p k3)).bind _ = _; obtain ⟨sg, m, pl, h1, _, _⟩ := Ieee.Format.fN hu; have nR : k.decode p = .number sg m pl := h1
      have h2 : k3.encode (.number sg m pl) = r := by rw [<- hr, h1]; rfl
      obtain ⟨sg', m', pl', h3, _, _⟩ := Ieee.Format.fN jZ; have NA : k3.decode r = .number sg' m' pl' := h3; simp only [Conv.floatToFloat, cM, if_false, nR, h2, NA, Ieee.Datum.isInfinity, Bool.false_eq_true, aK, Option.bind_some]; rfl
    cases b2
theorem aI.akB {s D : TypeId} {sg : Bool} (k2 : FloatKind) (cM : ¬ k = k2) (hu : k.format.read p = .infinity sg) (hx : aY fl x = some (.v (.bQ k) p) := by rfl) (hb : pM P s D k2 = true := by kernel_rfl) : aI P fl σ (.convert s D x) (.v (.bQ k2) (k2.format.write (.infinity sg))) :=
  .conv hx fun h S a ha => by
    obtain rfl := aG.bQ ha; unfold pM at hb; obtain ⟨b1, b2⟩ := b6 hb; obtain ⟨td, hs⟩ := Option.isSome_iff_exists.1 b1; split at b2
    . rename_i k3 hd; obtain rfl : k3 = k2 := of_decide_eq_true b2; refine ⟨.float k3 (k3.encode (.infinity sg)), aG.CI _ _, rfl, ?_⟩; unfold cL convert; simp only [aF, aL hs, aL hd, Option.bind_some]; show (aE P (Conv.floatToFloat k p k3)).bind _ = _; have nR : k.decode p = .infinity sg := hu; simp only [Conv.floatToFloat, cM, if_false, nR, aK, Option.bind_some]; rfl
    cases b2
theorem aI.akC {s D : TypeId} {sg : Bool} {m : Nat} (k2 : FloatKind) (cM : ¬ k = k2) (hu : k.format.read p = .nan sg m) (hx : aY fl x = some (.v (.bQ k) p) := by rfl) (hb : pM P s D k2 = true := by kernel_rfl) : aI P fl σ (.convert s D x) (.raw (jM k2)) :=
  ⟨rfl, fun h S t hs _ => by
    have ha := aG.bQ (hs x (by simp [Op.operands]) _ hx : aG h S (.bQ k) _ p); refine ⟨jM k2, rfl, fun _ _ _ _ _ H => ?_⟩; show (if af (aC t x) = true then ((cL P (convert s D (aC t x))).or (zO P s D (aC t x))).map _ else _) = _; rw [ha, if_pos (show af (Value.float k p) = true from rfl)]; unfold pM at hb; obtain ⟨b1, b2⟩ := b6 hb; obtain ⟨td, hs⟩ := Option.isSome_iff_exists.1 b1; split at b2
    . rename_i k3 hd; obtain rfl : k3 = k2 := of_decide_eq_true b2; have nR : k.decode p = .nan sg m := hu
      have e1 : cL P (convert s D (.float k p)) = none := by
        unfold cL convert; simp only [aF, aL hs, aL hd, Option.bind_some]; show (aE P (Conv.floatToFloat k p k3)).bind _ = _; simp [Conv.floatToFloat, cM, nR, choose, aF, aE]
        try exact fun a ha => by have h0 : (none : Option Value) = some a := ha; cases h0
      have e2 : zO P s D (.float k p) = some (jM k3) := by
        simp [zO, hs, hd, cM, nR, Ieee.Datum.isNaN]
      rw [e1, e2]; rfl
    cases b2⟩
theorem EJ (u v : Int) : compare u v = if u < v then .lt else if u = v then .eq else .gt := rfl
theorem HM {u v : Int} (hp : k.format.dX p = some u) (hq : k.format.dX q = some v) :
    fC .eql k p q = decide (u = v) /\ fC .neq k p q = decide (u ≠ v) /\ fC .lss k p q = decide (u < v) /\ fC .leq k p q = decide (u <= v) /\ fC .gtr k p q = decide (v < u) /\ fC .geq k p q = decide (v <= u) := by
  have ho : k.format.order p q = some (compare u v) := Ieee.Format.EI hp hq; simp only [fC, ho, EJ]; by_cases h1 : u < v
  . have : ¬ u = v := by omega
    simp [h1, this]; omega
  by_cases h2 : u = v
  . subst h2; simp
  simp [h1, h2]; omega
end Go.Fs
namespace Go.Fs
variable {P : Program} {orc : FuncId -> List Value -> aA -> Option (Value × aA)} {b7 : Option Nat} {h h' h0 h1 h2 : aA} {S S' S0 B G : List Nat} {σ aQ : aX} {t t' : Tr} {ms : List Nat} {fl : VL} {ops : Array Oper} {n : Nat} {l : List Oper} {K : VL -> aX -> Prop} {Q : Ex -> VL -> aX -> Prop}
  {d : Tmp} {ty : TypeId} {pos : String} {after : Array Edge} {op : Op} {v pv : PV} {g : Option (Nat × Bool)} {x y z : Operand} {T T' e : TypeId} {κ ν : Ty} {w : Value}
section
variable {α β : Type} [DecidableEq α]
def bX : List (α × β) -> α -> Option β
  | [], _ => none
  | (k, v) :: r, x => if x = k then some v else bX r x
def pN : List (α × β) -> α -> β -> List (α × β)
  | [], x, y => [(x, y)]
  | (k, v) :: r, x, y => if x = k then (x, y) :: r else (k, v) :: pN r x y
def mix : List (α × β) -> α -> Nat -> Option Nat
  | [], _, _ => none
  | (k, _) :: r, x, i => if x = k then some i else mix r x (i + 1)
theorem EK : ∀ {l : List (α × β)} {x : α} {i : Nat}, match mix l x i with
    | none => bX l x = none
    | some j => i <= j /\ ∃ (hj : j - i < l.length), (l[j - i]).1 = x /\ bX l x = some (l[j - i]).2
  | [], _, _ => rfl
  | (k, v) :: r, x, i => by
    unfold mix bX; by_cases hk : x = k
    . rw [if_pos hk, if_pos hk]
      have e0 : i - i = 0 := by omega
      refine ⟨Nat.le_refl _, by rw [e0]; simp, ?_, ?_⟩
      . simp only [e0]; exact hk.symm
      simp only [e0]; rfl
    rw [if_neg hk, if_neg hk]; have := EK (l := r) (x := x) (i := i + 1); split at this
    . exact this
    rename_i j hj; obtain ⟨h1, h2, h3, h4⟩ := this
    have e1 : j - i = (j - (i + 1)) + 1 := by omega
    refine ⟨by omega, by rw [e1]; simpa using h2, ?_, ?_⟩
    . simp only [e1, List.getElem_cons_succ]; exact h3
    simp only [e1, List.getElem_cons_succ]; exact h4
theorem TJ : ∀ {l : List (α × β)} {x : α} {y : β} {i : Nat}, match mix l x i with
    | none => pN l x y = l ++ [(x, y)]
    | some j => i <= j /\ pN l x y = l.set (j - i) (x, y)
  | [], _, _, _ => rfl
  | (k, v) :: r, x, y, i => by
    unfold mix pN; by_cases hk : x = k
    . rw [if_pos hk, if_pos hk]
      have e0 : i - i = 0 := by omega
      exact ⟨Nat.le_refl _, by rw [e0]; rfl⟩
    rw [if_neg hk, if_neg hk]; have := TJ (l := r) (x := x) (y := y) (i := i + 1); split at this
    . rw [this]; rfl
    rename_i j hj; obtain ⟨h1, h2⟩ := this
    have e1 : j - i = (j - (i + 1)) + 1 := by omega
    exact ⟨by omega, by rw [e1, List.set_cons_succ, h2]⟩
end
structure TK (P : Program) (K : TypeId) (κ : Ty) : Prop where
  flat : κ.fU = true
  und : ∃ td, P.underlying K = some td /\ ((∀ {h : aA} {S : List Nat} (u v : Value) (x y : κ.den) (inst : Decidable (x = y)), aG h S κ u x -> aG h S κ v y -> Instr.sameNow td u v = some (@decide (x = y) inst)) \/
    ((∀ u v, Instr.sameNow td u v = none) /\ ∀ {h : aA} {S : List Nat} (u v : Value) (x y : κ.den) (inst : Decidable (x = y)), aG h S κ u x -> aG h S κ v y -> aE P (Op.equal K u v) = some (@decide (x = y) inst)))
  chk : ∀ {h : aA} {S : List Nat} (em : Bool) (u : Value) (x : κ.den), aG h S κ u x -> (aE P (Instr.checkKey em 10000 K u)).isSome = true
  bits : ∀ {h : aA} {S : List Nat} (u : Value) (x : κ.den), aG h S κ u x -> Instr.sameBits 10000 u u = true
theorem ZL {K : TypeId} (hK : P.underlying K = some .string) : TK P K .str where
  flat := rfl
  und := ⟨.string, hK, .inl fun u v x y inst hu hv => by
    rw [hu.str, hv.str]; show some (x == y) = _; congr 1; by_cases h : x = y
    . rw [s7 h]; simp [h]
    rw [EG h]; simp [h]⟩
  chk := fun em u x hu => by
    rw [hu.str]; unfold Instr.checkKey; simp only [aF, aL hK, Option.bind_some]; rfl
  bits := fun u x hu => by
    rw [hu.str]; show (x == x) = true; exact s7 rfl
theorem CP : ∀ (τ : Ty) (x : τ.den), ((τ.gQ x).zip (τ.gQ x)).all (fun p => Instr.sameBits 9999 p.1 p.2) = true
  | .int k, x => by show ((k == k && x == x) && true) = true; simp
  | .bool, x => by show ((x == x) && true) = true; simp
  | .str, x => by show ((x == x) && true) = true; rw [s7 rfl]; rfl
  | .bQ k, x => by show ((k == k && x == x) && true) = true; simp
  | .unit, _ => rfl
  | .sl _, _ => rfl
  | .mp _ _, _ => rfl
  | .fn, _ => rfl
  | .jT, _ => rfl
  | .pair a b, x => by
    show ((a.gQ x.1 ++ b.gQ x.2).zip (a.gQ x.1 ++ b.gQ x.2)).all _ = true; rw [List.zip_append rfl, List.all_append, CP a, CP b]; rfl
theorem ahH {K : TypeId} {td : TypeDesc} (hE : WT P K κ) (hK : P.underlying K = some td) (hd : rS td = true) (ha : κ.agg = true) (hf : κ.fU = true) (hc : ∀ (em : Bool) (x : κ.den), (aE P (Instr.checkKey em 10000 K (.agg (κ.gQ x).toArray))).isSome = true) : TK P K κ where
  flat := hf
  und := ⟨td, hK, .inr ⟨fun u v => (by cases td <;> first | rfl | cases hd), fun u v x y inst hu hv => hE.run hu hv⟩⟩
  chk := fun em u x hu => by rw [flat_agg hu hf ha]; exact hc em x
  bits := fun u x hu => by
    rw [flat_agg hu hf ha]; show (((κ.gQ x).toArray.size == (κ.gQ x).toArray.size) && ((κ.gQ x).toArray.toList.zip (κ.gQ x).toArray.toList).all fun (p : Value × Value) => Instr.sameBits 9999 p.1 p.2) = true; rw [CP κ x]; simp
structure yV (P : Program) (T : TypeId) (κ ν : Ty) : Prop where
  key : ∃ K E, P.underlying T = some (.map K E) /\ TK P K κ /\ lI P E ν
def rO (h : aA) (S : List Nat) (κ ν : Ty) (es : List MapEntry) (kvs : List (κ.den × ν.den)) : Prop := es.length = kvs.length /\ ∀ i (hi : i < kvs.length) (hj : i < es.length), aG h S κ es[i].key kvs[i].1 /\ aG h S ν es[i].val kvs[i].2
theorem rO.tail {e : MapEntry} {es : List MapEntry} {p : κ.den × ν.den} {kvs : List (κ.den × ν.den)} (hE : rO h S κ ν (e :: es) (p :: kvs)) : (aG h S κ e.key p.1 /\ aG h S ν e.val p.2) /\ rO h S κ ν es kvs := by
  obtain ⟨h1, h2⟩ := hE; refine ⟨h2 0 (by simp) (by simp), by simpa using h1, fun i hi hj => ?_⟩; have := h2 (i + 1) (by simpa using hi) (by simpa using hj); simpa using this
theorem A7 [DecidableEq κ.den] {K : TypeId} {u : Value} {k : κ.den} (hK : TK P K κ) (hu : aG h S κ u k) {es : List MapEntry} {kvs : List (κ.den × ν.den)} (hE : rO h S κ ν es kvs) : w8 P K u es = some (mix kvs k 0) := by
  obtain ⟨td, hU, hk⟩ := hK.und; unfold w8; rw [hU]; simp only; rcases hk with hk | ⟨hn, hk⟩
  . have key : ∀ (es : List MapEntry) (kvs : List (κ.den × ν.den)) (i : Nat), rO h S κ ν es kvs -> ∃ r, Instr.findNow td u es i = some r /\ r.map (·.1) = mix kvs k i := by
      intro es
      induction es with
      | nil =>
        intro kvs i hE
        cases kvs with
        | nil => exact ⟨none, rfl, rfl⟩
        | cons p kvs => have := hE.1; simp at this
      | cons e es ih =>
        intro kvs i hE
        cases kvs with
        | nil => have := hE.1; simp at this
        | cons p kvs =>
          obtain ⟨⟨h1, _⟩, h3⟩ := hE.tail; obtain ⟨k', v'⟩ := p; unfold Instr.findNow mix; rw [hk u e.key k k' inferInstance hu h1]; by_cases yN : k = k'
          . rw [if_pos yN]; exact ⟨some (i, e.val), by simp [yN], rfl⟩
          rw [if_neg yN]; obtain ⟨r, r1, r2⟩ := ih kvs (i + 1) h3; exact ⟨r, by simp [yN, r1], r2⟩
    obtain ⟨r, r1, r2⟩ := key es kvs 0 hE; rw [r1]; simp only; rw [r2]
  cases es with
  | nil =>
    cases kvs with
    | nil => rfl
    | cons p kvs => have := hE.1; simp at this
  | cons e0 es0 =>
    have TL : Instr.findNow td u (e0 :: es0) 0 = none := by
      unfold Instr.findNow; rw [hn]
    rw [TL]; simp only
    have key : ∀ (es : List MapEntry) (kvs : List (κ.den × ν.den)) (i : Nat), rO h S κ ν es kvs -> ∃ r, aE P (Instr.findAsking K u es i) = some r /\ r.map (·.1) = mix kvs k i := by
      intro es
      induction es with
      | nil =>
        intro kvs i hE
        cases kvs with
        | nil => exact ⟨none, rfl, rfl⟩
        | cons p kvs => have := hE.1; simp at this
      | cons e es ih =>
        intro kvs i hE
        cases kvs with
        | nil => have := hE.1; simp at this
        | cons p kvs =>
          obtain ⟨⟨h1, _⟩, h3⟩ := hE.tail; obtain ⟨k', v'⟩ := p; unfold Instr.findAsking mix; simp only [aF, hk u e.key k k' inferInstance hu h1, Option.bind_some]; by_cases yN : k = k'
          . rw [if_pos yN]; exact ⟨some (i, e.val), by simp [yN, aK], rfl⟩
          rw [if_neg yN]; obtain ⟨r, r1, r2⟩ := ih kvs (i + 1) h3; exact ⟨r, by simp [yN, r1], r2⟩
    obtain ⟨r, r1, r2⟩ := key _ kvs 0 hE; have r1' : aE P (Instr.findAsking K u (e0 :: es0)) = some r := r1; rw [r1']; simp only [Option.map_some]; rw [r2]
theorem LC [DecidableEq κ.den] (hT : yV P T κ ν) {u m : Value} {k : κ.den} {kvs : List (κ.den × ν.den)} (hu : aG h S κ u k) (hm : SW h S κ ν m kvs) :
    ∃ r, aG h S ν r ((bX kvs k).getD (oL ν)) /\ (∀ H : aA, (∀ b o, h.get b = some o -> H.get b = some o) -> gJ P T m u false H = some r /\ gJ P T m u true H = some (.tuple #[r, .bool (bX kvs k).isSome])) := by
  obtain ⟨K, E, hU, hK, hZ⟩ := hT.key; obtain ⟨z, hz, hzc, DI⟩ := hZ.zero; obtain ⟨z1, z2⟩ := nA h S ν; obtain ⟨a1, a2⟩ := GF (u := z) (by rw [hzc]; exact z2); have MT : aG h S ν z (oL ν) := ⟨DI, by rw [hzc]; exact z1⟩; have JS : af u = true := sS (sC hK.flat hu); rcases hm with ⟨rfl, rfl⟩ | ⟨b, es, c, rfl, sN, hg, hE⟩
  . refine ⟨z, MT, fun H hH => ?_⟩; have hf : w8 P K u [] = some none := A7 (kvs := ([] : List (κ.den × ν.den))) hK hu ⟨rfl, fun i hi => by simp at hi⟩; have NF := hK.chk (h := h) (S := S) true u k hu; constructor <;> simp [gJ, hU, hz, JS, a1, hf, NF, bX]
  have GJ : rO h S κ ν es kvs := hE; have hf := A7 (ν := ν) hK hu GJ; have NF := hK.chk (h := h) (S := S) es.isEmpty u k hu; have EL := EK (l := kvs) (x := k) (i := 0)
  cases AK : mix kvs k 0 with
  | none =>
    rw [AK] at EL hf; have TM : bX kvs k = none := EL; refine ⟨z, by rw [TM]; exact MT, fun H hH => ?_⟩
    constructor <;> simp [gJ, hU, hz, JS, a1, hf, NF, TM, hH b _ hg]
  | some j =>
    rw [AK] at EL hf; obtain ⟨_, hj, C1, nU⟩ := EL; simp only [Nat.sub_zero] at hj C1 nU
    have JZ : j < es.length := by rw [GJ.1]; exact hj
    refine ⟨es[j].val, by rw [nU]; exact (GJ.2 j hj JZ).2, fun H hH => ?_⟩; constructor <;> simp [gJ, hU, hz, JS, a1, hf, NF, nU, hH b _ hg, List.getElem?_eq_getElem JZ]
theorem dC.aiX {kvs : List (κ.den × ν.den)} (hT : yV P T κ ν) (hx : aY fl x = some (.v (.mp κ ν) kvs) := by rfl) : dC P fl σ (.call { callee := .builtin .len, args := #[x], argTypes := #[T] }) (.v (.int .i64) (kvs.length : Nat)) :=
  ⟨rfl, fun h S t hs hc => by
    obtain ⟨K, E, hU, _, _⟩ := hT.key; refine ⟨.int .i64 (kvs.length : Nat), aG.ofInt _ _, fun H hH _ _ _ _ _ => ?_⟩; show (kI P #[T] (aC t x) H).map _ = _; rcases (aG.mp (hs x (by simp [Op.operands, Call.operands]) _ hx) : SW h S κ ν _ kvs) with ⟨h1, rfl⟩ | ⟨b, es, c, h1, _, hg, hE, _⟩
    . rw [h1]; simp [kI, hU]
    rw [h1]; simp [kI, hU, hH b _ hg, hE]⟩
theorem rO.set {kvs : List (κ.den × ν.den)} {es : List MapEntry} {j : Nat} {e : MapEntry} {p : κ.den × ν.den} (hE : rO h S κ ν es kvs) (hk : aG h S κ e.key p.1) (hv : aG h S ν e.val p.2) : rO h S κ ν (es.set j e) (kvs.set j p) := by
  refine ⟨by simpa using hE.1, fun i hi hj => ?_⟩; rw [List.length_set] at hi hj; by_cases N1 : j = i
  . subst N1; simp only [List.getElem_set_self]; exact ⟨hk, hv⟩
  simp only [List.getElem_set_ne N1]; exact hE.2 i hi hj
theorem rO.push {kvs : List (κ.den × ν.den)} {es : List MapEntry} {e : MapEntry} {p : κ.den × ν.den} (hE : rO h S κ ν es kvs) (hk : aG h S κ e.key p.1) (hv : aG h S ν e.val p.2) : rO h S κ ν (es ++ [e]) (kvs ++ [p]) := by
  refine ⟨by simpa using hE.1, fun i hi hj => ?_⟩
  have dI : i < kvs.length + 1 := by simpa using hi
  by_cases bL : i < kvs.length
  . rw [List.getElem_append_left bL, List.getElem_append_left (by rw [hE.1]; exact bL)]; exact hE.2 i bL _
  have e1 : i = kvs.length := by omega
  subst e1; have e2 := hE.1
  have q1 : (es ++ [e])[kvs.length]'hj = e := by rw [List.getElem_append_right (by omega)]; simp [e2]
  have q2 : (kvs ++ [p])[kvs.length]'hi = p := by rw [List.getElem_append_right (by omega)]; simp
  rw [q1, q2]; exact ⟨hk, hv⟩
section
variable [DecidableEq κ.den] {k : κ.den} {kvs : List (κ.den × ν.den)}
theorem dC.look (hT : yV P T κ ν) (hx : aY fl x = some (.v (.mp κ ν) kvs) := by rfl) (hy : aY fl y = some (.v κ k) := by rfl) : dC P fl σ (.lookup T x y false) (.v ν ((bX kvs k).getD (oL ν))) :=
  ⟨rfl, fun h S t hs hc => by
    obtain ⟨r, r1, r2⟩ := LC hT (hs y (by simp [Op.operands]) _ hy : aG h S κ _ k) (aG.mp (hs x (by simp [Op.operands]) _ hx))
    exact ⟨r, r1, fun H hH _ _ _ _ _ => by
      show (gJ P T (aC t x) (aC t y) false H).map _ = _
      rw [(r2 H hH).1]; rfl⟩⟩
theorem dC.R1 (hT : yV P T κ ν) (hx : aY fl x = some (.v (.mp κ ν) kvs) := by rfl) (hy : aY fl y = some (.v κ k) := by rfl) : dC P fl σ (.lookup T x y true) (.kL [.v ν ((bX kvs k).getD (oL ν)), .v .bool (bX kvs k).isSome]) :=
  ⟨rfl, fun h S t hs hc => by
    obtain ⟨r, r1, r2⟩ := LC hT (hs y (by simp [Op.operands]) _ hy : aG h S κ _ k) (aG.mp (hs x (by simp [Op.operands]) _ hx))
    exact ⟨.tuple #[r, .bool (bX kvs k).isSome], ⟨[r, .bool (bX kvs k).isSome], rfl, r, _, rfl, r1, _, _, rfl, aG.ofBool _, rfl⟩, fun H hH _ _ _ _ _ => by
      show (gJ P T (aC t x) (aC t y) true H).map _ = _
      rw [(r2 H hH).2]; rfl⟩⟩
theorem TN (hT : yV P T κ ν) {u : Value} (hu : aG h S κ u k) (hc : bS h S w (.mp κ ν kvs)) :
    ∃ r, aG h S ν r ((bX kvs k).getD (oL ν)) /\ (∀ H : aA, (∀ b o, h.get b = some o -> H.get b = some o) -> gJ P T w u false H = some r /\ gJ P T w u true H = some (.tuple #[r, .bool (bX kvs k).isSome])) := by
  obtain ⟨K, E, hU, hK, hZ⟩ := hT.key; obtain ⟨z, hz, hzc, DI⟩ := hZ.zero; obtain ⟨z1, z2⟩ := nA h S ν; obtain ⟨a1, a2⟩ := GF (u := z) (by rw [hzc]; exact z2); have MT : aG h S ν z (oL ν) := ⟨DI, by rw [hzc]; exact z1⟩; have JS : af u = true := sS (sC hK.flat hu); obtain ⟨b, es, c, rfl, sN, hg, hE⟩ := hc; have GJ : rO h S κ ν es kvs := hE; have hf := A7 (ν := ν) hK hu GJ; have NF := hK.chk (h := h) (S := S) es.isEmpty u k hu; have EL := EK (l := kvs) (x := k) (i := 0)
  cases AK : mix kvs k 0 with
  | none =>
    rw [AK] at EL hf; have TM : bX kvs k = none := EL; refine ⟨z, by rw [TM]; exact MT, fun H hH => ?_⟩
    constructor <;> simp [gJ, hU, hz, JS, a1, hf, NF, TM, hH b _ hg]
  | some j =>
    rw [AK] at EL hf; obtain ⟨_, hj, C1, nU⟩ := EL; simp only [Nat.sub_zero] at hj C1 nU
    have JZ : j < es.length := by rw [GJ.1]; exact hj
    refine ⟨es[j].val, by rw [nU]; exact (GJ.2 j hj JZ).2, fun H hH => ?_⟩; constructor <;> simp [gJ, hU, hz, JS, a1, hf, NF, nU, hH b _ hg, List.getElem?_eq_getElem JZ]
theorem dC.akD (hT : yV P T κ ν) (hm : (w, Cell.mp κ ν kvs) ∈ σ) (hx : aY fl x = some (.raw w) := by rfl) (hy : aY fl y = some (.v κ k) := by rfl) : dC P fl σ (.lookup T x y false) (.v ν ((bX kvs k).getD (oL ν))) :=
  ⟨rfl, fun h S t hs hc => by
    have h1 : aC t x = w := hs x (by simp [Op.operands]) _ hx; obtain ⟨r, r1, r2⟩ := TN hT (hs y (by simp [Op.operands]) _ hy : aG h S κ _ k) (hc _ hm)
    exact ⟨r, r1, fun H hH _ _ _ _ _ => by
      show (gJ P T (aC t x) (aC t y) false H).map _ = _
      rw [h1, (r2 H hH).1]; rfl⟩⟩
theorem cA.TO {u : ν.den} (hT : yV P T κ ν) (hx : aY fl x = some (.raw w)) (hy : aY fl y = some (.v κ k)) (hz : aY fl z = some (.v ν u)) :
    cA P fl ((w, .mp κ ν kvs) :: σ) (.mapUpdate T x y z) fun v aQ => v = .raw undef /\ aQ = (w, .mp κ ν (pN kvs k u)) :: σ :=
  ⟨rfl, fun S0 h t L => by
    have h1 : aC t x = w := eH L.aH hx; have hk := (eH L.aH hy : aG h _ κ (aC t y) k); have hv := (eH L.aH hz : aG h _ ν (aC t z) u); obtain ⟨K, E, hU, hK, hZ⟩ := hT.key; obtain ⟨b, es, c, h3, h4, hg, hE⟩ := L.cells _ List.mem_cons_self; have hw : w = .map (some b) := h3; have GJ : rO h (own ((w, .mp κ ν kvs) :: σ) ++ S0) κ ν es kvs := hE
    have pY : cW w = [b] := by rw [hw]; rfl
    have hf := A7 (ν := ν) hK hk GJ; have JS : af (aC t y) = true := sS (sC hK.flat hk); have NF := hK.chk (h := h) false _ k hk; have SR := TJ (l := kvs) (x := k) (y := u) (i := 0); have EL := EK (l := kvs) (x := k) (i := 0)
    have fin : ∀ (eL : List MapEntry) (c' : Nat), kY P T w (aC t y) (aC t z) h = some (h.set b (.nO eL c')) -> rO h (own ((w, .mp κ ν kvs) :: σ) ++ S0) κ ν eL (pN kvs k u) ->
        ∃ uu h' v aQ, (v = .raw undef /\ aQ = (w, .mp κ ν (pN kvs k u)) :: σ) /\ Made S0 h h' ((w, .mp κ ν kvs) :: σ) aQ /\ aJ h' (own aQ ++ S0) v uu /\ ∀ (d : Option Tmp) (ty : TypeId) (pos : String) (after : Array Edge) (g : Option (Nat × Bool)), fH P ⟨d, .mapUpdate T x y z, ty, pos, after, g⟩ (aC t) h = some (uu, h') := fun eL c' hup hEn => by
      refine ⟨undef, h.set b (.nO eL c'), .raw undef, _, ⟨rfl, rfl⟩, Made.head L (cO.set hg (by rw [pY]; simp)) (fun b hb => .inl hb) (by rw [pY]; simp) fun hN => ?_, rfl, fun _ _ _ _ _ => ?_⟩
      . refine ⟨b, eL, c', h3, ?_, by rw [aA.cZ hg, if_pos rfl], hEn.1, fun i hi hj => ⟨(hEn.2 i hi hj).1.nx hN, (hEn.2 i hi hj).2.nx hN⟩⟩; rw [bE]; exact List.mem_append_left _ (List.mem_append_left _ (by rw [pY]; simp))
      show (kY P T (aC t x) (aC t y) (aC t z) h).map _ = _; rw [h1, hup]; rfl
    cases AK : mix kvs k 0 with
    | none =>
      rw [AK] at SR hf; have ZM : Fs.pN kvs k u = kvs ++ [(k, u)] := SR; refine fin (es ++ [{ key := aC t y, val := aC t z, born := c }]) (c + 1) ?_ (by rw [ZM]; exact GJ.push hk hv); rw [hw]
      simp [kY, hU, hg, JS, NF, hf]
    | some j =>
      rw [AK] at SR hf EL; obtain ⟨_, ZM⟩ := SR; obtain ⟨_, hj, C1, _⟩ := EL; simp only [Nat.sub_zero] at ZM hj C1
      have JZ : j < es.length := by rw [GJ.1]; exact hj
      have hke : es[j].key = aC t y := by
        have q1 := (GJ.2 j hj JZ).1; rw [C1] at q1; have c1 := r7 q1.2 hK.flat; have c2 := r7 hk.2 hK.flat
        cases fI : κ.agg with
        | true => rw [flat_agg q1 hK.flat fI, flat_agg hk hK.flat fI]
        | false =>
          have d1 := cells_one (q1.1.trans fI); have d2 := cells_one (hk.1.trans fI); rw [d1] at c1; rw [d2] at c2; have : [es[j].key] = [aC t y] := c1.trans c2.symm; simpa using this
      have hsb : Instr.sameBits 10000 es[j].key (aC t y) = true := by rw [hke]; exact hK.bits _ k hk
      refine fin (es.set j { es[j] with key := aC t y, val := aC t z }) c ?_ (by rw [ZM]; exact GJ.set hk hv); rw [hw]
      simp [kY, hU, hg, JS, NF, hf, List.getElem?_eq_getElem JZ, hsb]⟩
theorem J.TO {u : ν.den} (hT : yV P T κ ν) (hk : J P orc ops n l fl ((w, .mp κ ν (pN kvs k u)) :: σ) K) (hx : aY fl x = some (.raw w) := by rfl) (hy : aY fl y = some (.v κ k) := by rfl) (hz : aY fl z = some (.v ν u) := by rfl) (hw : cX ops fl g = some true := by rfl) :
    J P orc ops n (⟨none, .mapUpdate T x y z, ty, pos, after, g⟩ :: l) fl ((w, .mp κ ν kvs) :: σ) K :=
  J.rJ (cA.TO hT hx hy hz) (by rintro _ _ ⟨rfl, rfl⟩; exact hk) hw
end
theorem gZ.mkMap (κ ν : Ty) : gZ P fl (.makeMap T none) (.mp κ ν []) :=
  ⟨rfl, fun h S t hs bW hS => ⟨fun k => .map (some k), .nO [] 0, fun _ => rfl, fun S' hN hm => ⟨h.next, [], 0, rfl, hm, by rw [aA.bN, if_pos rfl], rfl, fun i hi => by simp at hi⟩, fun H _ _ _ _ _ => rfl⟩⟩
end Go.Fs
namespace Go.Fs
variable {P : Program} {orc : FuncId -> List Value -> aA -> Option (Value × aA)} {h : aA} {S : List Nat} {σ : aX} {t : Tr} {fl : VL} {x y : Operand} {T T' : TypeId} {v pv : PV} {k k' : FloatKind} {p q : Nat}
theorem aI.yW {b : BinOp} {r : Bool} (he : fC b k p q = r) (hb : ZJ b = true := by rfl) (hx : aY fl x = some (.v (.bQ k) p) := by rfl) (hy : aY fl y = some (.v (.bQ k) q) := by rfl) : aI P fl σ (.binOp b T x y T') (.v .bool r) := he ▸ aI.ZK b hb hx hy
theorem VF.ext {f : FuncId} {args : List PV} {r : PV} {fn : Func} {e : Array Value -> Sem Value} {us : List Value} {w : Value} (l5 : P.funcs[f]? = some fn) (ho : ∀ us h, orc f us h = none) (hb : (fn.body.isNone && !(fn.name == "runtime.NumGoroutine")) = true) (h1 : (Extern.findNext fn).isNone = true) (h2 : Extern.find fn = some e)
    (ha : us.all af = true) (hus : ∀ (h : aA) (S : List Nat) (uT : List Value), bA h S args uT -> uT = us) (hv : cL P (e us.toArray) = some w) (hr : ∀ (h : aA) (S : List Nat), aJ h S r w) : VF P orc f args r := fun h S uT bW hS nG => by
  obtain rfl := hus h S uT nG; exact rC.ext (ho _ _) l5 hb h1 h2 ha hv ⟨cO.refl _ _, hr _ _, fun _ => rfl⟩
theorem ab8 {h : aA} {S : List Nat} {us : List Value} {k : FloatKind} {p : Nat} (hr : bA h S [.v (.bQ k) p] us) : us = [.float k p] := by
  obtain ⟨u, r, rfl, h2, h3⟩ := hr; obtain rfl : r = [] := h3; rw [aG.bQ h2]
theorem VF.ZN {f : FuncId} {r : PV} {fn : Func} {e : Array Value -> Sem Value} {w : Value} (l5 : P.funcs[f]? = some fn) (ho : ∀ us h, orc f us h = none) (hb : (fn.body.isNone && !(fn.name == "runtime.NumGoroutine")) = true) (h1 : (Extern.findNext fn).isNone = true) (h2 : Extern.find fn = some e)
    (hv : cL P (e #[.float k p]) = some w) (hr : ∀ (h : aA) (S : List Nat), aJ h S r w) : VF P orc f [.v (.bQ k) p] r :=
  VF.ext (us := [.float k p]) l5 ho hb h1 h2 rfl (fun _ _ _ hr => ab8 hr) hv hr
theorem VF.ahI {f : FuncId} {r : PV} {κ : IntKind} {n : Int} {fn : Func} {e : Array Value -> Sem Value} {w : Value} (l5 : P.funcs[f]? = some fn) (ho : ∀ us h, orc f us h = none) (hb : (fn.body.isNone && !(fn.name == "runtime.NumGoroutine")) = true) (h1 : (Extern.findNext fn).isNone = true) (h2 : Extern.find fn = some e)
    (hv : cL P (e #[.int κ n]) = some w) (hr : ∀ (h : aA) (S : List Nat), aJ h S r w) : VF P orc f [.v (.int κ) n] r :=
  VF.ext (us := [.int κ n]) l5 ho hb h1 h2 rfl (fun _ _ _ hr => ab4 _ _ _ hr) hv hr
theorem R2 {p q r : Nat} (h : Ieee.single.mul p q = some r) : OH .mul .f32 p q = some r := h
theorem ZO {p q r : Nat} (h : Ieee.single.sub p q = some r) : OH .sub .f32 p q = some r := h
theorem ZP {p q r : Nat} (h : Ieee.double.mul p q = some r) : OH .mul .f64 p q = some r := h
theorem ahJ {p : Nat} (h : Ieee.u32 p = none) : JC .sub .f32 p p = true := by
  show (Ieee.single.sub p p).isNone = true; rw [Ieee.Format.LA h]; rfl
theorem OI {p : Nat} {n : Int} (h : (Ieee.single.read p).toInt .zero = some n) : (FloatKind.f32.decode p).toInt .zero = some n := h
theorem X9 {p : Nat} (h : Ieee.double.order p p = some .eq) : fC .neq .f64 p p = false := by
  show (Ieee.double.order p p != some .eq) = false; rw [h]; rfl
theorem EM {p q : Nat} {u v : Int} (hp : Ieee.u32 p = some u) (hq : Ieee.u32 q = some v) :
    fC .eql .f32 p q = decide (u = v) /\ fC .neq .f32 p q = decide (u ≠ v) /\ fC .lss .f32 p q = decide (u < v) /\ fC .leq .f32 p q = decide (u <= v) /\ fC .gtr .f32 p q = decide (v < u) /\ fC .geq .f32 p q = decide (v <= u) := HM (k := .f32) hp hq
theorem J4 {p q : Nat} {u v : Int} (hp : Ieee.u64 p = some u) (hq : Ieee.u64 q = some v) :
    fC .eql .f64 p q = decide (u = v) /\ fC .neq .f64 p q = decide (u ≠ v) /\ fC .lss .f64 p q = decide (u < v) /\ fC .leq .f64 p q = decide (u <= v) /\ fC .gtr .f64 p q = decide (v < u) /\ fC .geq .f64 p q = decide (v <= u) := HM (k := .f64) hp hq
theorem aI.X4 {s D : TypeId} {u u' : Int} (hu : Ieee.u32 p = some u) (hr : Ieee.u64 (Ieee.double.write (Ieee.single.read p)) = some u') (hx : aY fl x = some (.v (.bQ .f32) p) := by rfl) (hb : pM P s D .f64 = true := by kernel_rfl) : aI P fl σ (.convert s D x) (.v (.bQ .f64) (Ieee.double.write (Ieee.single.read p))) :=
  aI.amC (k := .f32) .f64 (by decide) hu rfl hr hx hb
theorem aI.ahK {s D : TypeId} {sg : Bool} (hu : Ieee.single.read p = .infinity sg) (hx : aY fl x = some (.v (.bQ .f32) p) := by rfl) (hb : pM P s D .f64 = true := by kernel_rfl) : aI P fl σ (.convert s D x) (.v (.bQ .f64) (Ieee.double.write (.infinity sg))) :=
  aI.akB (k := .f32) .f64 (by decide) hu hx hb
theorem aI.ahL {s D : TypeId} {sg : Bool} {m : Nat} (hu : Ieee.single.read p = .nan sg m) (hx : aY fl x = some (.v (.bQ .f32) p) := by rfl) (hb : pM P s D .f64 = true := by kernel_rfl) : aI P fl σ (.convert s D x) (.raw (jM .f64)) :=
  aI.akC (k := .f32) .f64 (by decide) hu hx hb
theorem XA {P : Program} {y : Nat} {s : Bool} {m : Nat} {pl : Int} (h : Ieee.double.read y = .number s m pl) : cL P (Extern.MathFloor.toIntegral "math.archFloor" .down #[.float .f64 y]) = some (.float .f64 (Ieee.double.write ((Ieee.double.read y).integral .down))) := by
  have e : Extern.MathFloor.toIntegral "math.archFloor" .down #[.float .f64 y] = (match FloatKind.f64.decode y with
    | .nan s t =>
      if FloatKind.f64.format.quiet t = t then pure (.float .f64 y) else do
      let kept <- choose (.extern "math.Floor,Ceil,Trunc,RoundToEven.signallingNaN kept" 2)
      pure (.float .f64 (if kept == 1 then y else FloatKind.f64.encode (.nan s (FloatKind.f64.format.quiet t))))
    | d => pure (.float .f64 (FloatKind.f64.encode (d.integral .down)))) := rfl
  have h2 : FloatKind.f64.decode y = .number s m pl := h; rw [e, h2, h]; rfl
theorem XB {b : Nat} : ((BitVec.ofInt 64 (b : Int)) &&& ~~~(BitVec.ofInt 64 9223372036854775808)).toNat = b % 9223372036854775808 := by
  rw [BitVec.toNat_and]
  have e1 : (~~~(BitVec.ofInt 64 9223372036854775808)).toNat = 2 ^ 63 - 1 := by decide
  have e2 : (BitVec.ofInt 64 (b : Int)).toNat = b % 2 ^ 64 := by
    rw [BitVec.toNat_ofInt]; omega
  rw [e1, e2, Nat.and_two_pow_sub_one_eq_mod]; omega
theorem aI.XB {b : Nat} (hx : aY fl x = some (.v (.int .u64) ((b : Nat) : Int))) (hy : aY fl y = some (.v (.int .u64) 9223372036854775808)) : aI P fl σ (.binOp .andNot T x y T') (.v (.int .u64) ((b % 9223372036854775808 : Nat) : Int)) :=
  .sX hx hy (u := .int .u64 ((b % 9223372036854775808 : Nat) : Int)) (by
    show (aE P (Op.intBits .andNot .u64 (b : Int) 9223372036854775808)).bind _ = _; have e1 : Op.intBits .andNot .u64 (b : Int) 9223372036854775808 = pure (.int .u64 (IntKind.u64.wrap (((BitVec.ofInt 64 (b : Int)) &&& ~~~(BitVec.ofInt 64 9223372036854775808)).toNat : Int))) := rfl; rw [e1, Fs.XB, aK]
    have e2 : IntKind.u64.wrap ((b % 9223372036854775808 : Nat) : Int) = ((b % 9223372036854775808 : Nat) : Int) := by
      have e3 : IntKind.u64.wrap ((b % 9223372036854775808 : Nat) : Int) = ((b % 9223372036854775808 : Nat) : Int) % 18446744073709551616 := rfl; rw [e3]; omega
    rw [e2]; rfl) fun h S => aG.ofInt _ _
end Go.Fs
namespace Ieee
open Format
theorem ab9 {b : Nat} : double.read (b % 9223372036854775808) = match double.read b with
    | .number _ m p => .number false m p
    | .infinity _ => .infinity false
    | .nan _ f => .nan false f := by
  have e0 : double.signWeight = 9223372036854775808 := by decide
  have e1 : b % 9223372036854775808 % double.signWeight = b % double.signWeight := by rw [e0]; omega
  have e2 : (b % 9223372036854775808 / double.signWeight % 2 == 1) = false := by
    rw [e0, show b % 9223372036854775808 / 9223372036854775808 = 0 by omega]; rfl
  unfold Format.read; simp only [e1, e2]; split
  . rfl
  split
  . rfl
  split <;> rfl
theorem XC {b : Nat} {v : Int} (h : double.dX b = some v) : double.dX (b % 9223372036854775808) = some (v.natAbs : Int) := by
  obtain ⟨s, m, p, h1, h2, rfl⟩ := fN h; unfold dX; rw [ab9, h1]; simp only; rw [qL]; rfl
def TP : Int := (2 ^ 53 - 1) * (((2 ^ (2045 : Nat) : Nat)) : Int)
theorem akE : u64 9218868437227405311 = some TP := by decide +kernel
theorem XD {u : Int} (h : u.natAbs <= 2 ^ HL) : ((u * (kW : Nat)).natAbs : Int) <= TP := by
  have h1 : 2 ^ HL * kW <= TP.natAbs := by decide +kernel
  have h2 : (u * (kW : Nat)).natAbs <= 2 ^ HL * kW := by
    rw [Int.natAbs_mul, Int.natAbs_natCast]; exact Nat.mul_le_mul_right _ h
  have h3 : (TP.natAbs : Int) = TP := by decide +kernel
  omega
end Ieee
namespace Go.Fs
variable {P : Program} {orc : FuncId -> List Value -> aA -> Option (Value × aA)} {b7 : Option Nat} {h : aA} {S : List Nat} {σ : aX} {t : Tr} {fl : VL} {x y : Operand} {T : TypeId} {n : Nat} {τ τ' : Ty} {Q : Ex -> VL -> aX -> Prop}
theorem U.EN {c : Code} (hx : U P orc b7 c n fl σ (KP P orc b7 n (.loop c) Q)) : U P orc b7 (.loop c) n fl σ Q := fun h0 G S0 t h ms I => by
  refine gM.loop ((hx h0 G S0 t h ms I).mono fun e fr h' hq => ?_); obtain ⟨hn, eQ, aQ, I', q⟩ := hq
  cases e with
  | normal =>
    obtain ⟨t', n', ms'⟩ := fr; obtain rfl : n' = n := hn
    exact q h0 G S0 t' h' ms' I'
  | exit i => exact ⟨hn, eQ, aQ, I', q⟩
  | ret => exact ⟨hn, eQ, aQ, I', q⟩
def ZQ (P : Program) (T : TypeId) (j k : Nat) (τ' : Ty) : Bool :=
  match P.underlying T with
  | some (.array n e) => match P.info? e with
    | some i => Nat.blt j n && Nat.beq k (j * i.size) && ZE P e τ'
    | none => false
  | _ => false
theorem OJ {j k : Nat} (hb : ZQ P T j k τ' = true) : ∃ m e i, P.underlying T = some (.array m e) /\ P.info? e = some i /\ j < m /\ k = j * i.size /\ fL P e τ' := by
  unfold ZQ at hb; split at hb
  . rename_i m e hu; split at hb
    . rename_i i hi; obtain ⟨h1, h2⟩ := b6 hb; obtain ⟨h3, h4⟩ := b6 h1; exact ⟨m, e, i, hu, hi, jP h3, bU h4, dW h2⟩
    cases hb
  cases hb
theorem aI.ixA (j : Nat) {k : Nat} {dx : τ.den} {dy : τ'.den} (hs : Sub τ dx k τ' dy) (ha : τ.agg = true := by rfl) (hb : ZQ P T j k τ' = true := by kernel_rfl) (hx : aY fl x = some (.v τ dx) := by rfl) (hy : aY fl y = some (.v (.int .i64) ((j : Nat) : Int)) := by rfl) : aI P fl σ (.index T x y) (.v τ' dy) :=
  ⟨rfl, fun h S t hq _ => by
    have hv : aG h S τ (aC t x) dx := hq x (by simp [Op.operands]) _ hx; have hi : aC t y = .int .i64 ((j : Nat) : Int) := aG.int (hq y (by simp [Op.operands]) _ hy : aG h S (.int .i64) _ ((j : Nat) : Int)); obtain ⟨m, e, i, u1, u2, u3, u4, u5⟩ := OJ hb; obtain ⟨cs, gW⟩ := WU ha hv; rw [gW] at hv; obtain ⟨h6, h7⟩ := hs.aiL hv.2; obtain ⟨v, v1, v2⟩ := A4 u5 (cs := cs) (o := k) h7; refine ⟨v, v2, fun _ _ _ _ _ H => ?_⟩; show (if af (aC t y) then (aE P (Instr.index T (aC t x) (aC t y))).map _ else none) = _; rw [hi, gW, if_pos (show af (Value.int .i64 ((j : Nat) : Int)) = true from rfl)]
    have h8 : (0 : Int) <= ((j : Nat) : Int) /\ ((j : Nat) : Int) < (m : Nat) := by omega
    have h9 : aE P (Instr.index T (.agg cs) (.int .i64 ((j : Nat) : Int))) = some v := by
      unfold Instr.index; simp only [aF, asIntOf, aK, Option.bind_some, aL u1, if_pos h8, eS u2, Int.toNat_natCast, <- u4]; exact v1
    rw [h9]; rfl⟩
theorem aI.ixV (j : Nat) {k : Nat} {cs : List PV} {w : Value} (hm : (w, Cell.var cs) ∈ σ) (hb : ZQ P T j k τ' = true := by kernel_rfl) (hx : aY fl x = some (.raw w) := by rfl) (hy : aY fl y = some (.v (.int .i64) ((j : Nat) : Int)) := by rfl) : aI P fl σ (.indexAddr T x y) (.raw (sQ w k)) :=
  ⟨rfl, fun h S t hs hc => by
    have h1 : aC t x = w := hs x (by simp [Op.operands]) _ hx; have hi : aC t y = .int .i64 ((j : Nat) : Int) := aG.int (hs y (by simp [Op.operands]) _ hy : aG h S (.int .i64) _ ((j : Nat) : Int)); obtain ⟨m, e, i, u1, u2, u3, u4, u5⟩ := OJ hb; obtain ⟨b, e', vs, h3, h4, h5, _⟩ := hc _ hm; have NA : w = .pointer (some ⟨b, 0, none⟩) := h3; refine ⟨_, rfl, fun _ _ _ _ _ H => ?_⟩; show (if af (aC t y) then (aE P (Instr.indexAt T (aC t x) (aC t y))).map _ else none) = _; rw [hi, h1, NA, if_pos (show af (Value.int .i64 ((j : Nat) : Int)) = true from rfl)]
    have h6 : (0 : Int) <= ((j : Nat) : Int) /\ ((j : Nat) : Int) < (m : Nat) := by omega
    have h7 : aE P (Instr.indexAt T (.pointer (some ⟨b, 0, none⟩)) (.int .i64 ((j : Nat) : Int))) = some (.pointer (some ⟨b, 0 + k, none⟩)) := by
      unfold Instr.indexAt; simp only [aF, asIntOf, aK, Option.bind_some, aL u1, Instr.sureAddr, if_pos h6, eS u2, oT, Int.toNat_natCast, u4]
    rw [h7]; rfl⟩
theorem OK {e : TypeId} {i : TypeInfo} {cs : Array Value} {j : Nat} {a : Int} (hu : P.underlying e = some (.int .i64)) (hi : P.info? e = some i) (hs : i.size = 1) (hc : cs[j]? = some (.int .i64 a)) : aE P (part e cs j) = some (.int .i64 a) := by
  obtain ⟨v, v1, v2⟩ := A4 (h := ⟨0, 0, []⟩) (S := []) (T := e) (τ := .int .i64) ⟨⟨i, hi, hs⟩, _, hu, rfl⟩ (cs := cs) (o := j) (x := a) (by
    show (cs.toList.drop j).take 1 = [.int .i64 a]
    have hl : j < cs.toList.length := by
      have := (Array.getElem?_eq_some_iff.1 hc).1; simpa using this
    rw [List.drop_eq_getElem_cons hl]; have := (Array.getElem?_eq_some_iff.1 hc).2
    simp [this])
  rw [v1, aG.int v2]
theorem eq_int {d : Nat} {e : TypeId} {a b : Int} (hu : P.underlying e = some (.int .i64)) : aE P (Op.equalIn (d + 1) e (.int .i64 a) (.int .i64 b)) = some (decide (a = b)) := by
  unfold Op.equalIn; simp only [aF, aL hu, Option.bind_some]; show some (a == b) = _; congr 1
theorem LD {n : Nat} {c : Nat -> Bool} {f : Nat -> Option Bool × PUnit -> Sem (ForInStep (Option Bool × PUnit))} (hf : ∀ j, j < n -> ∀ s, aE P (f j s) = some (if c j = true then .yield (none, ⟨⟩) else .done (some false, ⟨⟩))) :
    ∀ m j, j + m <= n -> aE P (forIn (List.range' j m) (none, ⟨⟩) f) = some (if (List.range' j m).all c = true then (none, ⟨⟩) else (some false, ⟨⟩))
  | 0, j, _ => by simp [List.range', aK]
  | m + 1, j, h => by
    rw [List.range'_succ, List.forIn_cons, aF, hf j (by omega), Option.bind_some, List.all_cons]
    cases hc : c j with
    | true =>
      simp only [if_true, Bool.true_and]
      exact LD hf m (j + 1) (by omega)
    | false => simp [aK]
theorem ahM {d n : Nat} {e : TypeId} {i : TypeInfo} {xs ys : List Int} (hT : P.underlying T = some (.array n e)) (hu : P.underlying e = some (.int .i64)) (hi : P.info? e = some i) (hs : i.size = 1) (hx : xs.length = n) (hy : ys.length = n) :
    aE P (Op.equalIn (d + 2) T (.agg (xs.map (Value.int .i64)).toArray) (.agg (ys.map (Value.int .i64)).toArray)) = some (decide (xs = ys)) := by
  unfold Op.equalIn; simp only [aF, aL hT, Option.bind_some, eS hi, hs, Std.Legacy.Range.forIn_eq_forIn_range', Std.Legacy.Range.size]
  have bR : ∀ {β : Type} (g : Nat -> β -> Sem (ForInStep β)) (b : β), forIn (List.range' 0 ((n - 0 + 1 - 1) / 1)) b g = forIn (List.range' 0 n) b g := fun g b => by congr 2; simp
  rw [bR, LD (n := n) (c := fun j => decide (xs.getD j 0 = ys.getD j 0)) (fun j hj s => ?_) n 0 (by omega)]
  . have jA : ((List.range' 0 n).all fun j => decide (xs.getD j 0 = ys.getD j 0)) = decide (xs = ys) := by
      by_cases h : xs = ys
      . subst h; simp
      rw [decide_eq_false h, <- Bool.not_eq_true, List.all_eq_true]; intro hh; apply h; refine List.ext_getElem (by omega) fun k h1 h2 => ?_; have := hh k (by simp; omega); simpa [List.getD_eq_getElem?_getD, List.getElem?_eq_getElem h1, List.getElem?_eq_getElem h2] using this
    rw [jA]; by_cases h : xs = ys <;> simp [h, aK]
  have p1 : aE P (part e (xs.map (Value.int .i64)).toArray (j * 1)) = some (.int .i64 (xs.getD j 0)) := OK hu hi hs (by simp [List.getD_eq_getElem?_getD, List.getElem?_eq_getElem (show j < xs.length by omega)]); have p2 : aE P (part e (ys.map (Value.int .i64)).toArray (j * 1)) = some (.int .i64 (ys.getD j 0)) := OK hu hi hs (by simp [List.getD_eq_getElem?_getD, List.getElem?_eq_getElem (show j < ys.length by omega)]); simp only [aF, p1, p2, Option.bind_some, eq_int hu]; by_cases h : xs.getD j 0 = ys.getD j 0 <;> simp [h, aK, -List.getD_eq_getElem?_getD]
def aiY (P : Program) (T : TypeId) (n : Nat) : Bool :=
  match P.underlying T with
  | some (.array m e) => Nat.beq m n && !P.eqGuardType P.depth T && (match P.underlying e with | some (.int k) => decide (k = .i64) | _ => false) && (match P.info? e with | some i => Nat.beq i.size 1 | none => false)
  | _ => false
section
variable {T' : TypeId}
theorem aI.ahN {b : BinOp} {dx dy : τ.den} {xs ys : List Int} {r : Bool} (amD : (b = .eql /\ r = decide (xs = ys)) \/ (b = .neq /\ r = !decide (xs = ys))) (ha : τ.agg = true) (hf : τ.fU = true) (hcx : τ.gQ dx = xs.map (Value.int .i64)) (hcy : τ.gQ dy = ys.map (Value.int .i64)) (hb : aiY P T xs.length = true) (hl : ys.length = xs.length)
    (hx : aY fl x = some (.v τ dx) := by rfl) (hy : aY fl y = some (.v τ dy) := by rfl) : aI P fl σ (.binOp b T x y T') (.v .bool r) :=
  .bin hx hy fun h S a c hu hv => by
    have e1 := flat_agg hu hf ha; have e2 := flat_agg hv hf ha; rw [hcx] at e1; rw [hcy] at e2; unfold aiY at hb; split at hb
    . rename_i m e hU; obtain ⟨hb, h4⟩ := b6 hb; obtain ⟨hb, h3⟩ := b6 hb; obtain ⟨h1, h2⟩ := b6 hb; have h1 := bU h1
      have hg : P.eqGuardType P.depth T = false := by simpa using h2
      have hi : P.underlying e = some (.int .i64) := by
        split at h3
        . rename_i k hk; rw [of_decide_eq_true h3] at hk; exact hk
        cases h3
      obtain ⟨i, lU, EB⟩ : ∃ i, P.info? e = some i /\ i.size = 1 := by
        split at h4
        . rename_i i hi; exact ⟨i, hi, bU h4⟩
        cases h4
      have eK : aE P (Op.equal T a c) = some (decide (xs = ys)) := by
        rw [e1, e2]; exact ahM (d := 9998) (by rw [hU, h1]) hi lU EB rfl hl
      subst e1 e2; refine ⟨.bool r, aG.ofBool _, ?_, ?_⟩
      . rw [(aJ.flat (pv := .v τ dx) hf hu).1, (aJ.flat (pv := .v τ dy) hf hv).1]; rfl
      have he : ∀ q, aE P (eqGuard q T x y (.agg (xs.map (Value.int .i64)).toArray) (.agg (ys.map (Value.int .i64)).toArray)) = some () := fun q => by
        unfold eqGuard; cases q <;> simp [aF, qJ, hg, aK]
      have DY : aE P (binOp b T (.agg (xs.map (Value.int .i64)).toArray) (.agg (ys.map (Value.int .i64)).toArray)) = some (.bool r) := by
        rcases amD with ⟨rfl, rfl⟩ | ⟨rfl, rfl⟩
        . unfold binOp; simp only [aF, eK, Option.bind_some, aK]
        unfold binOp; simp only [aF, eK, Option.bind_some, aK]
      unfold cL; rw [aF, he]; simp only [Option.bind_some, DY]; rfl
    cases hb
end
end Go.Fs
namespace Go.Fs
variable {P : Program} {orc : FuncId -> List Value -> aA -> Option (Value × aA)} {b7 : Option Nat} {h h' h0 h1 h2 : aA} {S S' S0 B G : List Nat} {σ aQ : aX} {t t' : Tr} {ms : List Nat} {fl nw : VL} {ops : Array Oper} {n : Nat} {l : List Oper} {K : VL -> aX -> Prop} {Q : Ex -> VL -> aX -> Prop}
  {d : Tmp} {ty : TypeId} {pos : String} {after : Array Edge} {op : Op} {v pv : PV} {g : Option (Nat × Bool)} {x y z : Operand} {T T' e : TypeId} {w : Value} {s : ByteArray} {p : Nat}
theorem gZ.rng (hT : P.underlying T = some .string := by kernel_rfl) (hx : aY fl x = some (.v .str s) := by rfl) : gZ P fl (.range T x) (.it s 0) :=
  ⟨rfl, fun h S t hs bW hS => by
    have hv : aC t x = .string s := aG.str (hs x (by simp [Op.operands]) _ hx : aG h S .str _ s); refine ⟨fun k => .pointer (some ⟨k, 0, none⟩), .iter s 0, fun _ => rfl, fun S' hN hm => ⟨h.next, rfl, hm, by rw [aA.bN, if_pos rfl]⟩, fun H _ _ _ _ _ => ?_⟩; show xX P T (aC t x) H = _; rw [hv]
    simp [xX, hT]⟩
theorem cA.akF (hp : p < s.size) (hx : aY fl x = some (.raw w)) : cA P fl ((w, .it s p) :: σ) (.next x true) fun v aQ => v = .kL [.v .bool true, .v (.int .i64) ((p : Nat) : Int), .v (.int .i32) (((Utf8.decode s p).1 : Nat) : Int)] /\ aQ = (w, .it s (p + (Utf8.decode s p).2)) :: σ :=
  ⟨rfl, fun S0 h t L => by
    have h1 : aC t x = w := eH L.aH hx; obtain ⟨b, h3, h4, hg⟩ := L.cells _ List.mem_cons_self; have hw : w = .pointer (some ⟨b, 0, none⟩) := h3
    have pY : cW w = [b] := by rw [hw]; rfl
    refine ⟨.tuple #[.bool true, .int .i64 ((p : Nat) : Int), .int .i32 (((Utf8.decode s p).1 : Nat) : Int)], h.set b (.iter s (p + (Utf8.decode s p).2)), _, _, ⟨rfl, rfl⟩, Made.head L (cO.set hg (by rw [pY]; simp)) (fun b hb => .inl hb) (by rw [pY]; simp) fun hN => ?_, ?_, fun _ _ _ _ _ => ?_⟩
    . refine ⟨b, h3, ?_, by rw [aA.cZ hg, if_pos rfl]⟩; rw [bE]; exact List.mem_append_left _ (List.mem_append_left _ (by rw [pY]; simp))
    . exact ⟨_, rfl, _, _, rfl, aG.ofBool _, _, _, rfl, aG.ofInt _ _, _, _, rfl, aG.ofInt _ _, rfl⟩
    show w9 (aC t x) true h = _; rw [h1, hw]
    simp [w9, hg, hp]⟩
theorem cA.akG (hp : ¬ p < s.size) (hx : aY fl x = some (.raw w)) : cA P fl ((w, .it s p) :: σ) (.next x true) fun v aQ => v = .kL [.v .bool false] /\ aQ = (w, .it s p) :: σ :=
  ⟨rfl, fun S0 h t L => by
    have h1 : aC t x = w := eH L.aH hx; obtain ⟨b, h3, h4, hg⟩ := L.cells _ List.mem_cons_self; have hw : w = .pointer (some ⟨b, 0, none⟩) := h3; refine ⟨.tuple #[.bool false], h, _, _, ⟨rfl, rfl⟩, Made.same L (cO.refl h []), ⟨_, rfl, _, _, rfl, aG.ofBool _, rfl⟩, fun _ _ _ _ _ => ?_⟩; show w9 (aC t x) true h = _; rw [h1, hw]
    simp [w9, hg, hp]⟩
theorem J.next (hx : aY fl x = some (.raw w)) (h1 : p < s.size -> J P orc ops n l ((d, .kL [.v .bool true, .v (.int .i64) ((p : Nat) : Int), .v (.int .i32) (((Utf8.decode s p).1 : Nat) : Int)]) :: fl) ((w, .it s (p + (Utf8.decode s p).2)) :: σ) K) (h2 : ¬ p < s.size -> J P orc ops n l ((d, .kL [.v .bool false]) :: fl) ((w, .it s p) :: σ) K)
    (hw : cX ops fl g = some true := by rfl) (hn : (Nat.blt d n && Nat.ble n 4000) = true := by rfl) : J P orc ops n (⟨some d, .next x true, ty, pos, after, g⟩ :: l) fl ((w, .it s p) :: σ) K := by
  by_cases hp : p < s.size
  . exact J.mk (cA.akF hp hx) (by rintro _ _ ⟨rfl, rfl⟩; exact h1 hp) hw hn
  exact J.mk (cA.akG hp hx) (by rintro _ _ ⟨rfl, rfl⟩; exact h2 hp) hw hn
theorem aI.amE {b : Bool} (hx : aY fl x = some (.kL [.v .bool b]) := by rfl) : aI P fl σ (.extract x 0) (.v .bool b) := ⟨rfl, fun h S t hs _ => by
  obtain ⟨us, h1, u, r, rfl, h2, h3⟩ := (hs x (by simp [Op.operands]) _ hx : aJ h S (.kL [.v .bool b]) _); obtain rfl : r = [] := h3; have hu : u = .bool b := aG.bool h2; subst hu; refine ⟨.bool b, aG.ofBool _, fun _ _ _ _ _ H => ?_⟩; show (bif tT (aC t x) then none else (aE P (Instr.extract (aC t x) 0)).map _) = _; rw [h1]; have hj : tT (.tuple [Value.bool b].toArray) = false := rfl; rw [hj]
  rfl⟩
theorem HN {i : Nat} (h : (s.get! i).toNat < 128) : Utf8.decode s i = ((s.get! i).toNat, 1) := by
  unfold Utf8.decode; simp only [Nat.add_zero]; rw [if_pos h]
theorem decode_high {i : Nat} (h : ¬ (s.get! i).toNat < 128) : 128 <= (Utf8.decode s i).1 := by
  unfold Utf8.decode; simp only [Nat.add_zero]; rw [if_neg h]
  have hr : 128 <= Utf8.runeError := by decide
  split
  . split
    . assumption
    exact hr
  split
  . split
    . rename_i hc; have := (Bool.and_eq_true .. ▸ hc : _ /\ _).1; have := of_decide_eq_true this; simp only; omega
    exact hr
  split
  . split
    . rename_i hc; have := (Bool.and_eq_true .. ▸ hc : _ /\ _).1; have := of_decide_eq_true this; simp only; omega
    exact hr
  exact hr
structure GdT (ops : Array Oper) (fl : VL) (g : Option (Nat × Bool)) (b : Bool) : Prop where
  want : ∀ {h : aA} {S : List Nat} {t : Tr}, eP h S t fl -> ∀ o : Oper, o.guard = g -> bJ ops t o = some b
end Go.Fs
namespace Go.Fs
instance : DecidableEq (Ty.den .str) := inferInstanceAs (DecidableEq ByteArray)
instance {k : IntKind} : DecidableEq (Ty.den (.int k)) := inferInstanceAs (DecidableEq Int)
instance : DecidableEq (Ty.den .bool) := inferInstanceAs (DecidableEq Bool)
instance {a b : Ty} [DecidableEq a.den] [DecidableEq b.den] : DecidableEq (Ty.den (.pair a b)) := inferInstanceAs (DecidableEq (a.den × b.den))
variable {P : Program} {orc : FuncId -> List Value -> aA -> Option (Value × aA)} {fl : VL} {σ γ : aX} {T : TypeId} {τ : Ty}
theorem OL {h : aA} {S : List Nat} : ∀ (us : List Value), bA h S (us.map PV.raw) us
  | [] => rfl
  | u :: r => ⟨u, r, rfl, rfl, OL r⟩
theorem aI.ahO {pl : List (Nat × Nat)} {parts : Array (Nat × Operand)} {zs : List Value} {ps cs : List PV} (hT : yQ P T τ pl) (hz : pK τ = zs := by rfl) (GB : mM fl (parts.toList.map (·.2)) = some ps := by rfl) (hb : HE pl (zs.map .raw) (parts.toList.map (·.1)) ps = some cs := by rfl) : aI P fl σ (.build T parts) (.agg cs) :=
  ⟨rfl, fun h S t hs _ => by
    obtain ⟨z, z1, z2, z3⟩ := hT.zer.zero; obtain ⟨y1, y2⟩ := nA h S τ; have hr : bA h S ps ((parts.toList.map (·.2)).map (aC t)) := wU (fun x hx => hs x (by simpa [Op.operands] using hx)) GB; obtain ⟨cs', f1, f2, f3, f4⟩ := A3 hb hr (show bA h S (zs.map .raw) (pK τ) from by rw [hz]; exact OL zs) (E3 y2); refine ⟨.agg cs'.toArray, ⟨cs', rfl, f2⟩, fun _ _ _ _ _ H => ?_⟩; show (bif (parts.toList.all fun p => (aC t p.2).cells.toList.all aU) && ((((P.info? T).bind (·.zero)).map fun z => z.cells.toList.all eF) == some true) then (aE P (Instr.build T (parts.map fun p => (p.1, aC t p.2)))).map fun v => (v, H) else none) = _
    have c1 : (parts.toList.all fun p => (aC t p.2).cells.toList.all aU) = true := by
      rw [List.map_map, List.all_map] at f3; exact f3
    have c2 : ((((P.info? T).bind (·.zero)).map fun z => z.cells.toList.all eF) == some true) = true := by
      rw [z1]
      have e : z.cells.toList.all eF = true := by rw [z2]; exact y2
      simp only [Option.map_some, e]; rfl
    have eK := hT.run z (parts.map fun p => (p.1, aC t p.2)) cs'.toArray z1 (by
      rw [<- f1, Array.toList_map, <- zip_map, List.map_map]; congr 1
      rw [<- z2])
    rw [c1, c2, eK]
    rfl⟩
def gT (s : ByteArray) (i : Int) : Int := (((s.get! i.toNat).toNat : Nat) : Int)
theorem XE (s : ByteArray) (i : Nat) : gT s i = (((s.get! i).toNat : Nat) : Int) := rfl
theorem aI.ixS {x y : Operand} {s : ByteArray} {i : Int} (hx : aY fl x = some (.v .str s)) (hy : aY fl y = some (.v (.int .i64) i)) (h0 : 0 <= i) (h1 : i < (s.size : Nat)) (hT : P.underlying T = some .string := by kernel_rfl) : aI P fl σ (.index T x y) (.v (.int .u8) (gT s i)) :=
  ⟨rfl, fun h S t hq _ => by
    have hv : aC t x = .string s := aG.str (hq x (by simp [Op.operands]) _ hx : aG h S .str _ s); have hi : aC t y = .int .i64 i := aG.int (hq y (by simp [Op.operands]) _ hy : aG h S (.int .i64) _ i); refine ⟨.int .u8 (gT s i), aG.ofInt _ _, fun _ _ _ _ _ H => ?_⟩; show (if af (aC t y) then (aE P (Instr.index T (aC t x) (aC t y))).map _ else none) = _; rw [hi, hv, if_pos (show af (Value.int .i64 i) = true from rfl)]
    have hb : i.toNat < s.size := by omega
    have h8 : s[i.toNat]? = some (s.get! i.toNat) := by
      rw [getElem?_pos s i.toNat hb]; congr 1; show s.data[i.toNat] = s.data[i.toNat]!; rw [getElem!_pos s.data i.toNat hb]
    have h9 : aE P (Instr.index T (.string s) (.int .i64 i)) = some (.int .u8 (gT s i)) := by
      unfold Instr.index; simp only [aF, asIntOf, aK, Option.bind_some, aL hT, if_pos h0, h8]; rfl
    rw [h9]; rfl⟩
end Go.Fs
namespace Go.Fs
variable {P : Program} {orc : FuncId -> List Value -> aA -> Option (Value × aA)} {fl : VL} {σ : aX} {T T' e ty : TypeId} {τ : Ty} {ops : Array Oper} {n : Nat} {l : List Oper} {K : VL -> aX -> Prop} {d : Tmp} {pos : String} {after : Array Edge} {g : Option (Nat × Bool)} {x y : Operand} {xs : List τ.den}
theorem J.akH (hx : aY fl x = some (.v (.sl τ) xs)) (hy : aY fl y = some (.raw (.slice none 0 0))) (hT : P.underlying T = some (.slice e)) (hp : cL P (do eqGuard .eql T x y (.slice none 0 0) (.slice none 0 0); binOp .eql T (.slice none 0 0) (.slice none 0 0)) = some (.bool true))
    (h1 : xs = [] -> J P orc ops n l ((d, .v .bool true) :: fl) σ K) (h2 : J P orc ops n l ((d, .v .bool false) :: fl) σ K)
    (hw : cX ops fl g = some true := by rfl) (hn : (Nat.blt d n && Nat.ble n 4000) = true := by rfl) : J P orc ops n (⟨some d, .binOp .eql T x y T', ty, pos, after, g⟩ :: l) fl σ K := fun h0 G S0 t h ms eB => by
  obtain ⟨n1, n2⟩ := fits hn; have a1 : aG _ _ (.sl τ) (aC t x) xs := eH eB.aH hx; have a2 : aC t y = .slice none 0 0 := eH eB.aH hy; have a3 := a1.sl; rcases a3 with ⟨hv, hl⟩ | ⟨b, o, mk, hv, _⟩
  . have hs : fH P ⟨some d, .binOp .eql T x y T', ty, pos, after, g⟩ (aC t) h = some (.bool true, h) := by
      show (if (af (aC t x) && af (aC t y)) = true then _ else _) = _; rw [hv, a2, if_pos (show (af (Value.slice none 0 0) && af (Value.slice none 0 0)) = true from rfl), hp]; rfl
    exact mC.op (cH eB.aH hw) hs (bV n1 t _) (h1 hl h0 G S0 _ h ms (eB.set (show aJ _ _ (.v .bool true) (.bool true) from aG.ofBool _) n2))
  have hs : fH P ⟨some d, .binOp .eql T x y T', ty, pos, after, g⟩ (aC t) h = some (.bool false, h) := by
    show (if (af (aC t x) && af (aC t y)) = true then _ else ((wA P .eql T (aC t x) (aC t y)).or _).map _) = _; rw [hv, a2, if_neg (by exact Bool.false_ne_true), show wA P .eql T (.slice (some ⟨b, o, none⟩) xs.length mk) (.slice none 0 0) = some false from by unfold wA; simp only [hT]; rfl]; rfl
  exact mC.op (cH eB.aH hw) hs (bV n1 t _) (h2 h0 G S0 _ h ms (eB.set (show aJ _ _ (.v .bool false) (.bool false) from aG.ofBool _) n2))
theorem aeL {K : TypeId} {κ : Ty} (hE : WT P K κ) (hB : (match P.underlying K with | some td => rS td | none => false) = true) (ha : κ.agg = true) (hf : κ.fU = true) (hc : ∀ (em : Bool) (x : κ.den), (aE P (Instr.checkKey em 10000 K (.agg (κ.gQ x).toArray))).isSome = true) : TK P K κ := by
  cases h : P.underlying K with
  | none => rw [h] at hB; cases hB
  | some td => rw [h] at hB; exact ahH hE h hB ha hf hc
theorem aI.amF {k : IntKind} {p q : Int} (hx : aY fl x = some (.v (.int .i64) p)) (hy : aY fl y = some (.v (.int k) q)) (hq : 0 <= q /\ q <= 64) : aI P fl σ (.binOp .shr T x y T') (.v (.int .i64) (p.fdiv (2 ^ q.toNat))) :=
  .sX hx hy (u := .int .i64 (p.fdiv (2 ^ q.toNat))) (by have this : min q.toNat IntKind.i64.bits = q.toNat := Nat.min_eq_left (show q.toNat <= 64 by omega); show (aE P (Op.shift .shr .i64 p k q)).bind _ = _; unfold Op.shift; rw [if_neg (by omega)]; simp only [this]; rfl) fun h S => aG.ofInt _ _
theorem LF {w : Value} (h : aU w = true) : gI w = false := by
  cases w <;> first | rfl | cases h
end Go.Fs
namespace Go.Fs
variable {P : Program} {orc : FuncId -> List Value -> aA -> Option (Value × aA)} {h h1 h2 h' : aA} {S S0 : List Nat} {σ γ oI : aX} {fl : VL} {ops : Array Oper} {n : Nat} {l : List Oper} {K : VL -> aX -> Prop} {d : Tmp} {ty : TypeId} {pos : String} {after : Array Edge} {g : Option (Nat × Bool)}
theorem NG {o : Oper} {c : Call} {f : Operand} {j : Nat} {ev : Operand -> Value} (ho : o.op = .call c) (hc : c.callee = .value f) (hf : ev f = .func (.yield j) #[] #[]) (m : Nat) (h : aA) :
    mY P orc m o ev h = eJ (dH P orc m) j (c.args.toList.map ev) h := by
  unfold mY cQ; rw [ho]; simp only [hc, hf]
theorem mC.yield {QO : Tr -> aA -> Prop} {o : Oper} {t : Tr} {c : Call} {f : Operand} {j : Nat} (hw : bJ ops t o = some true) (ho : o.op = .call c) (hc : c.callee = .value f) (hf : aC t f = .func (.yield j) #[] #[])
    (hl : RV P orc j (c.args.toList.map (aC t)) h fun v h' => ∃ t', put n t o.dst v = some t' /\ mC P orc ops n l t' h' QO) : mC P orc ops n (o :: l) t h QO := by
  obtain ⟨m, v, h1, hr, t1, hp, k, t2, h2, jZ, hq⟩ := hl; refine ⟨max m k, t2, h2, ?_, hq⟩; have h3 := nQ (gL (P := P) (orc := orc) (Nat.le_max_left m k)) _ _ _ _ hr; have h4 : y3 P orc (max m k) o (aC t) h = some (v, h1) := FM _ _ _ _ (by rw [NG ho hc hf]; exact h3); simp only [p7, hw, h4, hp]; exact qZ (GZ (Nat.le_max_right m k)) _ _ _ _ jZ
theorem RV.mono {j : Nat} {args : List Value} {Q Q' : Value -> aA -> Prop} (hc : RV P orc j args h Q) (hq : ∀ v h', Q v h' -> Q' v h') : RV P orc j args h Q' :=
  let ⟨m, v, h', h1, h2⟩ := hc; ⟨m, v, h', h1, hq _ _ h2⟩
theorem RV.round {Q : Value -> aA -> Prop} {j : Nat} {j0 : Option Code} {tmps t : Tr} {params : Array Tmp} {assign body : Code} {dm : Nat} {args : List Value} (hg : h.get j = some (.dL .ready j0 tmps n params assign body dm)) (hlen : Nat.beq args.length params.size = true) (ht : qR n tmps (params.toList.zip args) = some t)
    (ha : gM P orc (some j) assign ⟨t, n, []⟩ h fun e fr h1 => e = .normal /\ ∃ jp tm n' XF N9 XG d', h1.get j = some (.dL .ready jp tm n' XF N9 XG d') /\
      gM P orc (some j) body fr (h1.set j (.dL .busy jp tm n' XF N9 XG d')) fun e _ h2 => ∃ st jp2 tm2 n2 ps2 as2 bo2 d2, h2.get j = some (.dL st jp2 tm2 n2 ps2 as2 bo2 d2) /\
        Q (.bool (fD e).isNone) (h2.set j (.dL (bif (fD e).isNone then .ready else .done) (fD e) tm2 n2 ps2 as2 bo2 d2))) : RV P orc j args h Q := by
  obtain ⟨m, e, fr, h1, hr, rfl, jp, tm, n', XF, N9, XG, d', JG, k, e2, MR, h2, jZ, st, jp2, tm2, n2, ps2, as2, bo2, d2, uR, hq⟩ := ha; refine ⟨max m k, _, _, ?_, hq⟩; have a1 := gL (P := P) (orc := orc) (Nat.le_max_left m k) _ _ _ _ _ hr; have a2 := gL (P := P) (orc := orc) (Nat.le_max_right m k) _ _ _ _ _ jZ; unfold eJ; simp only [hg, hlen, cond_true, ht, a1, JG, a2, uR]
def HO (P : Program) (orc : FuncId -> List Value -> aA -> Option (Value × aA)) (f : FuncId) (args : List Value) (h : aA) (Q : Value -> aA -> Prop) : Prop := ∃ m v h', lL P true (dH P orc m) f args h = some (v, h') /\ Q v h'
theorem HO.mono {f : FuncId} {args : List Value} {Q Q' : Value -> aA -> Prop} (hc : HO P orc f args h Q) (hq : ∀ v h', Q v h' -> Q' v h') : HO P orc f args h Q' :=
  let ⟨m, v, h', h1, h2⟩ := hc; ⟨m, v, h', h1, hq _ _ h2⟩
theorem HO.enter {f : FuncId} {args : List Value} {fn : Func} {c : Code} {QF : Value -> aA -> Prop} (l5 : P.funcs[f]? = some fn) (hc : fn.body = some c) (hn : (Nat.blt 4000 fn.ntmps || Nat.blt fn.ntmps args.length) = false)
    (hb : gM P orc none c ⟨kZ .leaf 0 args, fn.ntmps, []⟩ { next := h.next, low := h.next, aB := h.aB } fun e fr h1 =>
      e.kB = true /\ ∃ h2 vs, l4 fr.marks h1 = some h2 /\ jX P fr.t h2 fn.results.toList = some vs /\ QF (iM vs) { next := h2.next, low := min h.low h2.low, aB := h2.aB }) : HO P orc f args h QF := by
  obtain ⟨m, e, fr, h1, hr, hg, h2, vs, hd, y4, hq⟩ := hb; refine ⟨m, _, _, ?_, hq⟩; unfold lL; simp only [l5, hc, hn, cond_false, hr, hg, cond_true, hd, y4, Bool.not_true, Bool.false_and]
theorem gM.rangeFunc {fr : Fr} {Q : Ex -> Fr -> aA -> Prop} {x : Operand} {f : FuncId} {a c : Array Value} {ps : Array Tmp} {assign body : Code} (hgv : aC fr.t x = .func (.func f) a c)
    (hl : HO P orc f (a.toList ++ [.func (.yield (h.push .iR).next) #[] #[]] ++ c.toList) ((h.push .iR).push (.dL .ready none fr.t fr.n ps assign body h.next)) fun _ h3 =>
      ∃ st e tm n' XF N9 XG d', h3.get (h.push .iR).next = some (.dL st (fD e) tm n' XF N9 XG d') /\ st ≠ .busy /\ Q e ⟨fr.t, fr.n, h.next :: fr.marks⟩ (h3.set (h.push .iR).next (.dL .exhausted (fD e) tm n' XF N9 XG d'))) :
    gM P orc none (.rangeFunc x ps assign body) fr h Q := by
  obtain ⟨m, v, h3, hr, st, e, tm, n', XF, N9, XG, d', hg, bR, hq⟩ := hl; refine ⟨m + 1, e, _, _, ?_, hq⟩; show jN P (dH P orc m) none x ps assign body fr h = _; unfold jN IV; simp only [hgv, hr, hg]
  cases st with
  | busy => exact absurd rfl bR
  | _ => cases e <;> rfl
section
variable (P orc)
def NH (yv : Value) (args : List PV) (γ : aX) (Q : PV -> aX -> Prop) : Prop := ∀ (h : aA) (S : List Nat) (us : List Value), mZ h -> QH h S -> (∀ c ∈ γ, bS h (own γ ++ S) c.1 c.2) -> (own γ).Nodup -> (∀ b ∈ own γ, b ∉ S) -> bA h (own γ ++ S) args us ->
  ∃ j, yv = .func (.yield j) #[] #[] /\ RV P orc j us h fun u h' => ∃ r j4, Q r j4 /\ Made S h h' γ j4 /\ aJ h' (own j4 ++ S) r u
end
theorem J.akI {f : Operand} {args : Array Operand} {r3 : Array TypeId} {yv : Value} {asl : List PV} {Q : PV -> aX -> Prop} (γ : aX) (GG : γ ++ σ = oI) (hf : aY fl f = some (.raw yv)) (ha : mM fl args.toList = some asl) (hc : NH P orc yv asl γ Q) (hk : ∀ r j4, Q r j4 -> J P orc ops n l ((d, r) :: fl) (j4 ++ σ) K)
    (hw : cX ops fl g = some true := by rfl) (hn : (Nat.blt d n && Nat.ble n 4000) = true := by rfl) : J P orc ops n (⟨some d, .call { callee := .value f, args := args, argTypes := r3 }, ty, pos, after, g⟩ :: l) fl oI K := fun h0 G S0 t h ms eB => by
  subst GG; obtain ⟨n1, n2⟩ := fits hn; have L := eB.lc; have n9 := L.apart; rw [dE] at n9; obtain ⟨ZH, T4, EA⟩ := List.nodup_append.1 n9; have hfv : aC t f = yv := eH eB.aH hf; have mK := sU eB.aH ha; rw [dE, List.append_assoc] at mK
  have dD : ∀ c ∈ γ, bS h (own γ ++ (own σ ++ S0)) c.1 c.2 := fun c hc => by
    have := L.cells c (List.mem_append_left _ hc)
    rwa [dE, List.append_assoc] at this
  obtain ⟨j, hj, hY⟩ := hc h (own σ ++ S0) _ eB.ok L.am3 dD ZH (fun b hb hm => by
    rcases List.mem_append.1 hm with hm | hm
    . exact EA b hb b hm rfl
    exact L.sep b (by rw [dE]; exact List.mem_append_left _ hb) hm) mK
  refine mC.yield (cH eB.aH hw) rfl rfl (hfv.trans hj) (hY.mono fun u h' hq => ?_); obtain ⟨r, j4, q1, q2, q3⟩ := hq; refine ⟨_, bV n1 t u, hk r j4 q1 h0 G S0 _ h' ms ((eB.made (Made.app L q2)).set ?_ n2)⟩; rw [dE, List.append_assoc]; exact q3
def LG : List Tmp -> List PV -> VL -> VL
  | p :: ps, a :: asl, fl => LG ps asl ((p, a) :: fl)
  | _, _, fl => fl
theorem BP (hn4 : n <= 4000) : ∀ {ps : List Tmp} {asl : List PV} {us : List Value} {t : Tr} {fl : VL}, (∀ p ∈ ps, Nat.blt p n = true) -> eP h S t fl -> bA h S asl us -> ps.length = asl.length ->
    ∃ t', qR n t (ps.zip us) = some t' /\ eP h S t' (LG ps asl fl)
  | [], asl, us, t, fl, _, hs, hr, _ => ⟨t, by cases us <;> rfl, by cases asl <;> exact hs⟩
  | p :: ps, [], us, t, fl, _, hs, hr, hl => by cases hl
  | p :: ps, a :: asl, us, t, fl, hp, hs, ⟨u, r, h1, h2, h3⟩, hl => by
    subst h1; have hpn := hp p List.mem_cons_self; have hp4 : p < 4000 := Nat.lt_of_lt_of_le (jP hpn) hn4; obtain ⟨t', e1, e2⟩ := BP (ps := ps) (asl := asl) (us := r) (t := t.set depth p u) (fl := (p, a) :: fl) hn4 (fun q hq => hp q (List.mem_cons_of_mem _ hq)) (hs.set h2 hp4) h3 (by simpa using hl); refine ⟨t', ?_, e2⟩; show qR n t ((p, u) :: ps.zip r) = _; unfold qR; rw [bV hpn]; exact e1
theorem NH.round {yv : Value} {fl0 : VL} {ps : Array Tmp} {assign body : Code} {args : List PV} {Qb : Ex -> VL -> aX -> Prop} (hlen : ps.size = args.length) (GB : ∀ p ∈ ps.toList, Nat.blt p n = true) (hn4 : n <= 4000)
    (hb : ∀ j, U P orc (some j) assign n (LG ps.toList args fl0) γ (fun e fl σ => e = .normal /\ U P orc (some j) body n fl σ Qb)) :
    NH P orc yv args ((yv, .loop .ready none n fl0 ps assign body) :: γ) (fun r j4 => ∃ e fl aQ, Qb e fl aQ /\ r = .v .bool (fD e).isNone /\ j4 = (yv, .loop (bif (fD e).isNone then .ready else .done) (fD e) n fl0 ps assign body) :: aQ) := by
  intro h S us bW hS dD jT yR ha; obtain ⟨j, tmps, dm, hyv, hjS, hg, E7⟩ := dD _ List.mem_cons_self; have amG : yv = .func (.yield j) #[] #[] := hyv; subst amG; have R3 : ∀ (c : Cell) (s : aX), own ((.func (.yield j) #[] #[], c) :: s) = j :: own s := fun c s => rfl; rw [R3] at dD jT yR ha E7; obtain ⟨hj1, aeM⟩ := List.nodup_cons.1 jT; have hjn : j < h.next := bW j _ hg; have ao4 : j ∉ S := yR j List.mem_cons_self
  have yX : cV h (j :: own γ ++ S) h (own γ ++ (j :: S)) := cV.less fun b hb => by
    rcases List.mem_append.1 hb with hb | hb
    . exact List.mem_append_left _ (List.mem_cons_of_mem _ hb)
    rcases List.mem_cons.1 hb with hb | hb
    . subst hb; exact List.mem_append_left _ List.mem_cons_self
    exact List.mem_append_right _ hb
  obtain ⟨t1, JF, amH⟩ := BP (n := n) hn4 GB E7 ha hlen; have hlu := ha.len
  have I1 : Iv h (own γ) (j :: S) h γ t1 [] (LG ps.toList args fl0) := {
    ok := bW
    s0 := fun b hb => by
      rcases List.mem_cons.1 hb with hb | hb
      . subst hb; exact hjn
      exact hS b hb
    gC := cO.refl _ _
    cells := fun c hc => (dD c (List.mem_cons_of_mem _ hc)).aW (fun _ _ => rfl) yX fun b hb => List.mem_append_left _ (List.mem_flatMap.2 ⟨c, hc, hb⟩)
    new := fun b hb => ⟨.inl hb, fun hm => by
      rcases List.mem_cons.1 hm with hm | hm
      . subst hm; exact hj1 hb
      exact yR b (List.mem_cons_of_mem _ hb) hm⟩
    apart := aeM
    mark := fun d hd => by cases hd
    marks := List.nodup_nil
    aH := amH.nx yX }
  refine ⟨j, rfl, RV.round hg (by rw [hlu, <- hlen]; exact Nat.beq_refl _) JF ((hb j h (own γ) (j :: S) t1 h [] I1).mono fun e fr h1 hq => ?_)⟩; obtain ⟨l5, fl1, mO, jH, he, akJ⟩ := hq; have g1 : h1.get j = h.get j := jH.gC.get j hjn hj1; have JG := g1.trans hg; refine ⟨he, _, _, _, _, _, _, _, JG, ?_⟩
  let B : bB := .dL .busy none tmps n ps assign body dm
  have hgB : ∀ b, (h1.set j B).get b = if b = j then some B else h1.get b := fun b => aA.cZ JG ..; have hgA : ∀ b, (h.set j B).get b = if b = j then some B else h.get b := fun b => aA.cZ hg ..; have JZ : j ∉ own mO := fun hm => (jH.new j hm).2 List.mem_cons_self
  have aeN : cV h1 (own mO ++ (j :: S)) (h1.set j B) (own mO ++ (j :: S)) := fun b o hb hn => ⟨by
    rw [hgB, if_neg (fun e => hn (by subst e; exact List.mem_append_right _ List.mem_cons_self))]; exact hb, hn⟩
  have a2 := (cO.set (h := h1) (o' := B) (B := [j]) JG List.mem_cons_self)
  have I2 : Iv (h.set j B) (own γ) (j :: S) (h1.set j B) mO fr.t fr.marks fl1 := {
    ok := a2.ok jH.ok
    s0 := I1.s0
    gC := {
      next := jH.gC.next
      get := fun b hb hn => by
        rw [hgB, hgA]; split
        . rfl
        exact jH.gC.get b hb hn
      ok := fun _ => a2.ok jH.ok
      low := fun e h3 h4 h5 => by
        have h6 : e <= h.low := Nat.le_trans h3 (Nat.min_le_left _ _); have h7 : e <= j := Nat.le_trans h3 (Nat.min_le_right _ _); exact Nat.le_min.2 ⟨jH.gC.low e h6 h4 h5, h7⟩
      chg := fun b hb => by
        rw [hgB, hgA]; by_cases e : b = j
        . rw [if_pos e, if_pos e]; exact .inl rfl
        rw [if_neg e, if_neg e]; rcases jH.gC.chg b hb with h3 | h3
        . exact .inl h3
        exact .inr (Nat.le_trans (Nat.min_le_left _ _) h3)
      sT := by
        show min h1.low j <= min h.low j; have := jH.gC.sT
        omega }
    cells := fun c hc => (jH.cells c hc).aW (fun b hb => by
      rw [hgB, if_neg (fun e => JZ (by subst e; exact List.mem_flatMap.2 ⟨c, hc, hb⟩))]) aeN fun b hb => List.mem_append_left _ (List.mem_flatMap.2 ⟨c, hc, hb⟩)
    new := jH.new
    apart := jH.apart
    mark := fun d hd => by
      obtain ⟨m1, m2⟩ := jH.mark d hd; refine ⟨m1, ?_⟩; rw [hgB, if_neg (fun e => by subst e; rw [JG] at m2; cases m2)]; exact m2
    marks := jH.marks
    aH := jH.aH.nx aeN }
  have G5 : fr = ⟨fr.t, n, fr.marks⟩ := by cases fr; cases l5; rfl
  rw [G5]; refine (akJ (h.set j B) (own γ) (j :: S) fr.t (h1.set j B) fr.marks I2).mono fun e2 MR h2 wE => ?_; obtain ⟨_, fl2, R4, Iv2, hQb⟩ := wE; have hj3 : j ∉ own R4 := fun hm => (Iv2.new j hm).2 List.mem_cons_self
  have g2 : h2.get j = some B := by
    rw [Iv2.gC.get j hjn hj1, hgA, if_pos rfl]
  refine ⟨_, _, _, _, _, _, _, _, g2, .v .bool (fD e2).isNone, _, ⟨e2, fl2, R4, hQb, rfl, rfl⟩, ?_, aG.ofBool _⟩
  let C : bB := .dL (bif (fD e2).isNone then .ready else .done) (fD e2) tmps n ps assign body dm
  have XH : ∀ b, (h2.set j C).get b = if b = j then some C else h2.get b := fun b => aA.cZ g2 ..; have at1 : cO h (h.set j B) (j :: own γ) := cO.set hg List.mem_cons_self; have at2 : cO h h2 (j :: own γ) := at1.trans Iv2.gC fun i hi => .inl (List.mem_cons_of_mem _ hi); have XI : cO h (h2.set j C) (j :: own γ) := at2.trans (cO.set (B := [j]) g2 List.mem_cons_self) fun i hi => .inl (by rw [List.mem_singleton.1 hi]; exact List.mem_cons_self)
  have jQ : ∀ b ∈ j :: own R4, b ∈ j :: own γ \/ h.next <= b := fun b hb => by
    rcases List.mem_cons.1 hb with hb | hb
    . subst hb; exact .inl List.mem_cons_self
    rcases (Iv2.new b hb).1 with h3 | h3
    . exact .inl (List.mem_cons_of_mem _ h3)
    exact .inr h3
  have XJ : cV h (j :: own γ ++ S) (h2.set j C) (j :: own R4 ++ S) := XI.kB bW (fun b hb => List.mem_append_left _ hb) fun b hb => by
    rcases List.mem_append.1 hb with hb | hb
    . rcases jQ b hb with h3 | h3
      . exact .inl (List.mem_append_left _ h3)
      exact .inr h3
    exact .inl (List.mem_append_right _ hb)
  refine ⟨XI, jQ, List.nodup_cons.2 ⟨hj3, Iv2.apart⟩, fun c hc => ?_⟩; show bS (h2.set j C) (j :: own R4 ++ S) c.1 c.2; rcases List.mem_cons.1 hc with oM | oM
  . subst oM; exact ⟨j, tmps, dm, rfl, List.mem_append_left _ List.mem_cons_self, by rw [XH, if_pos rfl], E7.nx XJ⟩
  refine (Iv2.cells c oM).aW (fun b hb => ?_) (fun b o hb hn => ⟨?_, fun hm => ?_⟩) fun b hb => List.mem_append_left _ (List.mem_cons_of_mem _ (List.mem_flatMap.2 ⟨c, oM, hb⟩))
  . rw [XH, if_neg (fun e => hj3 (by subst e; exact List.mem_flatMap.2 ⟨c, oM, hb⟩))]
  . rw [XH, if_neg (fun e => hn (by subst e; exact List.mem_append_right _ List.mem_cons_self))]; exact hb
  rcases List.mem_append.1 hm with hm | hm
  . rcases List.mem_cons.1 hm with hm | hm
    . exact hn (by subst hm; exact List.mem_append_right _ List.mem_cons_self)
    exact hn (List.mem_append_left _ hm)
  exact hn (List.mem_append_right _ (List.mem_cons_of_mem _ hm))
theorem NH.mono {yv : Value} {args : List PV} {Q Q' : PV -> aX -> Prop} (hy : NH P orc yv args γ Q) (hq : ∀ r s, Q r s -> Q' r s) : NH P orc yv args γ Q' := fun h S us a1 a2 a3 a4 a5 a6 => by
  obtain ⟨j, e, hY⟩ := hy h S us a1 a2 a3 a4 a5 a6; exact ⟨j, e, hY.mono fun u h' ⟨r, j4, q1, q2⟩ => ⟨r, j4, hq _ _ q1, q2⟩⟩
section
variable (P orc)
def ZR (f : FuncId) (args : List PV) (γ : aX) (Q : aX -> Prop) : Prop := ∀ (h : aA) (S : List Nat) (us : List Value), mZ h -> QH h S -> (∀ c ∈ γ, bS h (own γ ++ S) c.1 c.2) -> (own γ).Nodup -> (∀ b ∈ own γ, b ∉ S) -> bA h (own γ ++ S) args us ->
  HO P orc f us h fun _ h' => ∃ j4, Q j4 /\ Made S h h' γ j4
def CQ {X : Type} (f : FuncId) (a c : List PV) (asl : X -> List PV) (xs : List X) : Prop := ∀ (yv : Value) (I : List X -> aX -> Prop) (E : aX -> Prop) (γ : aX),
  (∀ x rest γ, I (x :: rest) γ -> NH P orc yv (asl x) γ fun r j4 => (r = .v .bool true /\ I rest j4) \/ (r = .v .bool false /\ E j4)) -> I xs γ -> ZR P orc f (a ++ [.raw yv] ++ c) γ fun j4 => I [] j4 \/ E j4
end
theorem ZR.enter {f : FuncId} {args : List PV} {fn : Func} {c : Code} {Q : aX -> Prop} (l5 : P.funcs[f]? = some fn) (hc : fn.body = some c) (BK : fn.results.toList = []) (hn : (Nat.blt 4000 fn.ntmps || Nat.blt fn.ntmps args.length) = false)
    (hb : U P orc none c fn.ntmps (pJ 0 args) γ (fun e _ σ => e.kB = true /\ Q σ)) : ZR P orc f args γ Q := fun h S us bW hS dD jT yR ha => by
  have hl := ha.len
  have tO : Nat.blt 4000 fn.ntmps = false /\ Nat.blt fn.ntmps args.length = false := by simpa using hn
  have n3 := j8 tO.1; have n4 := j8 tO.2; have mI : bA (entry h) (own γ ++ S) args us := bA.nx (h := h) (h' := entry h) (fun _ _ a b => ⟨a, b⟩) ha
  have I0 : Iv (entry h) (own γ) S (entry h) γ (kZ .leaf 0 us) [] (pJ 0 args) := {
    ok := bW
    s0 := hS.1
    gC := cO.refl _ _
    cells := fun c hc => (dD c hc).aW (fun _ _ => rfl) (fun _ _ a b => ⟨a, b⟩) fun b hb => List.mem_append_left _ (List.mem_flatMap.2 ⟨c, hc, hb⟩)
    new := fun b hb => ⟨.inl hb, yR b hb⟩
    apart := jT
    mark := fun d hd => by cases hd
    marks := List.nodup_nil
    aH := oX (hS.2.ent dD) mI (by omega) }
  refine HO.enter l5 hc (by rw [hl]; exact hn) ((hb (entry h) (own γ) S _ (entry h) [] I0).mono fun e fr h1 hq => ?_); obtain ⟨_, eQ, aQ, jH, he, hQ⟩ := hq; obtain ⟨h2, d1, d2, d3⟩ := sD jH.marks fun d hd => (jH.mark d hd).2
  have jU : ∀ b o, h1.get b = some o -> o ≠ .iR -> h2.get b = some o := fun b o hg cM => by
    rw [d3 b (fun hm => cM (by have := (jH.mark b hm).2; rw [hg] at this; exact Option.some.inj this))]; exact hg
  have a2 : cO (entry h) h2 (own γ) := jH.gC.trans d2 fun i hi => .inr (jH.mark i hi).1
  have rN : ∀ c ∈ aQ, ∀ b ∈ cW c.1, h2.get b = h1.get b := fun c hc b hb => by
    obtain ⟨o, hg, cM⟩ := (jH.cells c hc).isObj b hb; rw [jU b _ hg cM, hg]
  have u9 : ∀ c ∈ aQ, bS h2 (own aQ ++ S) c.1 c.2 := fun c hc => by
    have hx := jH.cells c hc; have hN : pI h1 (own aQ ++ S) h2 (own aQ ++ S) := fun b _ hg cM sN => ⟨jU b _ hg cM, sN⟩; have hgb := rN c hc; obtain ⟨w, cc⟩ := c
    cases cc with
    | row e τ xs =>
      rcases hx with hx | ⟨b, rs, m, h3, h4, h5, h6⟩
      . exact .inl hx
      exact .inr ⟨b, rs, m, h3, h4, jU b _ h5 (by simp), h6.1, fun i hi => (h6.2 i hi).mG hN⟩
    | var cs =>
      obtain ⟨b, e, vs, h3, h4, h5, h6, h7⟩ := hx
      exact ⟨b, e, vs, h3, h4, jU b _ h5 (by simp), h6.mG hN, h7⟩
    | cap e k τ xs =>
      obtain ⟨b, rs, m, h3, h4, h5, h6, h7, h8⟩ := hx
      exact ⟨b, rs, m, h3, h4, jU b _ h5 (by simp), h6, h7, h8.1, fun i hi => (h8.2 i hi).mG hN⟩
    | mp κ ν kvs =>
      obtain ⟨b, es, c, h3, h4, h5, h6, h7⟩ := hx
      exact ⟨b, es, c, h3, h4, jU b _ h5 (by simp), h6, fun i hi hj => ⟨⟨(h7 i hi hj).1.1, (h7 i hi hj).1.2.mG hN⟩, ⟨(h7 i hi hj).2.1, (h7 i hi hj).2.2.mG hN⟩⟩⟩
    | it s pos =>
      obtain ⟨b, h3, h4, h5⟩ := hx
      exact ⟨b, h3, h4, jU b _ h5 (by simp)⟩
    | loop st jump n fl ps assign body =>
      obtain ⟨l, tmps, d, h3, h4, h5, h6⟩ := hx
      exact ⟨l, tmps, d, h3, h4, jU l _ h5 (by simp), h6.mG hN⟩
    | tP e n cs =>
      rcases hx with hx | ⟨b, rs, m, h3, h4, h5, h6, h7⟩
      . exact .inl hx
      exact .inr ⟨b, rs, m, h3, h4, jU b _ h5 (by simp), h6.mG hN, h7⟩
  have WR : ∀ b ∈ own aQ, b ∈ own γ \/ h.next <= b := fun b hb => (jH.new b hb).1; refine ⟨he, h2, [], d1, by rw [BK]; rfl, aQ, hQ, ⟨⟨a2.next, a2.get, fun x => a2.ok x, fun e h3 h4 h5 => Nat.le_min.2 ⟨h3, a2.low e (Nat.le_trans h4 (Nat.le_refl _)) h4 h5⟩, fun b hb => ?_, Nat.min_le_left _ _⟩, WR, jH.apart, fun c hc => (u9 c hc).aW (fun _ _ => rfl) (fun _ _ a b => ⟨a, b⟩) fun b hb => List.mem_append_left _ (List.mem_flatMap.2 ⟨c, hc, hb⟩)⟩⟩; rcases a2.chg b hb with h3 | h3
  . exact .inl h3
  exact .inr (Nat.le_trans (Nat.min_le_right _ _) h3)
theorem CQ.enter {X : Type} {f : FuncId} {a c : List PV} {asl : X -> List PV} {xs : List X} {fn : Func} {cd : Code} (l5 : P.funcs[f]? = some fn) (hc : fn.body = some cd) (BK : fn.results.toList = []) (hn : ∀ yv : Value, (Nat.blt 4000 fn.ntmps || Nat.blt fn.ntmps (a ++ [PV.raw yv] ++ c).length) = false)
    (hb : ∀ (yv : Value) (I : List X -> aX -> Prop) (E : aX -> Prop) (γ : aX), (∀ x rest γ, I (x :: rest) γ -> NH P orc yv (asl x) γ fun r j4 => (r = .v .bool true /\ I rest j4) \/ (r = .v .bool false /\ E j4)) -> I xs γ ->
      U P orc none cd fn.ntmps (pJ 0 (a ++ [.raw yv] ++ c)) γ (fun e _ σ => e.kB = true /\ (I [] σ \/ E σ))) : CQ P orc f a c asl xs := fun yv I E γ hy h0 => ZR.enter l5 hc BK (hn yv) (hb yv I E γ hy h0)
theorem U.rangeFunc {X : Type} {asl : X -> List PV} {xs : List X} {f : FuncId} {a c : List PV} {x : Operand} {ps : Array Tmp} {assign body : Code} {Q : Ex -> VL -> aX -> Prop} (hg : aY fl x = some (.mF f a c)) (hit : CQ P orc f a c asl xs) (hlen : ∀ y, ps.size = (asl y).length) (GB : ps.toList.all (fun p => Nat.blt p n) = true) (hn4 : Nat.ble n 4000 = true)
    (I : List X -> aX -> Prop) (E : Ex -> aX -> Prop) (h0 : I xs σ)
    (hb : ∀ j y rest σ, I (y :: rest) σ -> U P orc (some j) assign n (LG ps.toList (asl y) fl) σ fun e eQ aQ => e = .normal /\ U P orc (some j) body n eQ aQ fun e _ aQ => (e = .normal /\ I rest aQ) \/ (e ≠ .normal /\ E e aQ))
    (h1 : ∀ aQ, I [] aQ -> Q .normal fl aQ) (h2 : ∀ e aQ, e ≠ .normal -> E e aQ -> Q e fl aQ) : U P orc none (.rangeFunc x ps assign body) n fl σ Q := fun iY G S0 t h ms eB => by
  obtain ⟨va, vc, hv, ra, rc⟩ := (eH eB.aH hg : aJ h _ (.mF f a c) (aC t x))
  let hm := h.push .iR
  let j := hm.next
  let yv : Value := .func (.yield j) #[] #[]
  let L : bB := .dL .ready none t n ps assign body h.next
  have hjd : j = h.next + 1 := rfl
  have uR : ∀ b, (hm.push L).get b = if b = h.next + 1 then some L else if b = h.next then some .iR else h.get b := fun b => by
    rw [aA.bN]; show (if b = h.next + 1 then _ else (h.push .iR).get b) = _; rw [aA.bN]
  have ap : cO h (hm.push L) (j :: own σ) := (cO.push h .iR _).trans (cO.push hm L (j :: own σ)) fun i hi => .inl hi; have bL : ∀ b ∈ own σ, b < h.next := QJ eB.cells eB.ok; have Lc0 := eB.lc
  have yX : cV h (own σ ++ S0) (hm.push L) (j :: own σ ++ S0) := fun b o hb hn => by
    have hbn : b < h.next := eB.ok b o hb; refine ⟨by rw [uR, if_neg (by omega), if_neg (by omega)]; exact hb, fun fS => ?_⟩; rcases List.mem_append.1 fS with fS | fS
    . rcases List.mem_cons.1 fS with fS | fS
      . omega
      exact hn (List.mem_append_left _ fS)
    exact hn (List.mem_append_right _ fS)
  have hS0 : ∀ b ∈ S0, b < h.next := Lc0.s0
  have hj1 : j ∉ own σ := fun fS => by have := bL j fS; omega
  have amI := hit yv (fun rest γ => ∃ aQ, γ = (yv, .loop .ready none n fl ps assign body) :: aQ /\ I rest aQ) (fun γ => ∃ e aQ, e ≠ .normal /\ γ = (yv, .loop .done (fD e) n fl ps assign body) :: aQ /\ E e aQ) ((yv, .loop .ready none n fl ps assign body) :: σ)
    (fun y rest γ ⟨aQ, hγ, hI⟩ => by
      subst hγ; refine (NH.round (hlen y) (fun p hp => List.all_eq_true.1 GB p hp) (fP hn4) (fun jj => hb jj y rest aQ hI)).mono fun r s hq => ?_; obtain ⟨e, eQ, R4, hQ, rfl, rfl⟩ := hq; rcases hQ with ⟨rfl, hI2⟩ | ⟨cM, hE⟩
      . exact .inl ⟨rfl, R4, rfl, hI2⟩
      refine .inr ⟨?_, e, R4, cM, ?_, hE⟩
      . cases e <;> first | exact absurd rfl cM | rfl
      cases e <;> first | exact absurd rfl cM | rfl)
    ⟨σ, rfl, h0⟩
  have R3 : ∀ (c : Cell) (s : aX), own ((yv, c) :: s) = j :: own s := fun c s => rfl; refine gM.rangeFunc (fr := ⟨t, n, ms⟩) hv ((amI (hm.push L) S0 _ (ap.ok eB.ok) ⟨fun b hb => by have := hS0 b hb; have := ap.next; omega, (eB.aH.nx yX).1.less fun b hb => List.mem_append_right _ hb⟩ (fun cc hc => ?_) (by rw [R3]; exact List.nodup_cons.2 ⟨hj1, eB.apart⟩) (fun b hb => ?_) ?_).mono fun u h3 hq => ?_)
  . rw [R3]; rcases List.mem_cons.1 hc with oM | oM
    . subst oM; exact ⟨j, t, h.next, rfl, List.mem_append_left _ List.mem_cons_self, by rw [uR, if_pos hjd], eB.aH.nx yX⟩
    refine (eB.cells cc oM).aW (fun b hb => ?_) yX fun b hb => List.mem_append_left _ (List.mem_cons_of_mem _ (List.mem_flatMap.2 ⟨cc, oM, hb⟩)); have := bL b (List.mem_flatMap.2 ⟨cc, oM, hb⟩); rw [uR, if_neg (by omega), if_neg (by omega)]
  . rw [R3] at hb; intro W9; rcases List.mem_cons.1 hb with hb | hb
    . have := hS0 b W9; omega
    exact (eB.new b hb).2 W9
  . rw [R3]; have ry : bA (hm.push L) (j :: own σ ++ S0) [.raw yv] [yv] := ⟨yv, [], rfl, rfl, rfl⟩; exact ((ra.nx yX).append ry).append (rc.nx yX)
  obtain ⟨j4, hq, made⟩ := hq
  have key : ∃ st e aQ, st ≠ .busy /\ j4 = (yv, .loop st (fD e) n fl ps assign body) :: aQ /\ Q e fl aQ := by
    rcases hq with ⟨aQ, rfl, hI⟩ | ⟨e, aQ, cM, rfl, hE⟩
    . exact ⟨.ready, .normal, aQ, (fun e => by cases e), rfl, h1 aQ hI⟩
    exact ⟨.done, e, aQ, (fun e => by cases e), rfl, h2 e aQ cM hE⟩
  obtain ⟨st, e, aQ, bR, rfl, hQ⟩ := key; obtain ⟨j', tm, dm, y6, hjS, hgj, _⟩ := made.cells _ List.mem_cons_self
  have MS : j = j' := by
    have : yv = .func (.yield j') #[] #[] := y6; injection this with h5; injection h5
  subst MS; refine ⟨st, e, tm, n, ps, assign, body, dm, hgj, bR, rfl, fl, aQ, ?_, hQ⟩; have jT := made.apart; rw [R3] at jT; obtain ⟨hj3, aeM⟩ := List.nodup_cons.1 jT
  let C : bB := .dL .exhausted (fD e) tm n ps assign body dm
  have XH : ∀ b, (h3.set j C).get b = if b = j then some C else h3.get b := fun b => aA.cZ hgj ..; have ma : cO (hm.push L) h3 (j :: own σ) := made.gC; have XI : cO h (h3.set j C) (j :: own σ) := (ap.trans ma fun i hi => .inl hi).trans (cO.set (B := [j]) hgj List.mem_cons_self) fun i hi => .inl (by rw [List.mem_singleton.1 hi]; exact List.mem_cons_self)
  have jQ : ∀ b ∈ own aQ, b ∈ own σ \/ h.next <= b := fun b hb => by
    rcases made.new b (by rw [R3]; exact List.mem_cons_of_mem _ hb) with h5 | h5
    . rw [R3] at h5; rcases List.mem_cons.1 h5 with h5 | h5
      . subst h5; exact absurd hb hj3
      exact .inl h5
    have := ap.next; exact .inr (by omega)
  have XJ : cV h (own σ ++ S0) (h3.set j C) (own aQ ++ S0) := fun b o hb hn => by
    have hbn : b < h.next := eB.ok b o hb
    refine ⟨by rw [XI.get b hbn (fun fS => by
      rcases List.mem_cons.1 fS with fS | fS
      . omega
      exact hn (List.mem_append_left _ fS))]; exact hb, fun fS => ?_⟩
    rcases List.mem_append.1 fS with fS | fS
    . rcases jQ b fS with h5 | h5
      . exact hn (List.mem_append_left _ h5)
      omega
    exact hn (List.mem_append_right _ fS)
  have amJ : h3.get h.next = some .iR := by
    rw [ma.get h.next (by show h.next < h.next + 1 + 1; omega) (fun fS => by
      rcases List.mem_cons.1 fS with fS | fS
      . omega
      have := bL _ fS; omega), uR, if_neg (by omega), if_pos rfl]
  exact {
    ok := XI.ok eB.ok
    s0 := eB.s0
    gC := eB.gC.trans XI fun i hi => by
      have := eB.gC.next; rcases List.mem_cons.1 hi with hi | hi
      . right; omega
      exact (eB.new i hi).1
    cells := fun c hc => (made.cells c (List.mem_cons_of_mem _ hc)).aW (fun b hb => by
        rw [XH, if_neg (fun e => hj3 (by subst e; exact List.mem_flatMap.2 ⟨c, hc, hb⟩))]) (fun b o hb hn => ⟨by
        rw [XH, if_neg (fun e => hn (by subst e; exact List.mem_append_left _ List.mem_cons_self))]; exact hb, fun fS => hn (by
        rcases List.mem_append.1 fS with fS | fS
        . exact List.mem_append_left _ (List.mem_cons_of_mem _ fS)
        exact List.mem_append_right _ fS)⟩) fun b hb => List.mem_append_left _ (List.mem_flatMap.2 ⟨c, hc, hb⟩)
    new := fun b hb => by
      have := eB.gC.next; rcases jQ b hb with h5 | h5
      . exact eB.new b h5
      exact ⟨.inr (by omega), fun fS => by have := hS0 b fS; omega⟩
    apart := aeM
    mark := fun d hd => by
      have := eB.gC.next; rcases List.mem_cons.1 hd with hd | hd
      . subst hd; exact ⟨this, by rw [XH, if_neg (by omega)]; exact amJ⟩
      obtain ⟨m1, m2⟩ := eB.mark d hd; refine ⟨m1, ?_⟩; have hdn : d < h.next := eB.ok d _ m2
      rw [XI.get d hdn (fun fS => by
        rcases List.mem_cons.1 fS with fS | fS
        . omega
        obtain ⟨c, hc, hb⟩ := List.mem_flatMap.1 fS; obtain ⟨o, hgo, cM⟩ := (eB.cells c hc).isObj d hb; rw [m2] at hgo
        exact cM (Option.some.inj hgo).symm)]
      exact m2
    marks := List.nodup_cons.2 ⟨fun fS => by have := eB.ok _ _ (eB.mark _ fS).2; omega, eB.marks⟩
    aH := eB.aH.nx XJ }
theorem J.ZS {f : Operand} {args : Array Operand} {r3 : Array TypeId} {yv : Value} {asl : List PV} {Q : PV -> aX -> Prop} (hf : aY fl f = some (.raw yv)) (ha : mM fl args.toList = some asl) (hc : NH P orc yv asl σ Q) (hk : ∀ r aQ, Q r aQ -> J P orc ops n l ((d, r) :: fl) aQ K)
    (hw : cX ops fl g = some true := by rfl) (hn : (Nat.blt d n && Nat.ble n 4000) = true := by rfl) : J P orc ops n (⟨some d, .call { callee := .value f, args := args, argTypes := r3 }, ty, pos, after, g⟩ :: l) fl σ K :=
  J.akI (σ := []) σ (List.append_nil _) hf ha hc (fun r aQ hq => by rw [List.append_nil]; exact hk r aQ hq) hw hn
end Go.Fs
namespace Go.Fs
variable {P : Program} {orc : FuncId -> List Value -> aA -> Option (Value × aA)} {h h' h0 h1 h2 : aA} {S S' S0 B G : List Nat} {σ aQ oI : aX} {t t' : Tr} {ms : List Nat} {fl : VL} {ops : Array Oper} {n i mem : Nat} {l : List Oper} {K : VL -> aX -> Prop} {Q : Ex -> VL -> aX -> Prop}
  {d : Tmp} {ty : TypeId} {pos : String} {after : Array Edge} {op : Op} {v pv : PV} {g : Option (Nat × Bool)} {x y z : Operand} {T T' e : TypeId} {τ τ' : Ty} {w : Value}
def rowFrom (w : Value) (sz k : Nat) : Value :=
  match w with
  | .slice (some ⟨b, o, none⟩) n mk => cutAt sz b o k n mk
  | u => u
theorem abA {xs : List τ.den} {k b : Nat} {rs : List Value} {m : Bool} {H : aA} (hT : eX P T e τ) (hk : k <= xs.length) (hg : H.get b = some (.row e rs true m)) : dN P T (.slice (some ⟨b, 0, none⟩) xs.length 0) (some (.int .i64 (k : Nat))) none none H = some (rowFrom (.slice (some ⟨b, 0, none⟩) xs.length 0) τ.size k) := by
  obtain ⟨i, z, nZ, lU, _⟩ := hT.sl.info
  have e1 : Nat.ble k xs.length = true := by rw [Nat.ble_eq]; exact hk
  have e2 : Nat.ble xs.length xs.length = true := by rw [Nat.ble_eq]; exact Nat.le_refl _
  have e3 : Nat.beq e e = true := Nat.beq_refl _; have e4 : Nat.beq 0 1 = false := rfl; have e5 : Nat.beq 0 0 = true := rfl; have h0 : (0 : Int) <= (k : Nat) := Int.natCast_nonneg _
  have mE : mX e b k 0 H = 0 := by
    unfold mX; rw [hg]; cases Nat.beq k 0 <;> simp [e3, e5]
  simp only [dN, hT.sl.sl, nZ, eI, if_pos h0, Int.toNat_natCast, e1, e2, e4, Bool.and_self, cond_true, cond_false, mE, lU, rowFrom]
theorem dC.aeO {xs : List τ.den} {k : Nat} {lo : Operand} (hx : aY fl x = some (.raw w)) (hl : aY fl lo = some (.v (.int .i64) ((k : Nat) : Int))) (hm : (w, Cell.row e τ xs) ∈ σ) (hT : eX P T e τ) (h0 : 0 < xs.length) (hk : k <= xs.length) : dC P fl σ (.slice T x (some lo) none none) (.raw (rowFrom w τ.size k)) :=
  ⟨rfl, fun h S t hs hc => by
    have h1 : aC t x = w := hs x (by simp [Op.operands]) _ hx; have h2 := aG.int (hs lo (by simp [Op.operands]) _ hl); rcases hc _ hm with ⟨_, rfl⟩ | ⟨b, rs, m, h3, h4, h5, h6⟩
    . simp at h0
    have hw : w = _ := h3; refine ⟨_, rfl, fun H hH _ _ _ _ _ => ?_⟩; show (dN P T (aC t x) (some (aC t lo)) none none H).map _ = _
    rw [h1, h2, hw, abA hT hk (hH _ _ h5)]; rfl⟩
theorem LI {xs : List τ.den} {k b : Nat} (hk : k < xs.length) : rowFrom (.slice (some ⟨b, 0, none⟩) xs.length 0) τ.size k = .slice (some ⟨b, 0 + k * τ.size, none⟩) (xs.length - k) 0 := by
  have e1 : Nat.blt k xs.length = true := by show Nat.ble (k + 1) xs.length = true; rw [Nat.ble_eq]; exact hk
  simp [rowFrom, cutAt, e1]
theorem dC.amK {xs : List τ.den} {k : Nat} (hm : (w, Cell.row e τ xs) ∈ σ) (hT : eX P T e τ) (hk : k < xs.length) (hx : aY fl x = some (.raw (rowFrom w τ.size k)) := by rfl) : dC P fl σ (.call { callee := .builtin .len, args := #[x], argTypes := #[T] }) (.v (.int .i64) ((xs.length - k : Nat) : Int)) :=
  ⟨rfl, fun h S t hs hc => by
    have h1 : aC t x = rowFrom w τ.size k := hs x (by simp [Op.operands, Call.operands]) _ hx; refine ⟨_, aG.ofInt _ _, fun H _ _ _ _ _ _ => ?_⟩; show (kI P #[T] (aC t x) H).map _ = _; rw [h1]; rcases hc _ hm with ⟨_, rfl⟩ | ⟨b, rs, m, h3, h4, h5, h6⟩
    . simp at hk
    have hw : w = _ := h3; rw [hw, LI hk]
    simp [kI, hT.sl.sl]⟩
theorem aI.ixF {xs : List τ.den} {j k : Nat} (hx : aY fl x = some (.raw (rowFrom w τ.size k))) (hy : aY fl y = some (.v (.int .i64) ((j : Nat) : Int))) (hm : (w, Cell.row e τ xs) ∈ σ) (hT : eX P T e τ) (hj : j < xs.length - k) : aI P fl σ (.indexAddr T x y) (.raw (iO w τ.size (k + j))) :=
  ⟨rfl, fun h S t hs hc => by
    have h1 : aC t x = rowFrom w τ.size k := hs x (by simp [Op.operands]) _ hx; have h2 := aG.int (hs y (by simp [Op.operands]) _ hy); refine ⟨_, rfl, fun _ _ _ _ _ H => ?_⟩; show (if af (aC t y) then (aE P (Instr.indexAt T (aC t x) (aC t y))).map fun v => (v, H) else none) = _; rcases hc _ hm with ⟨_, rfl⟩ | ⟨b, rs, m, h3, h4, h5, h6⟩
    . simp at hj
    have hw : w = _ := h3; obtain ⟨i, z, yK, dJ, _⟩ := hT.sl.info; rw [h1, h2, hw, LI (by omega), if_pos (show af (Value.int .i64 ((j : Nat) : Int)) = true from rfl)]
    have h7 : (0 : Int) <= (j : Int) /\ (j : Int) < ((xs.length - k : Nat) : Int) := by omega
    unfold Instr.indexAt; simp only [aF, asIntOf, aK, Option.bind_some, aL hT.sl.sl, if_pos h7, eS yK, dJ, oT, Int.toNat_natCast, iO, Option.map_some]
    rw [Nat.add_mul, Nat.zero_add, Nat.zero_add]⟩
theorem aI.amL {xs : List τ.den} {k : Nat} {z : Int} (hx : aY fl x = some (.raw (rowFrom w τ.size k))) (hy : aY fl y = some (.v (.int .i64) z)) (hm : (w, Cell.row e τ xs) ∈ σ) (hT : eX P T e τ) (h0 : 0 <= z) (hz : z < ((xs.length - k : Nat) : Int)) : aI P fl σ (.indexAddr T x y) (.raw (iO w τ.size (k + z.toNat))) := by
  obtain ⟨j, rfl⟩ := Int.eq_ofNat_of_zero_le h0; exact aI.ixF hx hy hm hT (by omega)
theorem R5 {rs : List Value} {xs : List τ.den} {k : Nat} {cs : List Value} {dx : τ.den} (he : cE h S τ rs xs) (hk : k <= xs.length) (hx : cR h S τ cs dx) : cE h S τ (cU rs (k * τ.size) (List.replicate (xs.length - k) cs).flatten) (xs.take k ++ List.replicate (xs.length - k) dx) := by
  have CJ := he.1; have nU : k * τ.size <= xs.length * τ.size := Nat.mul_le_mul_right _ hk
  have CL : cE h S τ (rs.take (k * τ.size)) (xs.take k) := ⟨by rw [List.length_take, List.length_take, Nat.min_eq_left hk, Nat.min_eq_left (by omega)], fun i hi => by
    have nZ : i < k := by rw [List.length_take] at hi; omega
    have h2 : (i + 1) * τ.size <= k * τ.size := Nat.mul_le_mul_right _ nZ; rw [Nat.add_mul, Nat.one_mul] at h2; rw [List.drop_take, List.take_take, Nat.min_eq_left (by omega), List.getElem_take]
    exact he.2 i (by omega)⟩
  have nG := CN hx (xs.length - k); have hlen := nG.1; rw [List.length_replicate] at hlen
  have WD : rs.drop (k * τ.size + (List.replicate (xs.length - k) cs).flatten.length) = [] := List.drop_eq_nil_of_le (by
    rw [hlen, CJ, <- Nat.add_mul]
    exact Nat.mul_le_mul_right _ (by omega))
  unfold cU; rw [WD, List.append_nil]; exact CL.append nG
theorem cA.ahP {xs : List τ.den} {k : Nat} (hT : eX P T e τ) (hZ : lI P e τ) (hk : k <= xs.length) (h0 : 0 < xs.length) (hx : aY fl x = some (.raw (rowFrom w τ.size k))) :
    cA P fl ((w, .row e τ xs) :: σ) (.call { callee := .builtin .clear, args := #[x], argTypes := #[T] }) fun v aQ => v = .raw undef /\ aQ = (w, .row e τ (xs.take k ++ List.replicate (xs.length - k) (oL τ))) :: σ :=
  ⟨rfl, fun S0 h t L => by
    have h1 : aC t x = rowFrom w τ.size k := eH L.aH hx; rcases L.cells _ List.mem_cons_self with ⟨_, rfl⟩ | ⟨b, rs, m, h3, h4, h5, h6⟩
    . simp at h0
    have hw : w = _ := h3
    have pY : cW w = [b] := by rw [hw]; rfl
    obtain ⟨z, z1, z2, z3⟩ := hZ.zero; obtain ⟨i, z', nZ, lU, EB, vJ, wT, EC, KV⟩ := hT.sl.info
    obtain rfl : z' = z := by
      rw [nZ] at z1; simpa [wT] using z1
    have nF := hT.sl.pos; have CJ := h6.1; rcases Nat.lt_or_eq_of_le hk with C1 | C1
    . refine ⟨undef, h.set b (.row e (cU rs (k * τ.size) (List.replicate (xs.length - k) z'.cells.toList).flatten) true m), .raw undef, _, ⟨rfl, rfl⟩, Made.head L (cO.set h5 (by rw [pY]; simp)) (fun b hb => .inl hb) (by rw [pY]; simp) fun hN => ?_, rfl, fun _ _ _ _ _ => ?_⟩
      . refine .inr ⟨b, _, m, by rw [List.length_append, List.length_take, List.length_replicate, Nat.min_eq_left hk]; rw [show k + (xs.length - k) = xs.length by omega]; exact h3, ?_, by rw [aA.cZ h5, if_pos rfl], ?_⟩
        . rw [bE]; exact List.mem_append_left _ (List.mem_append_left _ (by rw [pY]; simp))
        exact R5 (h6.nx hN) hk (by rw [z2]; exact (nA _ _ τ).1)
      show (qY P #[T] (aC t x) h).map _ = _; have e1 : Nat.beq (xs.length - k) 0 = false := eD (by omega); have hf : fG z' (xs.length - k) = (List.replicate (xs.length - k) z'.cells.toList).flatten := yP (by omega) _
      have e2 : (fG z' (xs.length - k)).all eF = true := by
        rw [hf, List.all_eq_true]; intro q hq; obtain ⟨r, hr, hqr⟩ := List.mem_flatten.1 hq; rw [(List.mem_replicate.1 hr).2] at hqr; exact List.all_eq_true.1 KV q hqr
      have e3 : Nat.ble (0 + k * τ.size + (fG z' (xs.length - k)).length) rs.length = true := by
        rw [Nat.ble_eq, CK, EC, CJ, Nat.zero_add, <- Nat.add_mul]; exact Nat.mul_le_mul_right _ (by omega)
      rw [h1, hw, LI C1]; simp only [qY, List.getElem?_toArray, List.getElem?_cons_zero, hT.sl.sl, e1, cond_false, nZ, h5, wT, e2, e3, Bool.and_self, cond_true, Option.map_some]; rw [hf, Nat.zero_add]; rfl
    subst C1; refine ⟨undef, h, .raw undef, _, ⟨rfl, rfl⟩, ?_, rfl, fun _ _ _ _ _ => ?_⟩
    . rw [List.take_length, Nat.sub_self, List.replicate_zero, List.append_nil]; exact Made.same L (cO.refl _ _)
    show (qY P #[T] (aC t x) h).map _ = _
    have e0 : Nat.blt xs.length xs.length = false := by show Nat.ble (xs.length + 1) xs.length = false; exact Bool.eq_false_iff.2 fun hh => by rw [Nat.ble_eq] at hh; omega
    have e1 : Nat.beq xs.length 0 = false := eD (by omega); have e2 : Nat.beq 0 0 = true := rfl; rw [h1, hw]
    simp only [rowFrom, cutAt, e0, e1, Bool.or_self, cond_false, qY, List.getElem?_toArray, List.getElem?_cons_zero, hT.sl.sl, e2, cond_true, Option.map_some]; rfl⟩
theorem J.ahQ {xs : List τ.den} {k : Nat} (hT : eX P T e τ) (hZ : lI P e τ) (hk : k <= xs.length) (h0 : 0 < xs.length) (hK : J P orc ops n l fl ((w, .row e τ (xs.take k ++ List.replicate (xs.length - k) (oL τ))) :: σ) K) (hx : aY fl x = some (.raw (rowFrom w τ.size k)) := by rfl) (hw : cX ops fl g = some true := by rfl) :
    J P orc ops n (⟨none, .call { callee := .builtin .clear, args := #[x], argTypes := #[T] }, ty, pos, after, g⟩ :: l) fl ((w, .row e τ xs) :: σ) K :=
  J.rJ (cA.ahP hT hZ hk h0 hx) (by rintro _ _ ⟨rfl, rfl⟩; exact hK) hw
theorem gS.ahR {γ : aX} {f : FuncId} {args : List PV} {fn : Func} {c : Code} {r : PV} (l5 : P.funcs[f]? = some fn) (hc : fn.body = some c) (ho : ∀ us h, orc f us h = none) (hn : (Nat.blt 4000 fn.ntmps || Nat.blt fn.ntmps args.length) = false)
    (hb : U P orc none c fn.ntmps (pJ 0 args) γ (aS P fn r)) : gS P orc f args γ (fun r' g => r' = r /\ g = []) := fun h S us bW hS dD jT yR ha => by
  have hl := ha.len
  have tO : Nat.blt 4000 fn.ntmps = false /\ Nat.blt fn.ntmps args.length = false := by simpa using hn
  have n3 := j8 tO.1; have n4 := j8 tO.2; have mI : bA (entry h) (own γ ++ S) args us := bA.nx (h := h) (h' := entry h) (fun _ _ a b => ⟨a, b⟩) ha
  have I0 : Iv (entry h) (own γ) S (entry h) γ (kZ .leaf 0 us) [] (pJ 0 args) := {
    ok := bW
    s0 := hS.1
    gC := cO.refl _ _
    cells := fun c hc => (dD c hc).aW (fun _ _ => rfl) (fun _ _ a b => ⟨a, b⟩) fun b hb => List.mem_append_left _ (List.mem_flatMap.2 ⟨c, hc, hb⟩)
    new := fun b hb => ⟨.inl hb, yR b hb⟩
    apart := jT
    mark := fun d hd => by cases hd
    marks := List.nodup_nil
    aH := oX (hS.2.ent dD) mI (by omega) }
  refine rC.enter l5 hc (ho us h) (by rw [hl]; exact hn) ((hb (entry h) (own γ) S _ (entry h) [] I0).mono fun e fr h1 hq => ?_); obtain ⟨_, eQ, aQ, I, he, ps, GB, rfl⟩ := hq; obtain ⟨h2, d1, d2, d3⟩ := sD I.marks fun d hd => (I.mark d hd).2
  have jU : ∀ b o, h1.get b = some o -> o ≠ .iR -> h2.get b = some o := fun b o hg cM => by
    rw [d3 b (fun hm => cM (by have := (I.mark b hm).2; rw [hg] at this; exact Option.some.inj this))]; exact hg
  have a2 : cO (entry h) h2 (own γ) := I.gC.trans d2 fun i hi => .inr (I.mark i hi).1; have hN : pI h1 S h2 S := fun b _ hg cM sN => ⟨jU b _ hg cM, sN⟩; obtain ⟨uT, e1, e2⟩ := GB.ok I.lc jU hN; have nG := KT e2; refine ⟨he, h2, uT, d1, e1, ?_⟩; unfold leftOf
  cases pW : (af (iM uT) && Nat.ble h.next h2.low) with
  | true => exact ⟨_, [], ⟨rfl, rfl⟩, ⟨cO.refl _ _, fun b hb => (by cases hb), List.nodup_nil, fun c hc => (by cases hc)⟩, nG.KS (b6 pW).1⟩
  | false =>
    refine ⟨_, [], ⟨rfl, rfl⟩, ⟨⟨a2.next, a2.get, fun x => a2.ok x, fun e h3 h4 h5 => Nat.le_min.2 ⟨h3, a2.low e (Nat.le_trans h4 (Nat.le_refl _)) h4 h5⟩, fun b hb => ?_, Nat.min_le_left _ _⟩, fun b hb => (by cases hb), List.nodup_nil, fun c hc => (by cases hc)⟩, aJ.nx (h := h2) (h' := { next := h2.next, low := min h.low h2.low, aB := h2.aB }) (fun _ _ a b => ⟨a, b⟩) nG⟩; rcases a2.chg b hb with h3 | h3
    . exact .inl h3
    exact .inr (Nat.le_trans (Nat.min_le_right _ _) h3)
theorem eC {α : Type} (xs : List α) (d : α) {i : Nat} (h : i < xs.length) : xs.getD i d = xs[i] := by rw [List.getD_eq_getElem?_getD, List.getElem?_eq_getElem h]; rfl
def fJ {α : Type} [DecidableEq α] (d : α) (xs : List α) : Nat -> List α
  | 0 => []
  | i + 1 => if 0 < i /\ xs.getD i d = xs.getD (i - 1) d then fJ d xs i else fJ d xs i ++ [xs.getD i d]
def kO {α : Type} [DecidableEq α] (d : α) (xs : List α) (m : Nat) : List α := fJ d xs m ++ xs.drop (fJ d xs m).length
section
variable {α : Type} [DecidableEq α] {dd : α} {xs : List α}
theorem A8 : ∀ {i : Nat}, (fJ dd xs i).length <= i
  | 0 => Nat.le_refl _
  | i + 1 => by
    unfold fJ; have := A8 (i := i); split
    . omega
    rw [List.length_append, List.length_singleton]; omega
theorem vL : ∀ {i : Nat}, i <= xs.length -> (∀ j, 0 < j -> j < i -> xs.getD j dd ≠ xs.getD (j - 1) dd) -> fJ dd xs i = xs.take i
  | 0, _, _ => by simp [fJ]
  | i + 1, hi, h => by
    unfold fJ; rw [if_neg fun hh => h i hh.1 (Nat.lt_succ_self _) hh.2, vL (by omega) fun j h1 h2 => h j h1 (by omega), List.take_succ_eq_append_getElem (by omega), eC _ _ (by omega)]
theorem vM {i : Nat} (h0 : 0 < i) (h : xs.getD i dd = xs.getD (i - 1) dd) : fJ dd xs (i + 1) = fJ dd xs i := by rw [fJ, if_pos ⟨h0, h⟩]
theorem yY {i : Nat} (h : xs.getD i dd ≠ xs.getD (i - 1) dd) : fJ dd xs (i + 1) = fJ dd xs i ++ [xs.getD i dd] := by rw [fJ, if_neg fun hh => h hh.2]
theorem abB {m : Nat} (hm : m <= xs.length) : (kO dd xs m).length = xs.length := by
  have := A8 (dd := dd) (xs := xs) (i := m); rw [kO, List.length_append, List.length_drop]; omega
theorem TQ {m i : Nat} (h : (fJ dd xs m).length <= i) : (kO dd xs m).getD i dd = xs.getD i dd := by
  rw [kO, List.getD_eq_getElem?_getD, List.getElem?_append_right h, List.getElem?_drop, List.getD_eq_getElem?_getD]; congr 2; omega
theorem LJ {i : Nat} (h0 : 0 < i) (h : xs.getD i dd = xs.getD (i - 1) dd) : kO dd xs (i + 1) = kO dd xs i := by rw [kO, vM h0 h]; rfl
theorem TR {i : Nat} (hi : i < xs.length) (h : xs.getD i dd ≠ xs.getD (i - 1) dd) : kO dd xs (i + 1) = (kO dd xs i).set (fJ dd xs i).length (xs.getD i dd) := by
  have := A8 (dd := dd) (xs := xs) (i := i); unfold kO; rw [yY h, List.length_append, List.length_singleton, List.set_append_right _ _ (Nat.le_refl _), Nat.sub_self, List.drop_eq_getElem_cons (i := (fJ dd xs i).length) (by omega), List.set_cons_zero, List.append_assoc]; rfl
theorem TS {k : Nat} (hk : k <= xs.length) (jA : ∀ j, 0 < j -> j < k -> xs.getD j dd ≠ xs.getD (j - 1) dd) : kO dd xs k = xs := by
  rw [kO, vL hk jA, List.length_take, Nat.min_eq_left hk, List.take_append_drop]
theorem XK {m : Nat} : (kO dd xs m).take (fJ dd xs m).length = fJ dd xs m := by rw [kO, List.take_left]
end
end Go.Fs
namespace Go.Fs
variable {α : Type}
structure dO (lt : α -> α -> Bool) : Prop where
  asym : ∀ a b, lt a b = true -> lt b a = false
  neg : ∀ a b c, lt a b = false -> lt b c = false -> lt a c = false
variable {lt : α -> α -> Bool}
theorem dO.irr (W : dO lt) (a : α) : lt a a = false := by
  cases h : lt a a with
  | false => rfl
  | true => have := W.asym a a h; rw [h] at this; cases this
def eqv (lt : α -> α -> Bool) (a b : α) : Bool := !lt a b && !lt b a
theorem gU {a b : α} : eqv lt a b = true ↔ lt a b = false /\ lt b a = false := by simp [eqv]
theorem dO.OM (W : dO lt) (a : α) : eqv lt a a = true := gU.2 ⟨W.irr a, W.irr a⟩
theorem dO.aeP (W : dO lt) {a x y : α} (h1 : eqv lt a x = true) (h2 : eqv lt a y = true) : eqv lt x y = true := by
  obtain ⟨h3, h4⟩ := gU.1 h1; obtain ⟨h5, h6⟩ := gU.1 h2; exact gU.2 ⟨W.neg _ _ _ h4 h5, W.neg _ _ _ h6 h3⟩
def bC (lt : α -> α -> Bool) (xs ys : List α) : Prop := ∀ a, xs.filter (eqv lt a) = ys.filter (eqv lt a)
theorem bC.refl (xs : List α) : bC lt xs xs := fun _ => rfl
theorem bC.trans {xs ys zs : List α} (h1 : bC lt xs ys) (h2 : bC lt ys zs) : bC lt xs zs := fun a => (h1 a).trans (h2 a)
theorem bC.symm {xs ys : List α} (h1 : bC lt xs ys) : bC lt ys xs := fun a => (h1 a).symm
theorem bC.mem (W : dO lt) {xs ys : List α} (h : bC lt xs ys) {x : α} (hx : x ∈ xs) : x ∈ ys := by
  have h1 : x ∈ xs.filter (eqv lt x) := List.mem_filter.2 ⟨hx, W.OM x⟩; rw [h x] at h1; exact (List.mem_filter.1 h1).1
theorem bC.append {xs ys us vs : List α} (h1 : bC lt xs ys) (h2 : bC lt us vs) : bC lt (xs ++ us) (ys ++ vs) := fun a => by rw [List.filter_append, List.filter_append, h1 a, h2 a]
theorem bC.strip {p s xs ys : List α} (h : bC lt (p ++ (xs ++ s)) (p ++ (ys ++ s))) : bC lt xs ys := fun a => by
  have := h a; simp only [List.filter_append] at this; exact List.append_cancel_right (List.append_cancel_left this)
theorem bC.swap (W : dO lt) {p u v s : List α} (hu : ∀ x ∈ u, ∀ y ∈ v, eqv lt x y = false) : bC lt (p ++ (u ++ (v ++ s))) (p ++ (v ++ (u ++ s))) := fun a => by
  simp only [List.filter_append]; congr 1; rw [<- List.append_assoc, <- List.append_assoc]; congr 1
  cases h1 : u.filter (eqv lt a) with
  | nil => simp
  | cons x r =>
    have hx : x ∈ u.filter (eqv lt a) := by rw [h1]; exact List.mem_cons_self
    obtain ⟨QS, yC⟩ := List.mem_filter.1 hx
    have h2 : v.filter (eqv lt a) = [] := List.filter_eq_nil_iff.2 fun y hy h3 => by
      have := hu x QS y hy; rw [W.aeP yC h3] at this; cases this
    rw [h2]; simp
def LK (lt : α -> α -> Bool) (xs : List α) : Prop := xs.Pairwise (fun x y => lt y x = false)
theorem ON (W : dO lt) : ∀ {xs ys : List α}, LK lt xs -> LK lt ys -> bC lt xs ys -> xs = ys
  | [], [], _, _, _ => rfl
  | [], y :: ys, _, _, h => by have := bC.mem W h.symm (x := y) List.mem_cons_self; cases this
  | x :: xs, [], _, _, h => by have := bC.mem W h (x := x) List.mem_cons_self; cases this
  | x :: xs, y :: ys, hx, hy, h => by
    obtain ⟨QS, yC⟩ := List.pairwise_cons.1 hx; obtain ⟨hy1, hy2⟩ := List.pairwise_cons.1 hy
    have key : ∀ {x y : α} {xs ys : List α}, (∀ z ∈ ys, lt z y = false) -> bC lt (x :: xs) (y :: ys) -> lt x y = false := fun {x y xs ys} h1 h2 => by
      rcases List.mem_cons.1 (bC.mem W h2 (x := x) List.mem_cons_self) with h3 | h3
      . subst h3; exact W.irr _
      exact h1 _ h3
    have e1 : lt x y = false := key hy1 h; have e2 : lt y x = false := key QS h.symm; have e3 := h x; rw [List.filter_cons_of_pos (W.OM x), List.filter_cons_of_pos (gU.2 ⟨e1, e2⟩)] at e3; injection e3 with e4 e5; subst e4
    rw [ON W yC hy2 fun a => by
      have := h a; by_cases ha : eqv lt a x = true
      . rw [List.filter_cons_of_pos ha, List.filter_cons_of_pos ha] at this; injection this
      rwa [List.filter_cons_of_neg ha, List.filter_cons_of_neg ha] at this]
def yZ (lt : α -> α -> Bool) (x : α) : List α -> List α
  | [] => [x]
  | y :: ys => if lt y x then y :: yZ lt x ys else x :: y :: ys
def lA (lt : α -> α -> Bool) : List α -> List α
  | [] => []
  | x :: xs => yZ lt x (lA lt xs)
theorem OO {x z : α} : ∀ {ys : List α}, z ∈ yZ lt x ys -> z = x \/ z ∈ ys
  | [], h => .inl (by simpa [yZ] using h)
  | y :: ys, h => by
    unfold yZ at h; split at h
    . rcases List.mem_cons.1 h with h | h
      . exact .inr (by rw [h]; exact List.mem_cons_self)
      rcases OO h with h | h
      . exact .inl h
      exact .inr (List.mem_cons_of_mem _ h)
    rcases List.mem_cons.1 h with h | h
    . exact .inl h
    exact .inr h
theorem OP (W : dO lt) {x : α} : ∀ {ys : List α}, LK lt ys -> LK lt (yZ lt x ys)
  | [], _ => List.pairwise_singleton _ _
  | y :: ys, h => by
    obtain ⟨h1, h2⟩ := List.pairwise_cons.1 h; unfold yZ; split
    . rename_i hl; refine List.pairwise_cons.2 ⟨fun z hz => ?_, OP W h2⟩; rcases OO hz with hz | hz
      . subst hz; exact W.asym _ _ hl
      exact h1 z hz
    rename_i hl
    have hl' : lt y x = false := by simpa using hl
    refine List.pairwise_cons.2 ⟨fun z hz => ?_, h⟩; rcases List.mem_cons.1 hz with hz | hz
    . subst hz; exact hl'
    exact W.neg _ _ _ (h1 z hz) hl'
theorem LL (W : dO lt) {x : α} : ∀ {ys : List α}, bC lt (x :: ys) (yZ lt x ys)
  | [] => bC.refl _
  | y :: ys => by
    unfold yZ; split
    . rename_i hl
      have h1 : bC lt (x :: y :: ys) (y :: x :: ys) := bC.swap W (p := []) (u := [x]) (v := [y]) (s := ys) fun a ha b hb => by
        rw [List.mem_singleton] at ha hb; subst ha; subst hb
        cases he : eqv lt a b with
        | false => rfl
        | true => have := (gU.1 he).2; rw [hl] at this; cases this
      exact h1.trans (bC.append (bC.refl [y]) (LL W))
    exact bC.refl _
theorem CR (W : dO lt) : ∀ (xs : List α), LK lt (lA lt xs)
  | [] => List.Pairwise.nil
  | x :: xs => OP W (CR W xs)
theorem uA (W : dO lt) : ∀ (xs : List α), bC lt xs (lA lt xs)
  | [] => bC.refl _
  | x :: xs => (bC.append (bC.refl [x]) (uA W xs)).trans (LL W)
theorem GK (W : dO lt) {xs ys : List α} (h1 : LK lt ys) (h2 : bC lt xs ys) : lA lt xs = ys := ON W (CR W xs) h1 ((uA W xs).symm.trans h2)
theorem OQ {x : α} : ∀ {ys : List α}, (yZ lt x ys).length = ys.length + 1
  | [] => rfl
  | y :: ys => by
    unfold yZ; split
    . rw [List.length_cons, OQ, List.length_cons]
    rfl
theorem wV : ∀ (xs : List α), (lA lt xs).length = xs.length
  | [] => rfl
  | x :: xs => by rw [lA, OQ, wV, List.length_cons]
variable {d : α}
abbrev at_ (xs : List α) (i : Nat) (d : α) : α := xs.getD i d
theorem A9 {xs ys : List α} (d : α) (hl : xs.length = ys.length) (h : ∀ i, i < xs.length -> xs.getD i d = ys.getD i d) : xs = ys := List.ext_getElem hl fun i h1 h2 => by
  have := h i h1
  rwa [eC _ _ h1, eC _ _ h2] at this
def dP (lt : α -> α -> Bool) (d : α) (ys : List α) (a b : Nat) : Prop := ∀ p q, a <= p -> p < q -> q < b -> lt (ys.getD q d) (ys.getD p d) = false
def bI (lt : α -> α -> Bool) (xs : List α) (a b : Nat) : List α := xs.take a ++ (lA lt ((xs.take b).drop a) ++ xs.drop b)
structure lJ (lt : α -> α -> Bool) (xs ys : List α) (a b : Nat) : Prop where
  len : ys.length = xs.length
  lo : ys.take a = xs.take a
  hi : ys.drop b = xs.drop b
  same : bC lt xs ys
theorem lJ.refl (xs : List α) (a b : Nat) : lJ lt xs xs a b := ⟨rfl, rfl, rfl, bC.refl _⟩
theorem lJ.trans {xs ys zs : List α} {a b : Nat} (h1 : lJ lt xs ys a b) (h2 : lJ lt ys zs a b) : lJ lt xs zs a b := ⟨h2.len.trans h1.len, h2.lo.trans h1.lo, h2.hi.trans h1.hi, h1.same.trans h2.same⟩
theorem lJ.wider {xs ys : List α} {a b a' b' : Nat} (h : lJ lt xs ys a b) (ha : a' <= a) (hb : b <= b') : lJ lt xs ys a' b' where
  len := h.len
  lo := by rw [<- Nat.min_eq_left ha, <- List.take_take, h.lo, List.take_take]
  hi := by
    have e : b' = b + (b' - b) := by omega
    rw [e, <- List.drop_drop, h.hi, List.drop_drop]
  same := h.same
theorem GL {p m s : List α} {b : Nat} (h : p.length + m.length = b) : (p ++ (m ++ s)).drop b = s := by subst h; rw [<- List.append_assoc, <- List.length_append, List.drop_left]
theorem three (xs : List α) {a b : Nat} (h : a <= b) : xs = xs.take a ++ ((xs.take b).drop a ++ xs.drop b) := by
  conv => lhs; rw [<- List.take_append_drop b xs]
  rw [<- List.append_assoc]; congr 1
  conv => lhs; rw [<- List.take_append_drop a (xs.take b)]
  rw [List.take_take, Nat.min_eq_left h]
theorem lJ.below {xs ys : List α} {a b i : Nat} (h : lJ lt xs ys a b) (hi : i < a) : ys.getD i d = xs.getD i d := by
  have : (ys.take a).getD i d = (xs.take a).getD i d := by rw [h.lo]
  simpa [List.getD_eq_getElem?_getD, List.getElem?_take, hi] using this
theorem lJ.wW {xs ys : List α} {a b i : Nat} (h : lJ lt xs ys a b) (hi : b <= i) : ys.getD i d = xs.getD i d := by
  have : (ys.drop b).getD (i - b) d = (xs.drop b).getD (i - b) d := by rw [h.hi]
  simpa [List.getD_eq_getElem?_getD, List.getElem?_drop, show b + (i - b) = i by omega] using this
theorem lJ.mid {xs ys : List α} {a b : Nat} (uS : a <= b) (h : lJ lt xs ys a b) : bC lt ((xs.take b).drop a) ((ys.take b).drop a) := by
  have h1 := h.same; rw [three xs uS, three ys uS, h.lo, h.hi] at h1; exact h1.strip
theorem TT {xs : List α} {a b : Nat} {x : α} (hb : b <= xs.length) : x ∈ (xs.take b).drop a ↔ ∃ i, a <= i /\ i < b /\ xs.getD i d = x := by
  constructor
  . intro h; obtain ⟨i, hi, rfl⟩ := List.getElem_of_mem h; rw [List.length_drop, List.length_take] at hi; refine ⟨a + i, by omega, by omega, ?_⟩; rw [eC _ _ (by omega)]; simp
  rintro ⟨i, h1, h2, rfl⟩; rw [eC _ _ (by omega), List.mem_iff_getElem]; refine ⟨i - a, by rw [List.length_drop, List.length_take]; omega, ?_⟩; simp [show a + (i - a) = i by omega]
theorem lJ.aiZ (W : dO lt) {xs ys : List α} {a b i : Nat} (h : lJ lt xs ys a b) (hb : b <= xs.length) (h1 : a <= i) (h2 : i < b) : ∃ j, a <= j /\ j < b /\ xs.getD j d = ys.getD i d := by
  have hm : ys.getD i d ∈ (ys.take b).drop a := (TT (by rw [h.len]; exact hb)).2 ⟨i, h1, h2, rfl⟩; exact (TT hb).1 (bC.mem W (h.mid (by omega)).symm hm)
theorem OS {ys : List α} {a b : Nat} (hb : b <= ys.length) (h : dP lt d ys a b) : LK lt ((ys.take b).drop a) := by
  unfold LK; rw [List.pairwise_iff_getElem]; intro i j hi hj N1; rw [List.length_drop, List.length_take] at hi hj; have := h (a + i) (a + j) (by omega) (by omega) (by omega); rw [eC _ _ (by omega), eC _ _ (by omega)] at this; simpa using this
theorem z7 (W : dO lt) {xs ys : List α} {a b : Nat} (uS : a <= b) (hb : b <= xs.length) (h : lJ lt xs ys a b) (hs : dP lt d ys a b) : ys = bI lt xs a b := by
  unfold bI; rw [GK W (OS (by rw [h.len]; exact hb) hs) (h.mid uS), <- h.lo, <- h.hi]; exact three ys uS
theorem gE (W : dO lt) {xs : List α} {a b : Nat} (uS : a <= b) (hb : b <= xs.length) : lJ lt xs (bI lt xs a b) a b := by
  have hl : (xs.take a).length = a := by rw [List.length_take]; omega
  have hm : (lA lt ((xs.take b).drop a)).length = b - a := by rw [wV, List.length_drop, List.length_take]; omega
  refine ⟨?_, ?_, ?_, ?_⟩
  . unfold bI; rw [List.length_append, List.length_append, hl, hm, List.length_drop]; omega
  . unfold bI; rw [List.take_append_of_le_length (by omega), List.take_of_length_le (by omega)]
  . unfold bI; exact GL (by omega)
  unfold bI
  conv => arg 2; rw [three xs uS]
  exact bC.append (bC.refl _) (bC.append (uA W _) (bC.refl _))
theorem z8 (W : dO lt) {xs : List α} {a b : Nat} (uS : a <= b) (hb : b <= xs.length) : dP lt d (bI lt xs a b) a b := by
  intro p q h1 h2 h3; have hs := CR W ((xs.take b).drop a); unfold LK at hs; rw [List.pairwise_iff_getElem] at hs
  have hm : (lA lt ((xs.take b).drop a)).length = b - a := by rw [wV, List.length_drop, List.length_take]; omega
  have hl : (xs.take a).length = a := by rw [List.length_take]; omega
  have e : ∀ i, a <= i -> (hi : i < b) -> (bI lt xs a b).getD i d = (lA lt ((xs.take b).drop a))[i - a]'(by omega) := fun i h4 h5 => by
    unfold bI; rw [List.getD_eq_getElem?_getD, List.getElem?_append_right (by omega), List.getElem?_append_left (by omega), hl, List.getElem?_eq_getElem (by omega)]; rfl
  rw [e p h1 (by omega), e q (by omega) h3]; exact hs _ _ (by omega) (by omega) (by omega)
def swp (ys : List α) (i j : Nat) (d : α) : List α := (ys.set i (ys.getD j d)).set j (ys.getD i d)
theorem tC {ys : List α} {i j : Nat} : (swp ys i j d).length = ys.length := by simp [swp]
theorem EO {ys : List α} {i j k : Nat} (hi : i < ys.length) (hj : j < ys.length) : (swp ys i j d).getD k d = if k = j then ys.getD i d else if k = i then ys.getD j d else ys.getD k d := by
  unfold swp; simp only [List.getD_eq_getElem?_getD, List.getElem?_set, List.length_set]; by_cases h1 : k = j
  . subst h1; simp [hj]
  rw [if_neg (Ne.symm h1), if_neg h1]; by_cases h2 : k = i
  . subst h2; simp [hi]
  rw [if_neg (Ne.symm h2), if_neg h2]
theorem ahS {ys : List α} {k : Nat} (h : k + 1 < ys.length) : ys = ys.take k ++ ([ys.getD k d] ++ ([ys.getD (k + 1) d] ++ ys.drop (k + 2))) := by
  conv => lhs; rw [<- List.take_append_drop k ys]
  congr 1; rw [List.drop_eq_getElem_cons (by omega), List.drop_eq_getElem_cons (by omega), eC _ _ (by omega), eC _ _ h]; rfl
theorem LM {ys : List α} {k : Nat} (h : k + 1 < ys.length) : swp ys (k + 1) k d = ys.take k ++ ([ys.getD (k + 1) d] ++ ([ys.getD k d] ++ ys.drop (k + 2))) := by
  have hl : (ys.take k).length = k := by rw [List.length_take]; omega
  refine A9 d (by rw [tC]; simp; omega) fun i hi => ?_; rw [EO (by omega) (by omega)]; by_cases h1 : i < k
  . rw [if_neg (by omega), if_neg (by omega), List.getD_eq_getElem?_getD, List.getD_eq_getElem?_getD, List.getElem?_append_left (by omega), List.getElem?_take, if_pos h1]
  by_cases h2 : i = k
  . subst h2; rw [if_pos rfl, List.getD_eq_getElem?_getD (l := _ ++ _), List.getElem?_append_right (by omega), hl, Nat.sub_self]; rfl
  by_cases h3 : i = k + 1
  . subst h3; rw [if_neg h2, if_pos rfl, List.getD_eq_getElem?_getD (l := _ ++ _), List.getElem?_append_right (by omega), hl, show k + 1 - k = 1 by omega]; rfl
  rw [if_neg h2, if_neg h3, List.getD_eq_getElem?_getD (l := _ ++ _), List.getElem?_append_right (by omega), hl, List.getElem?_append_right (by simp; omega), List.getElem?_append_right (by simp; omega), List.getElem?_drop, List.getD_eq_getElem?_getD]; congr 2
  simp; omega
theorem aeQ (W : dO lt) {ys : List α} {a b k : Nat} (ha : a <= k) (hb : k + 1 < b) (hl : k + 1 < ys.length) (h : lt (ys.getD (k + 1) d) (ys.getD k d) = true) : lJ lt ys (swp ys (k + 1) k d) a b where
  len := tC
  lo := by
    rw [LM hl, List.take_append_of_le_length (by rw [List.length_take]; omega), List.take_take, Nat.min_eq_left ha]
  hi := by
    have e : (ys.take k ++ ([ys.getD (k + 1) d] ++ ([ys.getD k d] ++ ys.drop (k + 2)))).drop (k + 2) = ys.drop (k + 2) := by
      rw [<- List.append_assoc [_] [_]]; exact GL (by simp; omega)
    obtain ⟨c, rfl⟩ : ∃ c, b = (k + 2) + c := ⟨b - (k + 2), by omega⟩; rw [LM hl, <- List.drop_drop, e, List.drop_drop]
  same := by
    rw [LM hl]
    conv => arg 2; rw [ahS (d := d) hl]
    exact bC.swap W fun x hx y hy => by
      rw [List.mem_singleton] at hx hy; subst hx; subst hy
      cases he : eqv lt (ys.getD k d) (ys.getD (k + 1) d) with
      | false => rfl
      | true => have := (gU.1 he).2; rw [h] at this; cases this
structure EP (lt : α -> α -> Bool) (d : α) (ys : List α) (a j i : Nat) : Prop where
  IK : ∀ p q, a <= p -> p < q -> q <= i -> q ≠ j -> p ≠ j -> lt (ys.getD q d) (ys.getD p d) = false
  less : ∀ q, j < q -> q <= i -> lt (ys.getD j d) (ys.getD q d) = true
theorem EP.start {ys : List α} {a i : Nat} (h : dP lt d ys a i) : EP lt d ys a i i := ⟨fun p q h1 h2 h3 h4 _ => h p q h1 h2 (by omega), fun q h1 h2 => by omega⟩
theorem EP.step {ys : List α} {a j i : Nat} (h : EP lt d ys a (j + 1) i) (haj : a <= j) (DW : j + 1 <= i) (hi : i < ys.length) (hl : lt (ys.getD (j + 1) d) (ys.getD j d) = true) : EP lt d (swp ys (j + 1) j d) a j i := by
  have e : ∀ k, (swp ys (j + 1) j d).getD k d = if k = j then ys.getD (j + 1) d else if k = j + 1 then ys.getD j d else ys.getD k d := fun k => EO (by omega) (by omega); constructor
  . intro p q h1 h2 h3 h4 h5; rw [e, e, if_neg h4, if_neg h5]; by_cases hp : p = j + 1
    . rw [if_pos hp, if_neg (by omega)]; exact h.IK j q haj (by omega) h3 (by omega) (by omega)
    rw [if_neg hp]; by_cases hq : q = j + 1
    . rw [if_pos hq]; exact h.IK p j h1 (by omega) (by omega) (by omega) (by omega)
    rw [if_neg hq]; exact h.IK p q h1 h2 h3 hq hp
  intro q h1 h2; rw [e, e, if_pos rfl, if_neg (by omega)]; by_cases hq : q = j + 1
  . rw [if_pos hq]; exact hl
  rw [if_neg hq]; exact h.less q (by omega) h2
theorem EP.done (W : dO lt) {ys : List α} {a j i : Nat} (h : EP lt d ys a j i) (haj : a <= j) (DW : j <= i) (hl : a < j -> lt (ys.getD j d) (ys.getD (j - 1) d) = false) : dP lt d ys a (i + 1) := by
  intro p q h1 h2 h3; by_cases hq : q = j
  . subst hq; have h4 := hl (by omega); by_cases hp : p = q - 1
    . subst hp; exact h4
    exact W.neg _ _ _ h4 (h.IK p (q - 1) h1 (by omega) (by omega) (by omega) (by omega))
  by_cases hp : p = j
  . subst hp; exact W.asym _ _ (h.less q h2 (by omega))
  exact h.IK p q h1 h2 (by omega) hq hp
end Go.Fs
