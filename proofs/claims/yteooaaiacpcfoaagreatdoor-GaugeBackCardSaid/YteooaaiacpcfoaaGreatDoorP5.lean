/- Parts of the proof: an evaluator of the model, what it is sound for, and contracts of functions. No condition. -/
import Derived.Test.YteooaaiacpcfoaaGreatDoorP2
import Derived.Test.YteooaaiacpcfoaaGreatDoorP4
import Derived.Scope
import Derived.Lib.ItoaNum
import Derived.Lib.Join
import Ieee.Arith
import Derived.Sort.OwnSorted
import Derived.Lib.AtoiAll
import Derived.Test.YteooaaiacpcfoaaGreatDoorChecked
set_option linter.all false
namespace Go
variable {P : Program}
theorem kG {b : Frame} {a : Act} {k : List Item} {cs : List Frame} {w : World} {c : Code} : step P (lone (b.atR a (.code (.scope c) :: k)) cs w) = .next (lone (b.atR a (.code c :: .inScope c :: k)) cs w) :=
  step_lone_go (by simp [stepG, stepG.exec, Frame.atR])
theorem F0 {b : Frame} {a : Act} {k : List Item} {cs : List Frame} {w : World} {c : Code} : step P (lone (b.atR a (.inScope c :: k)) cs w) = .next (lone (b.atR a k) cs w) :=
  step_lone_go (by simp [stepG, stepG.exec, Frame.atR])
theorem NW {F : Fence} {n : Nat} {Q : Exit -> Act -> World -> Prop} {a : Act} {w : World} {c : Code} (h : c.wpIn F n P (Exit.noGoto Q) a w) : (Code.scope c).wpIn F n P Q a w := by
  intro b k cs hro hb hr; have h0 : (lone (b.atR a (.code (.scope c) :: k)) cs w).fenced P F := fenced_calm hb hr rfl; obtain ⟨e, UE, UF, hq, OZ⟩ := h b (.inScope c :: k) cs hro hb hr
  cases e with
  | normal => exact ⟨.normal, UE, UF, hq, .head h0 kG (StepsIn.trans OZ (.one (fenced_calm hb hr rfl) F0))⟩
  | exit id =>
    have hx : exitTo id (.inScope c :: k) = exitTo id k := by simp [exitTo]
    exact ⟨.exit id, UE, UF, hq, fun k' hk => .head h0 kG (OZ.1 k' (by rw [hx]; exact hk)),
      fun hr' hk => let ⟨k₁, h1, h2⟩ := OZ.2 hr' (by rw [hx]; exact hk); ⟨k₁, h1, .head h0 kG h2⟩⟩
  | goto l => exact hq.elim
  | ret => exact ⟨_, UE, UF, hq, .of_steps (.one h0 kG) OZ⟩
  | panic ch => exact ⟨_, UE, UF, hq, .of_steps (.one h0 kG) OZ⟩
  | outgrown => exact ⟨_, UE, UF, hq, .of_steps (.one h0 kG) OZ⟩
end Go
namespace Go.Fs
open Go.RowKit (Below)
variable {P : Program} {ρ bG : Ren} {S S' : Nat -> Prop} {B : Nat} {w0 w w' w1 w2 : World} {h h' h1 h2 : Heap}
theorem yN (hP : k9 P) {orc : FuncId -> List Value -> Heap -> Option (Value × Heap)} (jY : cB P B w0 orc) {m : Nat} {rec : Rec} (iL : oF P B w0 m rec) : lF P B w0 (dL P orc rec) := by
  intro f args h v h' hf; unfold dL at hf; split at hf
  . rename_i r hr; simp only [Option.some.injEq] at hf; subst hf; exact .inl (jY _ _ _ _ _ hr)
  split at hf
  . rename_i r hr; simp only [Option.some.injEq] at hf; subst hf; refine .inr fun ρ S w args' l3 ha => ?_; unfold E4 at hr; split at hr
    . rename_i fn kX; obtain ⟨hb, hr3⟩ := aL hr; obtain ⟨AB, sX⟩ := aT hb; split at hr3
      . rename_i e h1 h2; obtain ⟨lV, hr4⟩ := aL hr3; obtain ⟨hp, rfl⟩ := eM hr4; obtain ⟨h3, h4⟩ := qK hp w; have he : args' = args := ha.dD lV; subst he; refine ⟨w, v, ?_, ρ, aO.same l3, .lS h4⟩; unfold callFunc
        have ar8 : (fn.name == "runtime.NumGoroutine") = false := by simpa using sX
        simp only [Sem.run_bind, run_program, Result.andThen_ok, kX, AB, ar8, Bool.false_eq_true, if_false, if_true, h1, h2]; have hm : (mark (Mark.extern f)).run P w = .ok () w := rfl; rw [hm]; simp only [Result.andThen_ok, h3, Sem.run_pure]
      cases hr3
    cases hr
  exact .inl (CS hP iL _ _ _ _ _ hf)
theorem pO.same {fr : Fr} {a : Act} (hr : HR P ρ S B w0 h w) (ht : kL ρ S fr.t fr.n a.tmps) (hm : pN ρ S fr.marks a.defers) : pO P B w0 ρ ρ S h w fr h w a :=
  ⟨aO.same hr, ht.mono fun _ hb => ⟨.inl hb, rfl⟩, hm.mono fun _ hb => ⟨.inl hb, rfl⟩⟩
theorem GR (hP : k9 P) {orc : FuncId -> List Value -> Heap -> Option (Value × Heap)} (jY : cB P B w0 orc) {m : Nat} {rec : Rec} (iL : oF P B w0 m rec) : oF P B w0 (m + 1) (bA P orc rec) := by
  intro aR c fr h e iO h' aZ hf ρ S w a nn Q hr ht hm hs k; have gX : lF P B w0 (dL P orc rec) := yN hP jY iL; have p7 : fT P B w0 (eG rec) := CT iL
  cases c with
  | skip =>
    simp only [bA, Option.some.injEq, Prod.mk.injEq] at hf; obtain ⟨rfl, rfl, rfl⟩ := hf
    exact wpIn_skip (k _ _ _ (pO.same hr ht hm))
  | label l =>
    simp only [bA, Option.some.injEq, Prod.mk.injEq] at hf; obtain ⟨rfl, rfl, rfl⟩ := hf
    exact wpIn_label (k _ _ _ (pO.same hr ht hm))
  | exit id =>
    simp only [bA, Option.some.injEq, Prod.mk.injEq] at hf; obtain ⟨rfl, rfl, rfl⟩ := hf
    exact wpIn_exit (k _ _ _ (pO.same hr ht hm))
  | ret =>
    simp only [bA, Option.some.injEq, Prod.mk.injEq] at hf; obtain ⟨rfl, rfl, rfl⟩ := hf
    exact wpIn_ret (k _ _ _ (pO.same hr ht hm))
  | goto l => simp only [bA] at hf; cases hf
  | refuse l => simp only [bA] at hf; cases hf
  | scope b =>
    simp only [bA] at hf; refine NW ?_; refine (iL aR b fr h e iO h' aZ hf ρ S w a nn _ hr ht hm hs fun cP w1 a1 p1 => ?_).wpIn; have hq := k _ _ _ p1
    cases e with
    | normal => exact hq
    | exit id => exact hq
    | ret => exact hq
  | seq x y =>
    simp only [bA] at hf; obtain ⟨UG, YV⟩ := aT (show (codeOk x && codeOk y) = true from aZ); refine wpIn_seq ?_; split at hf
    . rename_i fr1 h1 eD; refine (iL aR x fr h _ fr1 h1 UG eD ρ S w a nn _ hr ht hm hs fun cP w1 a1 p1 => ?_).wpIn; show y.wpIn (tZ ρ aR) nn P Q a1 w1; rw [<- TR hs p1.cC.agree]; exact (iL aR y fr1 h1 e iO h' YV hf cP _ w1 a1 nn Q p1.cC.hr p1.tmps p1.marks (fun l hl => .inl (hs l hl)) fun iS w2 a2 p2 => k _ _ _ (pO.trans (fr1 := fr1) (a1 := a1) p1.cC p2)).wpIn
    rename_i cA; refine (iL aR x fr h e iO h' UG hf ρ S w a nn _ hr ht hm hs fun cP w1 a1 p1 => ?_).wpIn; have hq := k _ _ _ p1
    cases e with
    | normal => exact (cA _ _ hf).elim
    | exit id => exact hq
    | ret => exact hq
  | cond x y z =>
    simp only [bA] at hf; obtain ⟨UG, YV⟩ := aT (show (codeOk y && codeOk z) = true from aZ); have bI := ht.eval a.defers x; split at hf
    . rename_i hx; rw [hx] at bI; exact wpIn_cond_true bI.vB (iL aR y fr h e iO h' UG hf ρ S w a nn Q hr ht hm hs k).wpIn
    . rename_i hx; rw [hx] at bI; exact wpIn_cond_false bI.vB (iL aR z fr h e iO h' YV hf ρ S w a nn Q hr ht hm hs k).wpIn
    cases hf
  | block id b =>
    simp only [bA] at hf; refine wpIn_block ?_; split at hf
    . rename_i xN fr1 h1 eD; refine (iL aR b fr h _ fr1 h1 aZ eD ρ S w a nn _ hr ht hm hs fun cP w1 a1 p1 => ?_).wpIn
      cases hb : Nat.beq xN id with
      | true =>
        rw [hb] at hf; simp only [cond_true, Option.some.injEq, Prod.mk.injEq] at hf; obtain ⟨rfl, rfl, rfl⟩ := hf; have := k _ _ _ p1; simp only [TQ, Exit.inBlock, bD hb, if_true]
        exact this
      | false =>
        rw [hb] at hf; simp only [cond_false, Option.some.injEq, Prod.mk.injEq] at hf; obtain ⟨rfl, rfl, rfl⟩ := hf; have := k _ _ _ p1; simp only [TQ, Exit.inBlock, if_neg (fP hb)]; exact this
    rename_i cA; refine (iL aR b fr h e iO h' aZ hf ρ S w a nn _ hr ht hm hs fun cP w1 a1 p1 => ?_).wpIn; have hq := k _ _ _ p1
    cases e with
    | normal => exact hq
    | exit xN => exact (cA _ _ _ hf).elim
    | ret => exact hq
  | loop b =>
    simp only [bA] at hf; show Code.roundsIn (tZ ρ aR) nn P b Q (m + 1) a w; rw [roundsIn_succ]; split at hf
    . rename_i fr1 h1 eD; refine (iL aR b fr h _ fr1 h1 aZ eD ρ S w a nn _ hr ht hm hs fun cP w1 a1 p1 => ?_).wpIn; show Code.roundsIn (tZ ρ aR) nn P b Q m a1 w1; rw [<- TR hs p1.cC.agree]; exact iL aR (.loop b) fr1 h1 e iO h' aZ hf cP _ w1 a1 nn Q p1.cC.hr p1.tmps p1.marks (fun l hl => .inl (hs l hl)) fun iS w2 a2 p2 => k _ _ _ (pO.trans (fr1 := fr1) (a1 := a1) p1.cC p2)
    rename_i cA; refine (iL aR b fr h e iO h' aZ hf ρ S w a nn _ hr ht hm hs fun cP w1 a1 p1 => ?_).wpIn; have hq := k _ _ _ p1
    cases e with
    | normal => exact (cA _ _ hf).elim
    | exit id => exact hq
    | ret => exact hq
  | region id ops draw =>
    cases draw with
    | false =>
      simp only [bA] at hf; split at hf
      . rename_i t h1 eD; simp only [Option.some.injEq, Prod.mk.injEq] at hf; obtain ⟨rfl, rfl, rfl⟩ := hf; refine wpIn_region ?_; exact QH (step := pF P (dL P orc rec) (eG rec)) rfl gX p7 _ _ ρ S w a fr.t h XX hr ht eD fun cP w1 a1 m1 CH CF => k _ _ _ ⟨m1, CH, by rw [CF]; exact hm.mono fun b hb => ⟨.inl hb, m1.agree b hb⟩⟩
      cases hf
    | true =>
      simp only [bA] at hf
      cases hl : xX ops with
      | false =>
        rw [hl] at hf; simp only [cond_false] at hf; split at hf
        . rename_i s eD; simp only [Option.some.injEq, Prod.mk.injEq] at hf; obtain ⟨rfl, rfl, rfl⟩ := hf; refine wpIn_region_draw fun t => ?_; rw [hP.mixed]; exact acG (call := dL P orc rec) (yield := eG rec) gX p7 aZ eD (hr.drew _) ht (fun cP w1 a1 m1 CH CF => k _ _ _ ⟨aO.tX m1, CH, by rw [CF]; exact hm.mono fun b hb => ⟨.inl hb, m1.agree b hb⟩⟩) t
        cases hf
      | true =>
        rw [hl] at hf; simp only [cond_true] at hf; split at hf
        . rename_i s eD; simp only [Option.some.injEq, Prod.mk.injEq] at hf; obtain ⟨rfl, rfl, rfl⟩ := hf; refine wpIn_region_draw fun t => ?_; rw [hP.mixed]; exact YU (call := dL P orc rec) (yield := eG rec) gX p7 aZ eD (hr.drew _) ht (fun cP w1 a1 m1 CH CF => k _ _ _ ⟨aO.tX m1, CH, by rw [CF]; exact hm.mono fun b hb => ⟨.inl hb, m1.agree b hb⟩⟩) t
        cases hf
  | rangeFunc g ps assign body =>
    simp only [bA] at hf; obtain ⟨UG, YV⟩ := aT (show (codeOk assign && codeOk body) = true from aZ); exact ER hP iL UG YV hf hr ht hm hs k
theorem GS (hP : k9 P) {orc : FuncId -> List Value -> Heap -> Option (Value × Heap)} (jY : cB P B w0 orc) : ∀ m, oF P B w0 m (cX P orc m)
  | 0 => fun aR c fr h e iO h' _ hf => by cases hf
  | m + 1 => GR hP jY (GS hP jY m)
end Go.Fs
namespace Go.Fs
open Go.RowKit (Below)
variable {P : Program}
theorem agC (hP : k9 P) {B : Nat} {w0 w : World} {orc : FuncId -> List Value -> Heap -> Option (Value × Heap)} (jY : cB P B w0 orc) {ρ : Ren} {S : Nat -> Prop} {h : Heap} {f : FuncId} {args args' : List Value} {v : Value}
    (hE : Enters P f) (hr : HR P ρ S B w0 h w) (ha : LR ρ S args args') (he : nP P orc f args h fun u _ => u = v) (hv : af v = true) : Calls P f args'.toArray w fun | .returned v', w' => v' = v /\ Below B w0 w' | _, _ => False := by
  obtain ⟨m, u, h', h1, rfl⟩ := he
  have hc : CallsIn Fence.wide 0 P f args'.toArray w (xK P B w0 ρ S h w u h') := by
    rcases yN hP jY (GS hP jY m) f args h u h' h1 with h2 | h2
    . exact h2.2 ρ S w args' hr ha 0
    obtain ⟨w', v', h3, _⟩ := h2 ρ S w args' hr ha; rw [uP hE] at h3; simp at h3
  refine Calls.mono (callsIn_wide.1 hc) fun e w' he => ?_
  cases e with
  | returned v' =>
    obtain ⟨bG, m1, KF⟩ := he
    exact ⟨KF.dD hv, m1.hr.below⟩
  | panicked c => exact he.elim
  | outgrown => exact he.elim
end Go.Fs
namespace Go.Fs
open Go.RowKit (Below)
variable {P : Program}
def xM : Nat -> Nat -> List UInt8
  | 0, _ => []
  | f + 1, n => bif Nat.blt n 10 then [UInt8.ofNat (48 + n)] else xM f (n / 10) ++ [UInt8.ofNat (48 + n % 10)]
def yO (n : Int) : List UInt8 := match n with
  | .ofNat k => xM 20 k
  | .negSucc k => 45 :: xM 20 (k + 1)
def agD (sep : List UInt8) : List (List UInt8) -> List UInt8
  | [] => []
  | [w] => w
  | w :: r => w ++ sep ++ agD sep r
def strs : List Value -> Option (List ByteArray)
  | [] => some []
  | .string s :: r => (strs r).map (s :: ·)
  | _ => none
theorem LF : ∀ (f n : Nat), n < 10 ^ (f + 1) -> xM (f + 1) n = Lib.decDigits n
  | f, n, h => by
    unfold xM Lib.decDigits
    cases hb : Nat.blt n 10 with
    | true => rw [dif_pos (iH hb)]; rfl
    | false =>
      have h1 : ¬ n < 10 := by have := gI hb; omega
      rw [dif_neg h1]; simp only [cond_false]
      cases f with
      | zero => simp at h; omega
      | succ f => rw [LF f (n / 10) (by rw [Nat.pow_succ] at h; omega)]
theorem acP {n : Int} (h0 : -1000000000000000000 < n) (h1 : n < 1000000000000000000) : yO n = Lib.itoa n := by
  unfold Lib.itoa
  cases n with
  | ofNat k =>
    rw [if_neg (by simp)]; show xM 20 k = _; rw [LF 19 k (by have : (k : Int) < 1000000000000000000 := h1; have : (10 : Nat) ^ (19 + 1) = 100000000000000000000 := (by decide); omega)]
    rfl
  | negSucc k =>
    rw [if_pos (by omega)]; show 45 :: xM 20 (k + 1) = _; rw [LF 19 (k + 1) (by have h2 : -1000000000000000000 < Int.negSucc k := h0; have : (10 : Nat) ^ (19 + 1) = 100000000000000000000 := (by decide); omega)]; rfl
def LG (fi fj : FuncId) : FuncId -> List Value -> Heap -> Option (Value × Heap) := fun f xs h =>
  bif Nat.beq f fi then
    match xs with
    | [.int .i64 n] => bif decide (-1000000000000000000 < n) && decide (n < 1000000000000000000) then some (.string ⟨(yO n).toArray⟩, h) else none
    | _ => none
  else bif Nat.beq f fj then
    match xs with
    | [.slice (some ⟨b, o, none⟩) n _, .string sep] =>
      match h.get b with
      | some (.row _ cs _ _) =>
        bif Nat.ble (o + n) cs.length && Nat.ble n 1000000 then
          match strs ((cs.drop o).take n) with
          | some ss => let r := agD sep.data.toList (ss.map (·.data.toList))
            bif Nat.ble r.length 1000000000 then some (.string ⟨r.toArray⟩, h) else none
          | none => none
        else none
      | _ => none
    | _ => none
  else none
variable {B : Nat} {w0 w w' : World} {ρ : Ren} {S : Nat -> Prop} {h : Heap}
end Go.Fs
namespace Go.Fs
open Go.RowKit (Below)
variable {P : Program}
def ab5 (fi fj fa : FuncId) : FuncId -> List Value -> Heap -> Option (Value × Heap) := fun f xs h =>
  bif Nat.beq f fa then
    match xs with
    | [] => some (.bool true, h)
    | _ => none
  else LG fi fj f xs h
theorem UH {B : Nat} {w0 : World} {fi fj fa : FuncId} (hz : w0.drawn = 0) (hS : cB P B w0 (LG fi fj)) (ha : Enters P fa)
    (hA : ∀ w, Below B w0 w -> Calls P fa #[] w fun | .returned v', w' => v' = .bool true /\ Below w.heap.size w w' | _, _ => False) : cB P B w0 (ab5 fi fj fa) := by
  intro f xs h v h' hf; unfold ab5 at hf
  cases hb : Nat.beq f fa with
  | true =>
    have := bD hb; subst this; rw [hb] at hf; simp only [cond_true] at hf; split at hf
    . simp only [Option.some.injEq, Prod.mk.injEq] at hf; obtain ⟨rfl, rfl⟩ := hf; refine ⟨ha, fun ρ S w args' hr har nn => ?_⟩; have he : args' = [] := List.eq_nil_of_length_eq_zero har.1.symm; subst he; have hC : CallsIn Fence.wide nn P f #[] w _ := callsIn_wide.2 (hA w hr.below); refine hC.mono fun e w' nX => ?_
      cases e with
      | returned v' =>
        obtain ⟨rfl, hb⟩ := nX
        exact ⟨ρ, aO.B4 hr hb (by rw [hz]; exact Nat.zero_le _), .lit rfl⟩
      | panicked c => exact nX.elim
      | outgrown => exact nX.elim
    cases hf
  | false =>
    rw [hb] at hf; exact hS f xs h v h' hf
end Go.Fs
namespace Go.Fs
variable {P : Program} {fl : VL} {σ γ : aM} {Q : PV -> aM -> Prop} {fn : Func}
variable {p q r : ByteArray}
variable {x y : Operand} {T T' : TypeId}
end Go.Fs
namespace Go.Fs
variable {P : Program} {orc : FuncId -> List Value -> Heap -> Option (Value × Heap)} {aR : Option Nat} {h h' h0 h1 h2 : Heap} {S S' S0 : List Nat} {σ σ' : aM} {t t' : Tr} {ms : List Nat} {fl : VL} {ops : Array Oper} {n i mem : Nat} {l : List Oper} {K : VL -> aM -> Prop}
  {d : Tmp} {ty : TypeId} {pos : String} {after : Array Edge} {op : Op} {v pv : PV} {g : Option (Nat × Bool)} {x y z : Operand} {T T' e : TypeId} {τ τ' : Ty}
inductive FnL : List PV -> List PV -> Prop where
  | nil : FnL [] []
  | same {p : PV} {l l' : List PV} (hl : FnL l l') : FnL (p :: l) (p :: l')
  | fn {f : FuncId} {l l' : List PV} (hl : FnL l l') : FnL (.mR f [] [] :: l) (.v .fn (some f) :: l')
end Go.Fs
namespace Go.Fs
variable {P : Program} {orc : FuncId -> List Value -> Heap -> Option (Value × Heap)} {aR : Option Nat} {h h' h0 h1 h2 hr : Heap} {S S' S0 B G A : List Nat} {σ σ' j8 ρ : aM} {t t' : Tr} {ms : List Nat} {fl : VL} {ops : Array Oper} {n i mem : Nat} {l : List Oper} {K : VL -> aM -> Prop} {Q : Ex -> VL -> aM -> Prop}
  {d : Tmp} {ty : TypeId} {pos : String} {after : Array Edge} {op : Op} {v pv : PV} {g : Option (Nat × Bool)} {x y z : Operand} {T T' e : TypeId} {τ τ' : Ty} {bs nw rd chg : List Nat} {segs : List (Nat × Nat × Nat)} {tail tl : Bool} {w w' : Value}
section
variable (P orc)
def vP (hr : Heap) (ops : Array Oper) (n : Nat) (l : List Oper) (i : Nat) (x : uL) (Q : uL -> Prop) : Prop := ∃ m x', iU P hr (kZ P orc m) ops n l i x = some x' /\ Q x'
end
theorem vP.nil {x : uL} {QL : uL -> Prop} (hq : QL x) : vP P orc hr ops n [] i x QL := ⟨0, x, rfl, hq⟩
theorem vP.RA {o : Oper} {x x' : uL} {QL : uL -> Prop} (hs : fC P hr (fJ P) ops n o i x = some x') (hl : vP P orc hr ops n l (i + 1) x' QL) : vP P orc hr ops n (o :: l) i x QL := by
  obtain ⟨m, s2, hf, hq⟩ := hl; refine ⟨m, s2, ?_, hq⟩; simp only [iU, xY (zK m) E7 hs]; exact hf
def yP : Op -> Bool
  | .load .. => true
  | .call { callee := .builtin .len, .. } => true
  | .slice .. => true
  | .convert .. => true
  | _ => false
theorem F1 {ev : Operand -> Value} {nx : Nat} (hq : yP op = false) : oE P hr op ev nx = none := by
  unfold oE; split
  . cases hq
  . cases hq
  . cases hq
  . cases hq
  rfl
theorem vP.call {o : Oper} {s : cM} {c : Call} {f : Operand} {gf : FuncId} {a b : Array Value} {QL : uL -> Prop} (hw : b9 ops s.t o = some true) (ho : o.op = .call c) (hc : c.callee = .value f) (hf : aA s.t f = .func (.func gf) a b)
    (fU : Nat.beq (s.mem &&& aJ s.bs o) s.mem = true)
    (hl : nP P orc gf (a.toList ++ c.args.toList.map (aA s.t) ++ b.toList) (entry s.h) fun v h' => Nat.blt h'.next s.h.next = false /\ Nat.ble s.h.next h'.low = true /\
      ∃ t', put n s.t o.dst v = some t' /\ vP P orc hr ops n l (i + 1) (jI o i s t' h', rd, chg) QL) : vP P orc hr ops n (o :: l) i (s, rd, chg) QL := by
  obtain ⟨m, v, h1, hf1, fH, oZ, t1, hp, k, s2, l3, hq⟩ := hl; refine ⟨max m k, s2, ?_, hq⟩; have h3 := A9.v8 (P := P) (orc := orc) (Nat.le_max_left m k) _ _ _ _ hf1
  have qG : calm o.op = false := by rw [ho]; obtain ⟨cl, as_, lR⟩ := c; obtain rfl : cl = .value f := hc; rfl
  have QW : yP o.op = false := by
    rw [ho]; obtain ⟨cal, args, lR⟩ := c; simp only at hc; subst hc; rfl
  have hd : fC P hr (kZ P orc (max m k)) ops n o i (s, rd, chg) = some (jI o i s t1 h1, rd, chg) := by
    unfold fC; simp only [hw, qG, Bool.false_eq_true, if_false, F1 QW]; unfold pG; simp only [fU, Bool.not_true, Bool.and_false, cond_false, cond_true]; rw [sG ho hc hf]; unfold entry at h3; rw [h3]; simp only [fH, cond_false, hp, oZ, cond_true]; unfold jI; simp only [oZ, cond_true]
  simp only [iU, hd]; exact rP (wI (Nat.le_max_right m k)) E7 _ _ _ _ l3
theorem iP.late {id : Nat} {fr : Fr} {QC : Ex -> Fr -> Heap -> Prop} (hl : xX ops = true) (q7 : wG ops = false) (ho : vP P orc h ops fr.n ops.toList 0 (⟨fr.t, h, [], [], 0, false⟩, [], []) fun x => C6 x = true /\ QC .normal { t := x.1.t, n := fr.n, marks := fr.marks } x.1.h) : iP P orc aR (.region id ops true) fr h QC := by
  obtain ⟨m, x, hf, ha, hq⟩ := ho; refine ⟨m + 1, .normal, _, _, ?_, hq⟩; show bA P orc (cX P orc m) aR (.region id ops true) fr h = _; unfold kZ at hf; simp only [bA, hl, cond_true, sD, q7, cond_false, hf, ha]
structure rZ (hr h : Heap) (S0 A : List Nat) (σ ρ : aM) (t : Tr) (fl : VL) (nw rd chg : List Nat) : Prop where
  ok : nY hr
  lt : TX hr (A ++ S0)
  next : hr.next <= h.next
  goes : dC hr (A ++ S0) h (own σ ++ S0)
  aH : ∀ k pv, kN fl k = some pv -> nK nw k = false -> aI hr (A ++ S0) pv (t.get k)
  suf : ∃ xQ, σ = xQ ++ ρ
  cells : ∀ c ∈ ρ, bL hr (A ++ S0) c.1 c.2
  fix : ∀ b ∈ own ρ, b ∈ A
  new : ∀ b ∈ own σ, b ∈ A \/ hr.next <= b
  rd : ∀ b ∈ rd, b < hr.next /\ (b ∈ own ρ \/ b ∉ A)
  chg : ∀ k ∈ chg, k ∉ own ρ /\ (k ∈ A \/ hr.next <= k)
section
variable (P orc)
def kH (ops : Array Oper) (n : Nat) (l : List Oper) (i : Nat) (fl : VL) (nw : List Nat) (σ ρ : aM) (bs : List Nat) (mem : Nat) (tl : Bool) (K : VL -> aM -> Prop) : Prop :=
  ∀ (hr h0 : Heap) (G S0 A : List Nat) (t : Tr) (h : Heap) (ms rd chg : List Nat) (segs : List (Nat × Nat × Nat)) (tail : Bool), (tl = false -> tail = false) -> Iv h0 G S0 h σ t ms fl -> rZ hr h S0 A σ ρ t fl nw rd chg ->
    vP P orc hr ops n l i (⟨t, h, bs, segs, mem, tail⟩, rd, chg) fun x => C6 x = true /\ ∃ dJ σ', Iv h0 G S0 x.1.h σ' x.1.t ms dJ /\ K dJ σ'
end
theorem U.late {id : Nat} {ops : Array Oper} (ρ : aM) (hs : ∃ xQ, σ = xQ ++ ρ) (hx : kH P orc ops n ops.toList 0 fl [] σ ρ [] 0 false fun dJ σ' => Q .normal dJ σ') (hl : xX ops = true := by kernel_rfl) (q7 : wG ops = false := by kernel_rfl) : U P orc aR (.region id ops true) n fl σ Q := fun h0 G S0 t h ms I => by
  refine iP.late hl q7 ?_; have hA := I.lc.lt
  have ar9 : ∀ b ∈ own ρ, b ∈ own σ := fun b hb => by
    obtain ⟨xQ, rfl⟩ := hs; rw [cQ]; exact List.mem_append_right _ hb
  obtain ⟨m, x, h1, ha, dJ, σ', h2, h3⟩ := hx h h0 G S0 (own σ) t h ms [] [] [] false (fun _ => rfl) I
    { ok := I.ok, lt := I.aH.1.slt I.ok hA, next := Nat.le_refl _, goes := fun b o hg hb => ⟨hg, hb⟩, aH := fun k pv hk _ => I.aH k pv hk, suf := hs,
      cells := fun c hc => I.cells c (by obtain ⟨xQ, rfl⟩ := hs; exact List.mem_append_right _ hc), fix := ar9, new := fun b hb => .inl hb, rd := fun b hb => (by cases hb), chg := fun k hk => (by cases hk) }
  exact ⟨m, x, h1, ha, rfl, dJ, σ', h2, h3⟩
theorem kH.nil (hk : K fl σ) : kH P orc ops n [] i fl nw σ ρ bs mem tl K := fun hr h0 G S0 A t h ms rd chg segs tail ht I L => by
  refine vP.nil ⟨?_, fl, σ, I, hk⟩; refine List.all_eq_true.2 fun b hb => List.all_eq_true.2 fun k hk => ?_; obtain ⟨r1, r2⟩ := L.rd b hb; obtain ⟨c1, c2⟩ := L.chg k hk
  have cA : b ≠ k := by
    intro e; subst e; rcases r2 with r2 | r2
    . exact c1 r2
    rcases c2 with c2 | c2
    . exact r2 c2
    omega
  rw [dO cA]; rfl
theorem kH.go {b : Code} (hx : U P orc aR b n fl σ Q) : kH P orc ops n [] i fl nw σ ρ bs mem tl fun fl σ => KO P orc aR n b Q .normal fl σ := kH.nil hx
theorem rZ.set {u : Value} {old : Bool} (L : rZ hr h S0 A σ ρ t fl nw rd chg) (hd : d < 4000) (hu : old = true -> aI hr (A ++ S0) v u) : rZ hr h S0 A σ ρ (t.set depth d u) ((d, v) :: fl) (fG old d nw) rd chg :=
  { L with
    aH := fun k pv hk hn => by
      rw [vH t d u k hd]; simp only [kN] at hk
      cases hb : Nat.beq d k with
      | true =>
        rw [hb] at hk; simp only [cond_true, Option.some.injEq] at hk; subst hk; rw [if_pos (bD hb).symm]
        cases old with
        | true => exact hu rfl
        | false =>
          simp only [fG, cond_false, nK, hb, cond_true] at hn
          cases hn
      | false =>
        rw [hb] at hk; simp only [cond_false] at hk; have cA := fP hb; rw [if_neg (Ne.symm cA)]; refine L.aH k pv hk ?_
        cases old with
        | true => rw [fG, cond_true, o3 (Ne.symm cA)] at hn; exact hn
        | false => simpa only [fG, cond_false, nK, hb] using hn }
theorem rZ.read (L : rZ hr h S0 A σ ρ t fl nw rd chg) {b : Nat} (hb : b < hr.next /\ (b ∈ own ρ \/ b ∉ A)) : rZ hr h S0 A σ ρ t fl nw (b :: rd) chg :=
  { L with
    rd := fun k hk => by
      rcases List.mem_cons.1 hk with rfl | hk
      . exact hb
      exact L.rd k hk }
theorem rZ.made (L : rZ hr h S0 A σ ρ t fl nw rd chg) (I : Iv h0 G S0 h σ t ms fl) (m : Made S0 h h' σ σ') (hs : ∃ xQ, σ' = xQ ++ ρ) : rZ hr h' S0 A σ' ρ t fl nw rd chg :=
  { L with
    next := Nat.le_trans L.next m.lH.next
    goes := L.goes.trans (I.goes (fun _ hb => hb) m.lH m.new)
    suf := hs
    new := fun b hb => by
      rcases m.new b hb with h3 | h3
      . exact L.new b h3
      have := L.next
      exact .inr (by omega) }
theorem kH.c {b : Nat} (hc : aF P fl [] op v) (hk : kH P orc ops n l (i + 1) ((d, v) :: fl) (fG (EV nw op || v.jA) d nw) σ ρ (bs ++ [b]) mem tl K)
    (hb : aJ bs ⟨some d, op, ty, pos, after, g⟩ = b := by rfl) (hw : cV ops fl g = some true := by rfl) (hn : (Nat.blt d n && Nat.ble n 4000) = true := by rfl) :
    kH P orc ops n (⟨some d, op, ty, pos, after, g⟩ :: l) i fl nw σ ρ bs mem tl K := fun hr h0 G S0 A t h ms rd chg segs tail ht I L => by
  obtain ⟨n1, n2⟩ := fits hn; obtain ⟨u, e1, e2⟩ := hc.2 h (own σ ++ S0) t I.aH.rG (fun _ hc => by cases hc); refine vP.RA (x' := (⟨t.set depth d u, h, bs ++ [b], segs, mem, tail⟩, rd, chg)) ?_ (hk hr h0 G S0 A _ h ms rd chg segs tail ht (I.set e1 n2) (L.set n2 fun hold => ?_))
  . unfold fC; have sJ : b9 ops t ⟨some d, op, ty, pos, after, g⟩ = some true := cE I.aH hw; simp only [sJ, hc.1, if_true, e2, Nat.beq_refl, cond_true, bN n1, Option.map_some, hb]
  rcases Bool.or_eq_true_iff.1 hold with hold | hold
  . obtain ⟨u', f1, f2⟩ := hc.2 hr (A ++ S0) t (zS L.aH hold) (fun _ hc => by cases hc)
    have : u' = u := by
      have g1 := e2 none 0 "" #[] none h; rw [f2 none 0 "" #[] none h] at g1; simpa using g1
    rw [<- this]; exact f1
  exact (aI.jA hold e1).2 _ _
theorem YW {b o : Nat} {ob : aU} {H : Heap} {nx : Nat} {u : Value} (hg : H.get b = some ob) (hv : eE P T (.pointer (some ⟨b, o, none⟩)) H = some u) : eE P T (.pointer (some ⟨b, o, none⟩)) { next := nx, low := nx, aB := [(b, ob)] } = some u := by
  unfold eE at hv ⊢; simp only at hv ⊢
  have : Heap.get { next := nx, low := nx, aB := [(b, ob)] } b = some ob := by
    show look [(b, ob)] b = some ob; simp [look]
  rw [this]; rw [hg] at hv; exact hv
theorem UI {b o n' mk : Nat} {lo hi mx : Option Value} {ob : aU} {H : Heap} {nx : Nat} (hg : H.get b = some ob) : bV P T (.slice (some ⟨b, o, none⟩) n' mk) lo hi mx { next := nx, low := nx, aB := [(b, ob)] } = bV P T (.slice (some ⟨b, o, none⟩) n' mk) lo hi mx H := by
  have e : Heap.get { next := nx, low := nx, aB := [(b, ob)] } b = H.get b := by
    rw [hg]; show look [(b, ob)] b = some ob; simp [look]
  unfold bV mA; simp only [e]
def agE (fl : VL) (z : Operand) : Bool := match aQ fl z with
  | some pv => pv.jA
  | none => true
theorem kH.sl {b : Nat} {xs : List τ.den} {lo hi mx : Option Operand} (hx : aQ fl x = some (.v (.sl τ) xs)) (hc : dV P fl [] (.slice T x lo hi mx) v) (hk : kH P orc ops n l (i + 1) ((d, v) :: fl) (fG true d nw) σ ρ (bs ++ [b]) mem tl K)
    (hfo : ((lo.toList ++ hi.toList ++ mx.toList).all (agE fl)) = true := by rfl) (hb : aJ bs ⟨some d, .slice T x lo hi mx, ty, pos, after, g⟩ = b := by rfl) (hold : EV nw (.slice T x lo hi mx) = true := by rfl) (hw : cV ops fl g = some true := by rfl) (hn : (Nat.blt d n && Nat.ble n 4000) = true := by rfl) :
    kH P orc ops n (⟨some d, .slice T x lo hi mx, ty, pos, after, g⟩ :: l) i fl nw σ ρ bs mem tl K := fun hr h0 G S0 A t h ms rd chg segs tail ht I L => by
  obtain ⟨n1, n2⟩ := fits hn; have agF : AS hr (A ++ S0) t fl (.slice T x lo hi mx) := zS L.aH hold; have sJ : b9 ops t ⟨some d, .slice T x lo hi mx, ty, pos, after, g⟩ = some true := cE I.aH hw; have x7 := aE.sl (agF x (by simp [Op.operands]) _ hx : aE hr (A ++ S0) (.sl τ) (aA t x) xs)
  have y7 : ∀ {u : Value} {r : List Nat}, oE P hr (.slice T x lo hi mx) (aA t) h.next = some (u, r) -> aI hr (A ++ S0) v u -> rZ hr h S0 A σ ρ (t.set depth d u) ((d, v) :: fl) (fG true d nw) (r ++ rd) chg ->
      vP P orc hr ops n (⟨some d, .slice T x lo hi mx, ty, pos, after, g⟩ :: l) i (⟨t, h, bs, segs, mem, tail⟩, rd, chg) fun x' => C6 x' = true /\ ∃ dJ σ', Iv h0 G S0 x'.1.h σ' x'.1.t ms dJ /\ K dJ σ' := fun {u r} hq e1 hL => by
    refine vP.RA (x' := (⟨t.set depth d u, h, bs ++ [b], segs, mem, tail⟩, r ++ rd, chg)) ?_ (hk hr h0 G S0 A _ h ms _ chg segs tail ht (I.set (e1.nx L.goes) n2) hL); unfold fC; simp only [sJ, show calm (Op.slice T x lo hi mx) = false from rfl, Bool.false_eq_true, if_false, hq, bN n1, Option.map_some, hb]
  cases xs with
  | nil =>
    have arA : aI { next := h.next, low := h.next, aB := [] } (A ++ S0) (.v (.sl τ) []) (aA t x) := by
      rcases x7 with ⟨hu, _⟩ | ⟨bl, o, mk, hu, _⟩
      . exact (show kE _ (A ++ S0) τ (aA t x) [] from .inl ⟨hu, rfl⟩).rep
      exact (show kE _ (A ++ S0) τ (aA t x) [] from .inr ⟨bl, o, mk, hu, .inl rfl⟩).rep
    have ao2 : AS { next := h.next, low := h.next, aB := [] } (A ++ S0) t fl (.slice T x lo hi mx) := fun z hz pv hp => by
      rcases List.mem_cons.1 (show z ∈ x :: (lo.toList ++ hi.toList ++ mx.toList) by simpa [Op.operands] using hz) with rfl | hz'
      . rw [hx] at hp; obtain rfl := Option.some.inj hp; exact arA
      have hf := List.all_eq_true.1 hfo z hz'; unfold agE at hf; rw [hp] at hf; exact (aI.jA hf (agF z hz pv hp)).2 _ _
    obtain ⟨u, e1, e2⟩ := hc.2 { next := h.next, low := h.next, aB := [] } (A ++ S0) t ao2 (fun _ hc => by cases hc); have cO := e2 { next := h.next, low := h.next, aB := [] } (fun _ _ hg => hg) none 0 "" #[] none; have h5 : (bV P T (aA t x) (lo.map (aA t)) (hi.map (aA t)) (mx.map (aA t)) { next := h.next, low := h.next, aB := [] }).map (fun v => (v, ({ next := h.next, low := h.next, aB := [] } : Heap))) = some (u, { next := h.next, low := h.next, aB := [] }) := cO; obtain ⟨v', h6, h7⟩ := Option.map_eq_some_iff.1 h5; simp only [Prod.mk.injEq, and_true] at h7; subst h7
    have e3 : aI hr (A ++ S0) v v' := e1.nx fun b o hg hb => by cases hg
    refine y7 (r := []) ?_ e3 (L.set (old := true) n2 fun _ => e3); rcases x7 with ⟨hu, _⟩ | ⟨bl, o, mk, hu, _⟩
    . rw [hu] at h6; simp only [oE, hu, h6, Option.map_some]
    have wK : aA t x = .slice (some ⟨bl, o, none⟩) 0 mk := hu; rw [wK] at h6
    simp only [oE, wK, h6, Option.map_some]
  | cons y ys =>
    rcases x7 with ⟨_, TJ⟩ | ⟨bl, o, mk, hu, TJ | ⟨hS, e', rs, arB, more, hg, _⟩⟩
    . cases TJ
    . cases TJ
    obtain ⟨u, e1, e2⟩ := hc.2 hr (A ++ S0) t agF (fun _ hc => by cases hc); have cO := e2 hr (fun _ _ hg => hg) none 0 "" #[] none; have h5 : (bV P T (aA t x) (lo.map (aA t)) (hi.map (aA t)) (mx.map (aA t)) hr).map (fun v => (v, hr)) = some (u, hr) := cO; obtain ⟨v', h6, h7⟩ := Option.map_eq_some_iff.1 h5; simp only [Prod.mk.injEq, and_true] at h7; subst h7; have bX := L.ok bl _ hg; refine y7 (r := [bl]) ?_ e1 ((L.set (old := true) n2 fun _ => e1).read ⟨bX, .inr fun hm => hS (List.mem_append_left _ hm)⟩)
    have wX : Nat.blt bl hr.next = true := by rw [Nat.blt_eq]; exact bX
    have wK : aA t x = .slice (some ⟨bl, o, none⟩) (ys.length + 1) mk := hu; rw [wK] at h6; simp only [oE, wK, hg, wX, cond_true, UI hg, h6, Option.map_some]
theorem YX {b : Nat} {o : Oper} {u : Value} {t2 : Tr} (hb : aJ bs o = b) (hp : put n t o.dst u = some t2) (qG : calm o.op = false) (QW : yP o.op = false) (hw : b9 ops t o = some true) (fU : Nat.beq (mem &&& b) mem = true) (aZ : nY h) (cO : fJ P o (aA t) (entry h) = some (u, h')) (hB : cK (entry h) h' B)
    (htu : h.next <= h'.low \/ ∃ k, sB o.op (aA t) = some k) :
    ∃ h2 iE D5, fC P hr (fJ P) ops n o i (⟨t, h, bs, segs, mem, tail⟩, rd, chg) = some (⟨t2, h2, bs ++ [b], (i, h.next, h'.next) :: segs, mem ||| 2 ^ i, iE⟩, rd, D5) /\ (∀ b, h2.get b = h'.get b) /\ h2.next = h'.next /\ cK h h2 B /\ ((D5 = chg /\ iE = tail) \/ ∃ k, sB o.op (aA t) = some k /\ ¬ h.next <= h'.low /\ D5 = k :: chg) := by
  have fH := hB.next; have agA : Nat.blt h'.next h.next = false := l5 fH; unfold fC; simp only [hw, qG, Bool.false_eq_true, if_false, F1 QW]; unfold pG; simp only [hb, fU, Bool.not_true, Bool.and_false, cond_false, cond_true]; unfold entry at cO; rw [cO]; simp only [agA, cond_false, hp]
  cases dN : Nat.ble h.next h'.low with
  | true =>
    have hl := eP dN
    have gA : ∀ b, b < h.next -> h'.get b = h.get b := fun b hb => by
      rcases hB.chg b hb with h3 | h3
      . exact h3
      omega
    have fK : ∀ b, look (bE h.next h'.next h'.aB ++ h.aB) b = h'.get b := fun b => by
      rw [iB]; by_cases hb : b < h.next
      . cases iR : look (bE h.next h'.next h'.aB) b with
        | some o => have := (dS _ _ _ iR).1; omega
        | none => exact (gA b hb).symm
      have hold : look h.aB b = none := by
        cases iR : look h.aB b with
        | none => rfl
        | some o => exact absurd (aZ b o iR) hb
      rw [hold, Option.or_none]
      cases iR : look h'.aB b with
      | some o =>
        have : b < h'.next := hB.ok aZ b o iR; rw [zP _ _ (by omega) this, iR]
        exact iR.symm
      | none =>
        cases hl3 : look (bE h.next h'.next h'.aB) b with
        | none => exact iR.symm
        | some o => rw [(dS _ _ _ hl3).2] at iR; cases iR
    refine ⟨_, _, _, rfl, fK, rfl, ⟨fH, fun b hb hn => (fK b).trans (hB.get b hb hn), fun _ b o hg => ?_, fun e h3 _ _ => h3, fun b hb => .inl ((fK b).trans (gA b hb)), Nat.le_refl _⟩, .inl ⟨rfl, rfl⟩⟩
    exact hB.ok aZ b o ((fK b).symm.trans hg)
  | false =>
    rcases htu with htu | ⟨k, htu⟩
    . have : Nat.ble h.next h'.low = true := by rw [Nat.ble_eq]; exact htu
      rw [this] at dN; cases dN
    simp only [htu, cond_false, cond_true]; refine ⟨_, _, _, rfl, fun _ => rfl, rfl, ⟨fH, hB.get, fun _ => hB.ok aZ, fun e h3 h4 h5 => Nat.le_min.2 ⟨h3, hB.low e h4 h4 h5⟩, fun b hb => ?_, Nat.min_le_left _ _⟩, .inr ⟨k, rfl, fun hle => (by have e : Nat.ble h.next h'.low = true := (by rw [Nat.ble_eq]; exact hle); rw [e] at dN; cases dN), rfl⟩⟩; rcases hB.chg b hb with h3 | h3
    . exact .inl h3
    exact .inr (Nat.le_trans (Nat.min_le_right _ _) h3)
def RB (P : Program) (fl : VL) (op : Op) (w : Value) (c : Cell) : Prop := yP op = false /\ ∀ (h h' : Heap) (S : List Nat) (t : Tr) (u : Value) (d : Option Tmp) (ty : TypeId) (pos : String) (after : Array Edge) (g : Option (Nat × Bool)), AS h S t fl op -> bL h S w c -> fJ P ⟨d, op, ty, pos, after, g⟩ (aA t) h = some (u, h') ->
  (∀ k, sB op (aA t) = some k -> k ∈ cD w) /\ (h.low <= h'.low \/ ∃ k, sB op (aA t) = some k)
theorem RB.store {q : Value} {cs : List PV} (hx : aQ fl x = some (.raw q)) (hq : q = w \/ ∃ k, q = kF w k) : RB P fl (.store T x y) w (.var cs) := ⟨rfl, fun h h' S t u d ty pos after g hs hc _ => by
  have hxq : aA t x = q := (hs x (by simp [Op.operands]) _ hx : aI _ _ (.raw q) _); obtain ⟨b0, e', vs, h1, h2, h3, h4, h5⟩ := hc
  obtain ⟨o0, hqb⟩ : ∃ o0, q = .pointer (some ⟨b0, o0, none⟩) := by
    rcases hq with hq | ⟨k, hq⟩
    . exact ⟨0, hq.trans h1⟩
    exact ⟨0 + k, by rw [hq, h1]; rfl⟩
  have ht : sB (.store T x y) (aA t) = some b0 := by simp only [sB, hxq, hqb]
  refine ⟨fun k hk => ?_, .inr ⟨b0, ht⟩⟩; rw [ht] at hk; obtain rfl := Option.some.inj hk
  rw [h1]; exact List.mem_cons_self⟩
def rU : Value -> Option Nat
  | .slice (some ⟨b, _, none⟩) _ _ => some b
  | _ => none
theorem rZ.arC {c : Cell} (L : rZ hr h S0 A ((w, c) :: j8) ρ t fl nw rd chg) (p8 : (own ((w, c) :: j8)).Nodup) (hs : ∃ xQ, j8 = xQ ++ ρ) {k : Nat} (hk : k ∈ cD w) : rZ hr h S0 A ((w, c) :: j8) ρ t fl nw rd (k :: chg) :=
  { L with
    chg := fun j hj => by
      rcases List.mem_cons.1 hj with rfl | hj
      . rw [b7] at p8; refine ⟨fun hm => (List.nodup_append.1 p8).2.2 j hk j ?_ rfl, L.new j (by rw [b7]; exact List.mem_append_left _ hk)⟩; obtain ⟨xQ, rfl⟩ := hs; rw [cQ]; exact List.mem_append_right _ hm
      exact L.chg j hj }
theorem kH.AH {c : Cell} {b : Nat} {Tt : PV -> aM -> Prop} (hs : bO P fl ((w, c) :: j8) op Tt) (hT : RB P fl op w c) (hρ : ∃ xQ, j8 = xQ ++ ρ) (hk : ∀ v σ', Tt v σ' -> (∃ xQ, σ' = xQ ++ ρ) /\ kH P orc ops n l (i + 1) fl nw σ' ρ (bs ++ [b]) (mem ||| 2 ^ i) true K)
    (hb : aJ bs ⟨none, op, ty, pos, after, g⟩ = b := by rfl) (fU : Nat.beq (mem &&& b) mem = true := by rfl) (hw : cV ops fl g = some true := by rfl) :
    kH P orc ops n (⟨none, op, ty, pos, after, g⟩ :: l) i fl nw ((w, c) :: j8) ρ bs mem tl K := fun hr h0 G S0 A t h ms rd chg segs tail ht I L => by
  have Le := I.lc.aB (h' := entry h) (fun _ => rfl) rfl; obtain ⟨u, h', v, σ', e1, e2, e3, e4⟩ := hs.2 S0 (entry h) t Le; have cO := e4 none ty pos after g; obtain ⟨t1, t2⟩ := hT.2 (entry h) h' _ t u _ _ _ _ _ Le.aH.rG (Le.cells _ List.mem_cons_self) cO; obtain ⟨h2, iE, D5, f1, f2, f3, f4, f5⟩ := YX (n := n) (hr := hr) (rd := rd) (chg := chg) (i := i) (segs := segs) (tail := tail) (o := ⟨none, op, ty, pos, after, g⟩) hb (OM n t u) hs.1 hT.1 (cE I.aH hw) fU I.ok cO e2.lH t2; have m2 := tE e2 f2 f4; obtain ⟨L3, hk⟩ := hk v σ' e1
  have L2 : rZ hr h S0 A ((w, c) :: j8) ρ t fl nw rd D5 := by
    rcases f5 with ⟨rfl, _⟩ | ⟨k, g1, _, rfl⟩
    . exact L
    exact L.arC I.apart hρ (t1 k g1)
  exact vP.RA f1 (hk hr h0 G S0 A _ _ ms rd D5 _ iE (fun e => by cases e) (I.made m2) (L2.made I m2 L3))
theorem kH.x8 {b : Nat} {f : Operand} {args : Array Operand} {lR : Array TypeId} {F r : PV} {q9 : List PV} (hf : aQ fl f = some F) (ha : lG fl args.toList = some q9) (hc : qQ P orc F q9 r)
    (hk : kH P orc ops n l (i + 1) ((d, r) :: fl) (fG r.flat d nw) σ ρ (bs ++ [b]) (mem ||| 2 ^ i) tl K)
    (hb : aJ bs ⟨some d, .call { callee := .value f, args := args, argTypes := lR }, ty, pos, after, g⟩ = b := by rfl) (fU : Nat.beq (mem &&& b) mem = true := by rfl) (hw : cV ops fl g = some true := by rfl) (hn : (Nat.blt d n && Nat.ble n 4000) = true := by rfl) :
    kH P orc ops n (⟨some d, .call { callee := .value f, args := args, argTypes := lR }, ty, pos, after, g⟩ :: l) i fl nw σ ρ bs mem tl K := fun hr h0 G S0 A t h ms rd chg segs tail ht I L => by
  obtain ⟨n1, n2⟩ := fits hn; have Le := I.lc.aB (h' := entry h) (fun _ => rfl) rfl; obtain ⟨NT, ca, cc, h1, h2⟩ := hc.ev Le.ok Le.ag6 (cR Le.aH hf) (rF Le.aH ha); refine vP.call (s := ⟨t, h, bs, segs, mem, tail⟩) (o := ⟨some d, .call { callee := .value f, args := args, argTypes := lR }, ty, pos, after, g⟩) (cE I.aH hw) rfl rfl h1 (by simp only [hb, fU]) ?_; refine h2.mono fun u h' hq => ?_; obtain ⟨q1, q2, q3⟩ := hq; have hA := q1.after; have hl : h.next <= h'.low := hA.low h.next (Nat.le_refl _) (Nat.le_refl _)
  have dN : Nat.ble h.next h'.low = true := by rw [Nat.ble_eq]; exact hl
  have fH : h.next <= h'.next := hA.next; refine ⟨l5 fH, dN, _, bN n1 t u, ?_⟩
  have hd : jI ⟨some d, .call { callee := .value f, args := args, argTypes := lR }, ty, pos, after, g⟩ i ⟨t, h, bs, segs, mem, tail⟩ (t.set depth d u) h' =
      ⟨t.set depth d u, { next := h'.next, low := h.low, aB := bE h.next h'.next h'.aB ++ h.aB }, bs ++ [b], (i, h.next, h'.next) :: segs, mem ||| 2 ^ i, tail⟩ := by
    unfold jI; simp only [dN, cond_true, hb]
  rw [hd]; obtain ⟨e1, e2⟩ := yI (M := entry h) (h' := h') I.ok (fun b o hg => hg) rfl hA Le.ok; have eA : cK h { next := h'.next, low := h.low, aB := bE h.next h'.next h'.aB ++ h.aB } [] := ⟨e1.next, fun b hb _ => e1.get b hb, e1.ok, fun e h3 h4 _ => e1.low e h3 h4, fun b hb => .inl (e1.get b hb), Nat.le_refl _⟩; have I2 := I.calm eA
  have L2 : rZ hr { next := h'.next, low := h.low, aB := bE h.next h'.next h'.aB ++ h.aB } S0 A σ ρ t fl nw rd chg :=
    { L with next := Nat.le_trans L.next eA.next, goes := L.goes.trans (I.goes (B := []) (σ' := σ) (fun b hb => by cases hb) eA fun b hb => .inl hb) }
  exact hk hr h0 G S0 A _ _ ms rd chg _ tail ht (I2.set (q2.nx (e2 _)) n2) (L2.set n2 fun U0 => (q2.flat U0).2 _ _)
theorem kH.nws {U9 : List Nat} (nw1 : List Nat) (hk : kH P orc ops n l i fl nw1 σ ρ bs mem tl K) (he : U9 = nw1 := by rfl) : kH P orc ops n l i fl U9 σ ρ bs mem tl K := he ▸ hk
end Go.Fs
namespace Ieee
theorem acQ (neg : Bool) (n : Nat) : Toward.even.cut neg n 0 = n := by
  unfold Toward.cut; simp [Nat.mod_one]
theorem HY {n d : Nat} (hn : n ≠ 0) (h : 2 ^ d ∣ n) : d <= n.log2 := (Nat.le_log2 hn).2 (Nat.le_of_dvd (Nat.pos_of_ne_zero hn) h)
theorem YY {neg : Bool} {way : Toward} {n d : Nat} (hn : n ≠ 0) (h : 2 ^ d ∣ n) : way.cut neg n d = n / 2 ^ d := by
  have h1 := HY hn h
  have h2 : min d (n.log2 + 2) = d := by omega
  have h3 : n % 2 ^ d = 0 := Nat.mod_eq_zero_of_dvd h; unfold Toward.cut; simp only [h2, Nat.one_shiftLeft, h3]; have hp : 0 < 2 ^ d := Nat.two_pow_pos d; cases way <;> simp <;> omega
namespace Format
variable (f : Format)
theorem yQ {neg : Bool} {r : Nat} (h : r < f.binade) (hw : r < f.signWeight) : f.read (f.word neg r) = .number neg r f.leastPlace := by
  have e1 : f.word neg r % f.signWeight = r := by
    unfold word; cases neg
    . exact Nat.mod_eq_of_lt hw
    simp only [if_true]; rw [Nat.add_mod_left]; exact Nat.mod_eq_of_lt hw
  have e2 : (f.word neg r / f.signWeight % 2 == 1) = neg := by
    unfold word; have hp : 0 < f.signWeight := Nat.two_pow_pos _; cases neg
    . simp [Nat.div_eq_of_lt hw]
    simp only [if_true]; rw [Nat.add_div_left _ hp, Nat.div_eq_of_lt hw]; rfl
  unfold read; simp only [e1, e2, h, if_true]
theorem LH {neg : Bool} {r : Nat} (h : f.binade <= r) (hi : r < f.infRung) (hw : r < f.signWeight) : f.read (f.word neg r) = .number neg (f.binade + r % f.binade) (f.leastPlace + (r / f.binade - 1 : Nat)) := by
  have e1 : f.word neg r % f.signWeight = r := by
    unfold word; cases neg
    . exact Nat.mod_eq_of_lt hw
    simp only [if_true]; rw [Nat.add_mod_left]; exact Nat.mod_eq_of_lt hw
  have e2 : (f.word neg r / f.signWeight % 2 == 1) = neg := by
    unfold word; have hp : 0 < f.signWeight := Nat.two_pow_pos _; cases neg
    . simp [Nat.div_eq_of_lt hw]
    simp only [if_true]; rw [Nat.add_div_left _ hp, Nat.div_eq_of_lt hw]; rfl
  unfold read; simp only [e1, e2]; rw [if_neg (by omega), if_pos hi]
theorem UJ : f.infRung < f.signWeight := by
  have h : 0 < 2 ^ f.exponentBits := Nat.two_pow_pos _; have hb : 0 < f.binade := Nat.two_pow_pos _
  have : f.infRung + f.binade = f.signWeight := by
    unfold infRung signWeight; rw [Nat.pow_add, <- Nat.succ_mul]; exact congrArg (· * f.binade) (by omega)
  omega
def jM (o4 : Nat) (place : Int) : Int := max (place + o4.log2 - f.fractionBits) f.leastPlace
def IB (neg : Bool) (o4 : Nat) (place : Int) : Nat := Toward.even.cut neg (o4 <<< (place - f.jM o4 place).toNat) (f.jM o4 place - place).toNat
theorem NX {neg : Bool} {o4 : Nat} {place : Int} (hm : o4 ≠ 0) {k : Nat} (hk : f.IB neg o4 place = k) (ED : k < 2 * f.binade) (gY : f.jM o4 place = f.leastPlace \/ f.binade <= k)
    (y7 : (f.jM o4 place - f.leastPlace).toNat * f.binade + k < f.infRung) : f.read (f.nearest neg o4 place) = .number neg k (f.jM o4 place) := by
  have hl : f.leastPlace <= f.jM o4 place := by unfold jM; omega
  have hb : 0 < f.binade := Nat.two_pow_pos _; have hsw := f.UJ
  have hn : f.nearest neg o4 place = f.word neg ((f.jM o4 place - f.leastPlace).toNat * f.binade + k) := by
    unfold nearest; rw [if_neg hm]; show f.word neg (min ((f.jM o4 place - f.leastPlace).toNat * f.binade + f.IB neg o4 place) f.infRung) = _; rw [hk, Nat.min_eq_left (by omega)]
  rw [hn]; generalize hL : f.jM o4 place = L at *; obtain ⟨d, rfl⟩ : ∃ d : Nat, L = f.leastPlace + d := ⟨(L - f.leastPlace).toNat, by omega⟩
  have e0 : (f.leastPlace + (d : Int) - f.leastPlace).toNat = d := by omega
  rw [e0] at y7 ⊢; by_cases hkb : k < f.binade
  . have hd : d = 0 := by rcases gY with h | h <;> omega
    subst hd; rw [Nat.zero_mul, Nat.zero_add] at y7 ⊢; rw [f.yQ hkb (by omega)]; simp
  have h1 : f.binade <= d * f.binade + k := by have := Nat.zero_le (d * f.binade); omega
  rw [f.LH h1 y7 (by omega)]
  have e1 : (d * f.binade + k) % f.binade = k - f.binade := by
    rw [Nat.add_comm, Nat.add_mul_mod_self_right, show k = (k - f.binade) + f.binade by omega, Nat.add_mod_right, Nat.mod_eq_of_lt (by omega)]; omega
  have e2 : (d * f.binade + k) / f.binade = d + 1 := by
    rw [Nat.add_comm, Nat.add_mul_div_right _ _ hb, show k = (k - f.binade) + f.binade by omega, Nat.add_div_right _ hb, Nat.div_eq_of_lt (by omega)]; omega
  rw [e1, e2]; congr 1; omega
theorem mE {c k : Nat} (hc : c ≠ 0) : (c * 2 ^ k).log2 = c.log2 + k := by
  have hp : 0 < 2 ^ k := Nat.two_pow_pos k; refine (Nat.log2_eq_iff (Nat.mul_ne_zero hc (by omega))).2 ⟨?_, ?_⟩
  . rw [Nat.pow_add]; exact Nat.mul_le_mul_right _ (Nat.log2_self_le hc)
  rw [show c.log2 + k + 1 = (c.log2 + 1) + k by omega, Nat.pow_add]; exact Nat.mul_lt_mul_of_pos_right (Nat.lt_log2_self) hp
theorem RC {neg : Bool} {o4 c : Nat} {place q base : Int} (hm : o4 ≠ 0) (AB : base <= place) (sX : base <= q) (hq : f.leastPlace <= q) (hc : c < 2 ^ (f.fractionBits + 1)) (heq : o4 * 2 ^ (place - base).toNat = c * 2 ^ (q - base).toNat)
    (y7 : (q - f.leastPlace).toNat + 2 <= 2 ^ f.exponentBits - 1) : ∃ m p, f.read (f.nearest neg o4 place) = .number neg m p /\ f.leastPlace <= p /\ m ≠ 0 /\ m * 2 ^ (p - f.leastPlace).toNat = c * 2 ^ (q - f.leastPlace).toNat := by
  have XO : c ≠ 0 := by
    rintro rfl; rw [Nat.zero_mul] at heq; have hp : 0 < 2 ^ (place - base).toNat := Nat.two_pow_pos _; rcases Nat.mul_eq_zero.1 heq with h | h
    . exact hm h
    omega
  have atP : o4.log2 + (place - base).toNat = c.log2 + (q - base).toNat := by
    rw [<- mE hm, <- mE XO, heq]
  have sE : c.log2 <= f.fractionBits := by
    have := (Nat.log2_lt XO).2 hc; omega
  obtain ⟨L, hL⟩ : ∃ L, f.jM o4 place = L := ⟨_, rfl⟩
  have hLq : L <= q := by rw [<- hL]; unfold jM; omega
  have hLl : f.leastPlace <= L := by rw [<- hL]; unfold jM; omega
  have hLn : place + o4.log2 - f.fractionBits <= L := by rw [<- hL]; unfold jM; omega
  have hLc : L = f.leastPlace \/ L = place + o4.log2 - f.fractionBits := by rw [<- hL]; unfold jM; omega
  -- what is kept is c * 2 ^ (q - L)
  have ao3 : f.IB neg o4 place = c * 2 ^ (q - L).toNat := by
    unfold IB; rw [hL]; by_cases hle : L <= place
    . have e1 : (L - place).toNat = 0 := by omega
      rw [e1, acQ, Nat.shiftLeft_eq]
      have hbL : min base L <= L := by omega
      have hp : 0 < 2 ^ (L - min base L).toNat := Nat.two_pow_pos _
      -- both sides times 2 ^ (L - b)
      have h1 : o4 * 2 ^ (place - min base L).toNat = c * 2 ^ (q - min base L).toNat := by
        have e2 : (place - min base L).toNat = (place - base).toNat + (base - min base L).toNat := by omega
        have e3 : (q - min base L).toNat = (q - base).toNat + (base - min base L).toNat := by omega
        rw [e2, e3, Nat.pow_add, Nat.pow_add, <- Nat.mul_assoc, <- Nat.mul_assoc, heq]
      refine Nat.eq_of_mul_eq_mul_right hp ?_; rw [Nat.mul_assoc, Nat.mul_assoc, <- Nat.pow_add, <- Nat.pow_add]; rw [show (place - L).toNat + (L - min base L).toNat = (place - min base L).toNat by omega, show (q - L).toNat + (L - min base L).toNat = (q - min base L).toNat by omega]; exact h1
    have e1 : (place - L).toNat = 0 := by omega
    rw [e1, Nat.shiftLeft_zero]; have at6 : base <= place := AB
    have amG : o4 = c * 2 ^ (q - place).toNat := by
      have hp : 0 < 2 ^ (place - base).toNat := Nat.two_pow_pos _; refine Nat.eq_of_mul_eq_mul_right hp ?_; rw [heq, Nat.mul_assoc, <- Nat.pow_add, show (q - place).toNat + (place - base).toNat = (q - base).toNat by omega]
    have hd : 2 ^ (L - place).toNat ∣ o4 := by
      rw [amG, show (q - place).toNat = (q - L).toNat + (L - place).toNat by omega, Nat.pow_add, <- Nat.mul_assoc]; exact Nat.dvd_mul_left _ _
    rw [YY hm hd]; refine Nat.div_eq_of_eq_mul_left (Nat.two_pow_pos _) ?_; rw [amG, Nat.mul_assoc, <- Nat.pow_add, show (q - L).toNat + (L - place).toNat = (q - place).toNat by omega]
  have NU : (c * 2 ^ (q - L).toNat).log2 <= f.fractionBits := by
    rw [mE XO]; omega
  have oL : c * 2 ^ (q - L).toNat ≠ 0 := by
    have := Nat.two_pow_pos (q - L).toNat; exact Nat.mul_ne_zero XO (by omega)
  have hkb : c * 2 ^ (q - L).toNat < 2 * f.binade := by
    have := (Nat.log2_lt oL).1 (show (c * 2 ^ (q - L).toNat).log2 < f.fractionBits + 1 by omega); rw [Nat.pow_succ] at this; unfold binade; omega
  have gY : f.jM o4 place = f.leastPlace \/ f.binade <= c * 2 ^ (q - L).toNat := by
    rw [hL]; rcases hLc with h | h
    . exact .inl h
    refine .inr ?_; unfold binade; refine (Nat.le_log2 oL).1 ?_; rw [mE XO]; omega
  have ao4 : (f.jM o4 place - f.leastPlace).toNat * f.binade + c * 2 ^ (q - L).toNat < f.infRung := by
    rw [hL]; unfold infRung
    have h1 : (L - f.leastPlace).toNat * f.binade + 2 * f.binade <= (2 ^ f.exponentBits - 1) * f.binade := by
      rw [<- Nat.add_mul]; exact Nat.mul_le_mul_right _ (by omega)
    omega
  refine ⟨_, L, by have := f.NX (neg := neg) hm ao3 hkb gY ao4; rw [hL] at this; exact this, hLl, oL, ?_⟩; rw [Nat.mul_assoc, <- Nat.pow_add, show (q - L).toNat + (L - f.leastPlace).toNat = (q - f.leastPlace).toNat by omega]
end Format
end Ieee
namespace Ieee
def sg (s : Bool) (r : Nat) : Int := if s then -(r : Int) else r
theorem oM (s : Bool) (m k : Nat) : signed s m k = sg s (m * 2 ^ k) := by
  unfold signed sg; rw [Nat.shiftLeft_eq]
theorem l7 (s : Bool) (a b : Nat) : sg s (a * b) = sg s a * b := by
  unfold sg; cases s <;> simp [Int.neg_mul]
theorem UK (s t : Bool) (a b : Nat) : sg s a * sg t b = sg (s ^^ t) (a * b) := by
  unfold sg; cases s <;> cases t <;> simp [Int.neg_mul, Int.mul_neg]
theorem mV (s : Bool) (a : Nat) : (sg s a).natAbs = a := by unfold sg; cases s <;> simp
theorem agG (s : Bool) : sg s 0 = 0 := by unfold sg; cases s <;> rfl
namespace Format
variable (f : Format)
def cZ (x : Nat) : Option Int := match f.read x with
  | .number s m p => some (sg s (m * 2 ^ (p - f.leastPlace).toNat))
  | _ => none
def NY (r : Nat) : Prop := ∃ c k, r = c * 2 ^ k /\ c < 2 ^ (f.fractionBits + 1) /\ k + 2 <= 2 ^ f.exponentBits - 1
variable {f}
theorem dW {x : Nat} {u : Int} (h : f.cZ x = some u) : ∃ s m p, f.read x = .number s m p /\ f.leastPlace <= p /\ u = sg s (m * 2 ^ (p - f.leastPlace).toNat) := by
  unfold cZ at h; split at h
  . rename_i s m p hr; refine ⟨s, m, p, hr, ?_, (Option.some.inj h).symm⟩; unfold read at hr; dsimp only at hr; split at hr
    . cases hr; omega
    split at hr
    . cases hr; omega
    split at hr <;> cases hr
  cases h
theorem GU {x : Nat} (h : f.cZ x = none) : (∃ s, f.read x = .infinity s) \/ ∃ s t, f.read x = .nan s t := by
  unfold cZ at h; split at h
  . cases h
  rename_i hn
  cases hr : f.read x with
  | number s m p => exact absurd hr (hn s m p)
  | infinity s => exact .inl ⟨s, rfl⟩
  | nan s t => exact .inr ⟨s, t, rfl⟩
theorem lK (p : Int) : (p - p).toNat = 0 := by omega
theorem nF {s : Bool} {m r : Nat} {p : Int} (base : Int) (AB : base <= p) (sX : base <= f.leastPlace) (heq : m * 2 ^ (p - base).toNat = r * 2 ^ (f.leastPlace - base).toNat) (hr : f.NY r) (hg : 0 < f.exponentBits /\ 0 < f.fractionBits) :
    f.cZ (f.write (.number s m p)) = some (sg s r) := by
  have hp1 : 0 < 2 ^ (p - base).toNat := Nat.two_pow_pos _; have hp2 : 0 < 2 ^ (f.leastPlace - base).toNat := Nat.two_pow_pos _; by_cases hm : m = 0
  . subst hm
    have h0 : r = 0 := by
      rw [Nat.zero_mul] at heq; rcases Nat.mul_eq_zero.1 heq.symm with h | h
      . exact h
      omega
    subst h0; have arD : 0 < f.binade := Nat.two_pow_pos _; have hsw : 0 < f.signWeight := Nat.two_pow_pos _
    have : f.read (f.write (.number s 0 p)) = .number s 0 f.leastPlace := by
      show f.read (f.nearest s 0 p) = _; unfold nearest; rw [if_pos rfl]; exact f.yQ arD hsw
    unfold cZ; rw [this]; simp
  obtain ⟨c, k, rfl, hc, hk⟩ := hr
  have arE : m * 2 ^ (p - base).toNat = c * 2 ^ ((f.leastPlace + k) - base).toNat := by
    rw [heq, Nat.mul_assoc, <- Nat.pow_add]; congr 2; omega
  obtain ⟨m', p', h1, h2, h3, h4⟩ := f.RC (neg := s) hm AB (show base <= f.leastPlace + k by omega) (by omega) hc arE (by omega); unfold cZ; show (match f.read (f.nearest s m p) with | .number s m p => some (sg s (m * 2 ^ (p - f.leastPlace).toNat)) | _ => none) = _; rw [h1]; simp only; rw [h4]; congr 4; omega
theorem D6 {x y : Nat} {u v : Int} (hx : f.cZ x = some u) (hy : f.cZ y = some v) : f.order x y = some (compare u v) := by
  obtain ⟨s, m, p, h1, h2, rfl⟩ := dW hx; obtain ⟨t, n, q, h3, h4, rfl⟩ := dW hy; unfold order; rw [h1, h3]; unfold Datum.order; simp only; rw [oM, oM]; congr 1
  have hb : f.leastPlace <= min p q := by omega
  have e1 : sg s (m * 2 ^ (p - f.leastPlace).toNat) = sg s (m * 2 ^ (p - min p q).toNat) * ((2 ^ (min p q - f.leastPlace).toNat : Nat) : Int) := by
    rw [<- l7, Nat.mul_assoc, <- Nat.pow_add]; congr 3; omega
  have e2 : sg t (n * 2 ^ (q - f.leastPlace).toNat) = sg t (n * 2 ^ (q - min p q).toNat) * ((2 ^ (min p q - f.leastPlace).toNat : Nat) : Int) := by
    rw [<- l7, Nat.mul_assoc, <- Nat.pow_add]; congr 3; omega
  rw [e1, e2]
  have hp : (0 : Int) < ((2 ^ (min p q - f.leastPlace).toNat : Nat) : Int) := by have := Nat.two_pow_pos (min p q - f.leastPlace).toNat; omega
  generalize sg s (m * 2 ^ (p - min p q).toNat) = a; generalize sg t (n * 2 ^ (q - min p q).toNat) = b; generalize ((2 ^ (min p q - f.leastPlace).toNat : Nat) : Int) = k at hp; show compareOfLessAndEq a b = compareOfLessAndEq (a * k) (b * k); unfold compareOfLessAndEq; have h1 : a < b ↔ a * k < b * k := (Int.mul_lt_mul_right hp).symm; have h2 : a = b ↔ a * k = b * k := ⟨fun h => by rw [h], fun h => Int.eq_of_mul_eq_mul_right (by omega) h⟩; by_cases h3 : a < b
  . rw [if_pos h3, if_pos (h1.1 h3)]
  rw [if_neg h3, if_neg (fun h => h3 (h1.2 h))]; by_cases h4 : a = b
  . rw [if_pos h4, if_pos (h2.1 h4)]
  rw [if_neg h4, if_neg (fun h => h4 (h2.2 h))]
end Format
end Ieee
namespace Ieee
namespace Format
variable {f g : Format}
theorem BD (t : Int) (h : t ≠ 0) : sg (decide (t < 0)) t.natAbs = t := by
  unfold sg; by_cases h1 : t < 0
  . rw [if_pos (by simpa using h1)]; omega
  rw [if_neg (by simpa using h1)]; omega
theorem GV (s : Bool) {t : Int} (h : t = 0) : sg s t.natAbs = t := by
  subst h; simp [agG]
theorem LI {x y : Nat} {u v r : Int} (hx : f.cZ x = some u) (hy : f.cZ y = some v) (hl : f.leastPlace <= 0) (h : u * v = r * (2 ^ (-f.leastPlace).toNat : Nat)) (hr : f.NY r.natAbs) (hg : 0 < f.exponentBits /\ 0 < f.fractionBits) :
    ∃ w, f.mul x y = some w /\ f.cZ w = some r := by
  obtain ⟨s, m, p, h1, h2, rfl⟩ := dW hx; obtain ⟨t, n, q, h3, h4, rfl⟩ := dW hy; unfold mul; rw [h1, h3]; refine ⟨_, rfl, ?_⟩; have hk := congrArg Int.natAbs h; rw [UK, mV, Int.natAbs_mul, Int.natAbs_natCast] at hk
  have hb : 2 * f.leastPlace <= p + q := by omega
  rw [nF (r := r.natAbs) (2 * f.leastPlace) hb (by omega) ?_ hr hg]
  . congr 1
    have hs : sg (s ^^ t) (m * 2 ^ (p - f.leastPlace).toNat * (n * 2 ^ (q - f.leastPlace).toNat)) = r * (2 ^ (-f.leastPlace).toNat : Nat) := by rw [<- UK, h]
    have tA : (0 : Int) < ((2 ^ (-f.leastPlace).toNat : Nat) : Int) := by have := Nat.two_pow_pos (-f.leastPlace).toNat; omega
    rw [hk, l7] at hs; exact Int.eq_of_mul_eq_mul_right (by omega) hs
  rw [show (p + q - 2 * f.leastPlace).toNat = (p - f.leastPlace).toNat + (q - f.leastPlace).toNat by omega, show (f.leastPlace - 2 * f.leastPlace).toNat = (-f.leastPlace).toNat by omega, <- hk, Nat.pow_add]; simp only [Nat.mul_comm, Nat.mul_left_comm, Nat.mul_assoc]
theorem YZ {x y : Nat} {u v : Int} (hx : f.cZ x = some u) (hy : f.cZ y = some v) : ∃ s m p, (f.read x).sum (f.read y) = some (.number s m p) /\ f.leastPlace <= p /\ sg s (m * 2 ^ (p - f.leastPlace).toNat) = u + v := by
  obtain ⟨s, m, p, h1, h2, rfl⟩ := dW hx; obtain ⟨t, n, q, h3, h4, rfl⟩ := dW hy; rw [h1, h3]; refine ⟨_, _, _, rfl, by omega, ?_⟩; rw [oM, oM]
  have e1 : sg s (m * 2 ^ (p - f.leastPlace).toNat) = sg s (m * 2 ^ (p - min p q).toNat) * ((2 ^ (min p q - f.leastPlace).toNat : Nat) : Int) := by
    rw [<- l7, Nat.mul_assoc, <- Nat.pow_add]; congr 3; omega
  have e2 : sg t (n * 2 ^ (q - f.leastPlace).toNat) = sg t (n * 2 ^ (q - min p q).toNat) * ((2 ^ (min p q - f.leastPlace).toNat : Nat) : Int) := by
    rw [<- l7, Nat.mul_assoc, <- Nat.pow_add]; congr 3; omega
  rw [e1, e2, <- Int.add_mul]; generalize sg s (m * 2 ^ (p - min p q).toNat) + sg t (n * 2 ^ (q - min p q).toNat) = T; rw [l7]; congr 1; by_cases hT : T = 0
  . rw [if_pos hT]; exact GV _ hT
  rw [if_neg hT]; exact BD T hT
theorem Z0 {x y : Nat} {u v r : Int} (hx : f.cZ x = some u) (hy : f.cZ y = some v) (h : u + v = r) (hr : f.NY r.natAbs) (hg : 0 < f.exponentBits /\ 0 < f.fractionBits) : ∃ w, f.add x y = some w /\ f.cZ w = some r := by
  obtain ⟨s, m, p, h1, h2, h3⟩ := YZ hx hy; unfold add; rw [h1]; refine ⟨_, rfl, ?_⟩
  have hk : m * 2 ^ (p - f.leastPlace).toNat = r.natAbs := by
    rw [<- h, <- h3, mV]
  rw [nF (r := r.natAbs) f.leastPlace h2 (Int.le_refl _) (by rw [hk, lK]; simp) hr hg, <- hk, h3, h]
theorem acR {y : Nat} {v : Int} (hy : f.cZ y = some v) : ∃ s m p, (f.read y).opposite = .number s m p /\ f.leastPlace <= p /\ sg s (m * 2 ^ (p - f.leastPlace).toNat) = -v := by
  obtain ⟨t, n, q, h3, h4, rfl⟩ := dW hy; rw [h3]; refine ⟨_, _, _, rfl, h4, ?_⟩; unfold sg; cases t <;> simp
theorem Z1 {x y : Nat} {u v r : Int} (hx : f.cZ x = some u) (hy : f.cZ y = some v) (h : u - v = r) (hr : f.NY r.natAbs) (hg : 0 < f.exponentBits /\ 0 < f.fractionBits) : ∃ w, f.sub x y = some w /\ f.cZ w = some r := by
  obtain ⟨s, m, p, h1, h2, rfl⟩ := dW hx; obtain ⟨t, n, q, h3, h4, h5⟩ := acR hy; unfold sub; rw [h1, h3]; refine ⟨_, rfl, ?_⟩
  have e1 : sg s (m * 2 ^ (p - f.leastPlace).toNat) = sg s (m * 2 ^ (p - min p q).toNat) * ((2 ^ (min p q - f.leastPlace).toNat : Nat) : Int) := by
    rw [<- l7, Nat.mul_assoc, <- Nat.pow_add]; congr 3; omega
  have e2 : sg t (n * 2 ^ (q - f.leastPlace).toNat) = sg t (n * 2 ^ (q - min p q).toNat) * ((2 ^ (min p q - f.leastPlace).toNat : Nat) : Int) := by
    rw [<- l7, Nat.mul_assoc, <- Nat.pow_add]; congr 3; omega
  have hT : (signed s m (p - min p q).toNat + signed t n (q - min p q).toNat) * ((2 ^ (min p q - f.leastPlace).toNat : Nat) : Int) = r := by
    rw [oM, oM, Int.add_mul, <- e1, <- e2, h5, <- h]; omega
  generalize signed s m (p - min p q).toNat + signed t n (q - min p q).toNat = T at hT ⊢
  have hk : T.natAbs * 2 ^ (min p q - f.leastPlace).toNat = r.natAbs := by
    rw [<- hT, Int.natAbs_mul, Int.natAbs_natCast]
  rw [nF (r := r.natAbs) f.leastPlace (by omega) (Int.le_refl _) (by rw [hk, lK]; simp) hr hg, <- hk, l7, <- hT]; congr 2; by_cases hT : T = 0
  . rw [if_pos hT]; exact GV _ hT
  rw [if_neg hT]; exact BD T hT
theorem LJ {x : Nat} (hx : f.cZ x = none) : f.sub x x = none := by
  unfold sub; rcases GU hx with ⟨s, h⟩ | ⟨s, t, h⟩ <;> rw [h]
  . cases s <;> rfl
  rfl
theorem RD {x : Nat} {u : Int} (hx : f.cZ x = some u) (hl : f.leastPlace <= 0) : (f.read x).toInt .zero = some (u.tdiv (2 ^ (-f.leastPlace).toNat : Nat)) := by
  obtain ⟨s, m, p, h1, h2, rfl⟩ := dW hx; rw [h1]; show some (signed s (Toward.zero.cut s (m <<< p.toNat) (-p).toNat) 0) = _; congr 1; rw [oM, Nat.pow_zero, Nat.mul_one]
  have KL : Toward.zero.cut s (m <<< p.toNat) (-p).toNat = (m * 2 ^ p.toNat) / 2 ^ (-p).toNat := by
    rw [Nat.shiftLeft_eq]; generalize m * 2 ^ p.toNat = M; unfold Toward.cut; simp only [Nat.one_shiftLeft, Bool.toNat_false, Nat.add_zero]; by_cases hle : (-p).toNat <= M.log2 + 2
    . rw [Nat.min_eq_left hle]
    rw [Nat.min_eq_right (by omega)]; have hM : M < 2 ^ (M.log2 + 2) := Nat.lt_trans (Nat.lt_log2_self) (Nat.pow_lt_pow_right (by omega) (by omega)); rw [Nat.div_eq_of_lt hM, Nat.div_eq_of_lt (Nat.lt_of_lt_of_le hM (Nat.pow_le_pow_right (by omega) (by omega)))]
  rw [KL]
  have hdiv : m * 2 ^ (p - f.leastPlace).toNat / 2 ^ (-f.leastPlace).toNat = m * 2 ^ p.toNat / 2 ^ (-p).toNat := by
    by_cases hp : 0 <= p
    . rw [show (p - f.leastPlace).toNat = p.toNat + (-f.leastPlace).toNat by omega, Nat.pow_add, <- Nat.mul_assoc, Nat.mul_div_cancel _ (Nat.two_pow_pos _), show (-p).toNat = 0 by omega]; simp
    rw [show (-f.leastPlace).toNat = (-p).toNat + (p - f.leastPlace).toNat by omega, Nat.pow_add, Nat.mul_div_mul_right _ _ (Nat.two_pow_pos _), show p.toNat = 0 by omega]; simp
  rw [<- hdiv]; generalize m * 2 ^ (p - f.leastPlace).toNat = a; unfold sg
  cases s with
  | false => simp
  | true => simp [Int.neg_tdiv]
theorem RE {n : Int} (hl : f.leastPlace <= 0) (hr : f.NY (n.natAbs * 2 ^ (-f.leastPlace).toNat)) (hg : 0 < f.exponentBits /\ 0 < f.fractionBits) : f.cZ (f.write (.number (n < 0) n.natAbs 0)) = some (n * (2 ^ (-f.leastPlace).toNat : Nat)) := by
  rw [nF (r := n.natAbs * 2 ^ (-f.leastPlace).toNat) f.leastPlace hl (Int.le_refl _) (by rw [lK, show (0 - f.leastPlace).toNat = (-f.leastPlace).toNat by omega]; simp) hr hg, l7]; congr 2; by_cases h : n = 0
  . subst h; rfl
  exact BD n h
theorem RF {x : Nat} {u : Int} (hx : f.cZ x = some u) (hle : g.leastPlace <= f.leastPlace) (hr : g.NY (u.natAbs * 2 ^ (f.leastPlace - g.leastPlace).toNat)) (hg : 0 < g.exponentBits /\ 0 < g.fractionBits) : g.cZ (g.write (f.read x)) = some (u * (2 ^ (f.leastPlace - g.leastPlace).toNat : Nat)) := by
  obtain ⟨s, m, p, h1, h2, rfl⟩ := dW hx; rw [h1]; rw [mV] at hr; rw [nF (r := m * 2 ^ (p - f.leastPlace).toNat * 2 ^ (f.leastPlace - g.leastPlace).toNat) g.leastPlace (by omega) (Int.le_refl _) ?_ hr hg, l7]; rw [lK, Nat.pow_zero, Nat.mul_one, Nat.mul_assoc, <- Nat.pow_add]; congr 2; omega
theorem RG {x : Nat} {u : Int} (hx : f.cZ x = some u) (hl : f.leastPlace <= 0) (hr : f.NY (u.fdiv (2 ^ (-f.leastPlace).toNat : Nat) * (2 ^ (-f.leastPlace).toNat : Nat)).natAbs) (hg : 0 < f.exponentBits /\ 0 < f.fractionBits) :
    f.cZ (f.write ((f.read x).integral .down)) = some (u.fdiv (2 ^ (-f.leastPlace).toNat : Nat) * (2 ^ (-f.leastPlace).toNat : Nat)) := by
  obtain ⟨s, m, p, h1, h2, rfl⟩ := dW hx; rw [h1]; show f.cZ (f.write (.number s (Toward.down.cut s (m <<< p.toNat) (-p).toNat) 0)) = _
  have KL : sg s (Toward.down.cut s (m <<< p.toNat) (-p).toNat) = (sg s (m * 2 ^ (p - f.leastPlace).toNat)).fdiv (2 ^ (-f.leastPlace).toNat : Nat) := by
    have key : ∀ (M d : Nat), sg s (Toward.down.cut s M d) = (sg s M).fdiv (2 ^ d : Nat) := by
      intro M d
      have akO : Toward.down.cut s M d = M / 2 ^ d + (s && decide (M % 2 ^ d ≠ 0)).toNat := by
        unfold Toward.cut; simp only [Nat.one_shiftLeft]; by_cases hle : d <= M.log2 + 2
        . rw [Nat.min_eq_left hle]; congr 2; cases s <;> first | rfl | (by_cases hz : M % 2 ^ d = 0 <;> simp [hz])
        rw [Nat.min_eq_right (by omega)]; have hM : M < 2 ^ (M.log2 + 2) := Nat.lt_trans (Nat.lt_log2_self) (Nat.pow_lt_pow_right (by omega) (by omega)); have hM2 : M < 2 ^ d := Nat.lt_of_lt_of_le hM (Nat.pow_le_pow_right (by omega) (by omega)); rw [Nat.div_eq_of_lt hM, Nat.div_eq_of_lt hM2, Nat.mod_eq_of_lt hM, Nat.mod_eq_of_lt hM2]; congr 2; cases s <;> first | rfl | (by_cases hz : M = 0 <;> simp [hz])
      rw [akO]; have hp : 0 < 2 ^ d := Nat.two_pow_pos d; generalize 2 ^ d = D at hp; unfold sg
      cases s with
      | false =>
        simp only [Bool.false_and, Bool.toNat_false, Nat.add_zero, Bool.false_eq_true, if_false]
        rw [Int.fdiv_eq_ediv_of_nonneg _ (by omega)]; rfl
      | true =>
        simp only [Bool.true_and, if_true]; rw [Int.fdiv_eq_ediv_of_nonneg _ (by omega)]; have hd := Nat.div_add_mod M D; have hm := Nat.mod_lt M hp; by_cases hz : M % D = 0
        . rw [show decide (M % D ≠ 0) = false by simpa using hz]; rw [Bool.toNat_false, Nat.add_zero]; refine (Int.ediv_eq_of_eq_mul_left (by omega) ?_).symm
          have : M = D * (M / D) := by omega
          have h3 : ((M : Nat) : Int) = (D : Int) * ((M / D : Nat) : Int) := by rw [<- Int.natCast_mul, <- this]
          rw [h3, Int.neg_mul, Int.mul_comm]
        rw [show decide (M % D ≠ 0) = true by simpa using hz]; rw [Bool.toNat_true]
        have h3 : ((M : Nat) : Int) = (D : Int) * ((M / D : Nat) : Int) + ((M % D : Nat) : Int) := by rw [<- Int.natCast_mul, <- Int.natCast_add, hd]
        have h4 : (-(M : Int)) = ((D : Int) - ((M % D : Nat) : Int)) + (D : Int) * (-(((M / D + 1 : Nat)) : Int)) := by
          rw [h3, Int.natCast_add, Int.mul_neg, Int.mul_add]; simp; omega
        rw [h4, Int.add_mul_ediv_left _ _ (by omega), Int.ediv_eq_zero_of_lt (by omega) (by omega)]; omega
    rw [key, Nat.shiftLeft_eq]; by_cases hp : 0 <= p
    . rw [show (p - f.leastPlace).toNat = p.toNat + (-f.leastPlace).toNat by omega, Nat.pow_add, <- Nat.mul_assoc, show (-p).toNat = 0 by omega, l7 s (m * 2 ^ p.toNat)]
      have hq : (0 : Int) < ((2 ^ (-f.leastPlace).toNat : Nat) : Int) := by have := Nat.two_pow_pos (-f.leastPlace).toNat; omega
      rw [Int.mul_fdiv_cancel _ (by omega)]; simp
    rw [show (-f.leastPlace).toNat = (-p).toNat + (p - f.leastPlace).toNat by omega, Nat.pow_add, show p.toNat = 0 by omega, Nat.pow_zero, Nat.mul_one, l7 s m, Int.natCast_mul]
    have hq : (0 : Int) < ((2 ^ (p - f.leastPlace).toNat : Nat) : Int) := by have := Nat.two_pow_pos (p - f.leastPlace).toNat; omega
    have xO : (0 : Int) < ((2 ^ (-p).toNat : Nat) : Int) := by have := Nat.two_pow_pos (-p).toNat; omega
    rw [Int.fdiv_eq_ediv_of_nonneg _ (by omega), Int.fdiv_eq_ediv_of_nonneg _ (by have := Int.mul_pos xO hq; omega), Int.mul_ediv_mul_of_pos_left _ _ hq]
  rw [<- KL] at hr ⊢; rw [<- l7, mV] at hr; rw [nF (r := Toward.down.cut s (m <<< p.toNat) (-p).toNat * 2 ^ (-f.leastPlace).toNat) f.leastPlace hl (Int.le_refl _) (by rw [lK, show (0 - f.leastPlace).toNat = (-f.leastPlace).toNat by omega]; simp) hr hg, l7]
end Format
end Ieee
namespace Ieee
open Format
theorem zW : 0 < single.exponentBits /\ 0 < single.fractionBits := by decide
theorem F2 : 0 < double.exponentBits /\ 0 < double.fractionBits := by decide
theorem UL {f : Format} {x : Nat} {u : Int} (h : f.cZ x = some u) : ∃ c k, u.natAbs = c * 2 ^ k /\ c < 2 ^ (f.fractionBits + 1) /\ (c = 0 -> k = 0) := by
  obtain ⟨s, m, p, h1, h2, rfl⟩ := dW h
  have hm : m < 2 ^ (f.fractionBits + 1) := by
    have hb : 0 < f.binade := Nat.two_pow_pos _
    have h2b : 2 ^ (f.fractionBits + 1) = 2 * f.binade := by rw [Nat.pow_succ, Nat.mul_comm]; rfl
    rw [h2b]; unfold Format.read at h1; dsimp only at h1; split at h1
    . cases h1; omega
    split at h1
    . cases h1; have := Nat.mod_lt (x % f.signWeight) hb; omega
    split at h1 <;> cases h1
  rw [mV]; by_cases h0 : m = 0
  . exact ⟨0, 0, by rw [h0]; simp, Nat.two_pow_pos _, fun _ => rfl⟩
  exact ⟨m, _, rfl, hm, fun e => absurd e h0⟩
theorem RH {f g : Format} {x : Nat} {u : Int} (h : f.cZ x = some u) (hle : f.fractionBits <= g.fractionBits) {B j : Nat} (hB : u.natAbs <= 2 ^ B) (hj : B + j + 2 <= 2 ^ g.exponentBits - 1) : g.NY (u.natAbs * 2 ^ j) := by
  obtain ⟨c, k, h1, h2, h3⟩ := UL h; by_cases h0 : c = 0
  . refine ⟨0, 0, by rw [h1, h0]; simp, Nat.two_pow_pos _, by omega⟩
  refine ⟨c, k + j, by rw [h1, Nat.mul_assoc, <- Nat.pow_add], Nat.lt_of_lt_of_le h2 (Nat.pow_le_pow_right (by omega) (by omega)), ?_⟩
  have hk : k <= B := by
    have : 2 ^ k <= 2 ^ B := by
      refine Nat.le_trans ?_ hB; rw [h1]; exact Nat.le_mul_of_pos_left _ (by omega)
    exact (Nat.pow_le_pow_iff_right (by omega)).1 this
  omega
theorem BE {f : Format} {n j : Nat} (hn : n < 2 ^ (f.fractionBits + 1)) (hj : j + 2 <= 2 ^ f.exponentBits - 1) : f.NY (n * 2 ^ j) := ⟨n, j, rfl, hn, hj⟩
abbrev u32 (x : Nat) : Option Int := single.cZ x
abbrev u64 (x : Nat) : Option Int := double.cZ x
theorem agH : (2 ^ (-single.leastPlace).toNat : Nat) = 713623846352979940529142984724747568191373312 := by decide
def fD (x : Nat) : Int := match u32 x with
  | none => 1
  | some u => if (-45671926166590716193865151022383844364247891968 <= u /\ u <= 45671926166590716193865151022383844364247891968) /\ u % 44601490397061246283071436545296723011960832 = 0 then 0 else 3
def qV (x : Nat) : Int := match u32 x with
  | none => 0
  | some u => u / 44601490397061246283071436545296723011960832
theorem mF {x : Nat} (h : fD x = 0) : u32 x = some (qV x * 44601490397061246283071436545296723011960832) /\ -1024 <= qV x /\ qV x <= 1024 := by
  unfold fD at h; split at h
  . cases h
  rename_i u hu; split at h
  . rename_i hc; unfold qV; rw [hu]; simp only; have hd := Int.mul_ediv_add_emod u 44601490397061246283071436545296723011960832; refine ⟨?_, by omega, by omega⟩; congr 1; omega
  cases h
theorem akP {x : Nat} {n : Int} (h : u32 x = some (n * 44601490397061246283071436545296723011960832)) (h0 : -1024 <= n) (h1 : n <= 1024) : fD x = 0 /\ qV x = n := by
  unfold fD qV; rw [h]; simp only; refine ⟨?_, ?_⟩
  . rw [if_pos]; exact ⟨by omega, by rw [Int.mul_emod_left]⟩
  rw [Int.mul_ediv_cancel _ (by decide)]
theorem Z2 {x w : Nat} {u : Int} (hw : u32 w = some (16 * 713623846352979940529142984724747568191373312)) (h : u32 x = some u) (h0 : u.natAbs <= 45671926166590716193865151022383844364247891968) : ∃ r, single.mul x w = some r /\ u32 r = some (16 * u) := by
  refine LI h hw (by decide) ?_ ?_ zW
  . rw [agH, Int.mul_comm 16 u, Int.mul_assoc]; rfl
  have := RH (g := single) h (Nat.le_refl _) (B := 155) (j := 4) (Nat.le_trans h0 (by decide)) (by decide)
  rwa [show (16 * u).natAbs = u.natAbs * 2 ^ 4 by omega]
theorem toInt32 {x : Nat} {u : Int} (h : u32 x = some u) : (single.read x).toInt .zero = some (u.tdiv 713623846352979940529142984724747568191373312) := by
  rw [RD h (by decide), agH]; rfl
theorem ofInt32 {n : Int} (h : n.natAbs < 2 ^ 24) : u32 (single.write (.number (n < 0) n.natAbs 0)) = some (n * 713623846352979940529142984724747568191373312) := by
  rw [u32, RE (by decide) (BE h (by decide)) zW, agH]; rfl
theorem ao5 {x y : Nat} {u v : Int} (hx : u32 x = some u) (hy : u32 y = some v) (hr : single.NY (u + v).natAbs) : ∃ r, single.add x y = some r /\ u32 r = some (u + v) := Z0 hx hy rfl hr zW
theorem UM {x : Nat} {u : Int} (hx : u32 x = some u) : ∃ r, single.sub x x = some r /\ u32 r = some 0 := Z1 hx hx (by omega) ⟨0, 0, rfl, by decide, by decide⟩ zW
def kW : Nat := 2 ^ (single.leastPlace - double.leastPlace).toNat
theorem akQ : 0 < kW := Nat.two_pow_pos _
def GW : Nat := 300
theorem Z3 {x : Nat} {u : Int} (hx : u32 x = some u) (h0 : u.natAbs <= 2 ^ GW) : u64 (double.write (single.read x)) = some (u * (kW : Nat)) := by
  have := RF (g := double) hx (by decide) (RH (g := double) hx (by decide) (B := GW) h0 (by decide +kernel)) F2; rw [u64, this]; rfl
end Ieee
namespace Ieee
open Format
theorem Z4 : (2 ^ (-double.leastPlace).toNat : Nat) = 713623846352979940529142984724747568191373312 * kW := by decide +kernel
theorem Z5 {x : Nat} {u : Int} (h : u32 x = some u) : u.natAbs <= 2 ^ GW := by
  obtain ⟨s, m, p, h1, h2, rfl⟩ := dW h; rw [mV]; have hb : 0 < single.binade := Nat.two_pow_pos _
  have eb : single.binade = 8388608 := by decide
  have ei : single.infRung = 2139095040 := by decide
  have hm : m < 2 ^ 24 /\ (p - single.leastPlace).toNat <= 253 := by
    unfold Format.read at h1; dsimp only at h1; split at h1
    . cases h1; omega
    split at h1
    . rename_i h3 h4; cases h1; have h5 := Nat.mod_lt (x % single.signWeight) hb; rw [eb] at h5 ⊢; rw [ei] at h4; omega
    split at h1 <;> cases h1
  have h3 : 2 ^ (p - single.leastPlace).toNat <= 2 ^ 253 := Nat.pow_le_pow_right (by omega) hm.2; have h4 : m * 2 ^ (p - single.leastPlace).toNat <= 2 ^ 24 * 2 ^ 253 := Nat.mul_le_mul (by omega) h3; exact Nat.le_trans h4 (by decide +kernel)
theorem akR {x y w : Nat} {u : Int} (hw : u64 w = some ((16 : Int) * ((713623846352979940529142984724747568191373312 * kW : Nat) : Int))) (hx : u32 x = some u) (hy : u64 y = some (u * (kW : Nat))) (h0 : u.natAbs <= 2 ^ GW) : ∃ r, double.mul w y = some r /\ u64 r = some (16 * (u * (kW : Nat))) := by
  refine LI hw hy (by decide) ?_ ?_ F2
  . rw [Z4, Int.mul_assoc, Int.mul_comm _ (u * (kW : Nat)), <- Int.mul_assoc]
  have := RH (g := double) hx (by decide) (B := GW) (j := 4 + (single.leastPlace - double.leastPlace).toNat) h0 (by decide +kernel); rw [Nat.pow_add, <- Nat.mul_assoc] at this
  rwa [show (16 * (u * (kW : Nat))).natAbs = u.natAbs * 2 ^ 4 * kW by rw [Int.natAbs_mul, Int.natAbs_mul, Int.natAbs_natCast, <- Nat.mul_assoc, Nat.mul_comm u.natAbs]; rfl]
theorem Z6 {a k : Int} (hk : 0 < k) : (a * k).fdiv (713623846352979940529142984724747568191373312 * k) = a / 713623846352979940529142984724747568191373312 := by
  rw [Int.fdiv_eq_ediv_of_nonneg _ (by omega), Int.mul_ediv_mul_of_pos_left _ _ hk]
theorem IC : (0 : Int) < (kW : Int) := by have := akQ; omega
theorem cast_mk : ((713623846352979940529142984724747568191373312 * kW : Nat) : Int) = 713623846352979940529142984724747568191373312 * (kW : Int) := by rw [Int.natCast_mul]; rfl
theorem akS {r : Nat} {u : Int} (hr : u64 r = some (16 * (u * (kW : Nat)))) (h0 : -45671926166590716193865151022383844364247891968 <= u /\ u <= 45671926166590716193865151022383844364247891968) :
    u64 (double.write ((double.read r).integral .down)) = some (16 * u / 713623846352979940529142984724747568191373312 * (713623846352979940529142984724747568191373312 * kW : Nat)) := by
  have hf : (16 * (u * (kW : Nat))).fdiv (2 ^ (-double.leastPlace).toNat : Nat) = 16 * u / 713623846352979940529142984724747568191373312 := by
    rw [Z4, cast_mk, <- Int.mul_assoc]; exact Z6 IC
  have := RG hr (by decide) (by
    rw [hf, Int.natAbs_mul, Int.natAbs_natCast]; refine BE ?_ (by decide)
    have : (16 * u / 713623846352979940529142984724747568191373312).natAbs < 2000 := by omega
    exact Nat.lt_of_lt_of_le this (by decide)) F2
  rw [hf, Z4] at this; exact this
theorem Z7 {u : Int} : (16 * (u * (kW : Nat)) = 16 * u / 713623846352979940529142984724747568191373312 * (713623846352979940529142984724747568191373312 * kW : Nat)) ↔ u % 44601490397061246283071436545296723011960832 = 0 := by
  rw [cast_mk, <- Int.mul_assoc, <- Int.mul_assoc]; have hk := IC; constructor
  . intro h; have := Int.eq_of_mul_eq_mul_right (by omega) h; omega
  intro h; congr 1; omega
theorem RI {u : Int} (h0 : -45671926166590716193865151022383844364247891968 <= u /\ u <= 45671926166590716193865151022383844364247891968) : ((16 * u).tdiv 713623846352979940529142984724747568191373312 * 713623846352979940529142984724747568191373312 = 16 * u) ↔ u % 44601490397061246283071436545296723011960832 = 0 := by
  have h1 := Int.mul_tdiv_add_tmod (16 * u) 713623846352979940529142984724747568191373312; have h2 : (16 * u).tmod 713623846352979940529142984724747568191373312 = 0 ↔ (713623846352979940529142984724747568191373312 : Int) ∣ 16 * u := (Int.dvd_iff_tmod_eq_zero).symm; constructor
  . intro h; have h3 : (713623846352979940529142984724747568191373312 : Int) ∣ 16 * u := h2.1 (by omega); omega
  intro h
  have h3 : (713623846352979940529142984724747568191373312 : Int) ∣ 16 * u := by omega
  have := h2.2 h3; omega
theorem agI {u n : Int} (h : u = n * 44601490397061246283071436545296723011960832) : (16 * u).tdiv 713623846352979940529142984724747568191373312 = n := by
  rw [h, show 16 * (n * 44601490397061246283071436545296723011960832) = n * 713623846352979940529142984724747568191373312 by omega, Int.mul_tdiv_cancel _ (by decide)]
end Ieee
namespace Go.Fs
variable {P : Program} {h : Heap} {S : List Nat} {σ : aM} {t : Tr} {fl : VL} {x y : Operand} {T T' : TypeId} {v pv : PV} {k k' : FloatKind} {p q : Nat}
def dX (b : BinOp) (k : FloatKind) (p q : Nat) : Bool := match b with
  | .eql => k.format.order p q == some .eq
  | .neq => k.format.order p q != some .eq
  | .lss => k.format.order p q == some .lt
  | .leq => k.format.order p q == some .lt || k.format.order p q == some .eq
  | .gtr => k.format.order p q == some .gt
  | .geq => k.format.order p q == some .gt || k.format.order p q == some .eq
  | _ => false
def ab6 : BinOp -> Bool
  | .eql | .neq | .lss | .leq | .gtr | .geq => true
  | _ => false
theorem aF.UN (b : BinOp) (hb : ab6 b = true := by rfl) (hx : aQ fl x = some (.v (.bJ k) p) := by rfl) (hy : aQ fl y = some (.v (.bJ k) q) := by rfl) : aF P fl σ (.binOp b T x y T') (.v .bool (dX b k p q)) :=
  .bin hx hy fun h S a c ha hc => by
    obtain rfl := aE.bJ ha; obtain rfl := aE.bJ hc; refine ⟨.bool (dX b k p q), aE.ofBool _, rfl, ?_⟩; cases b <;> first | (cases hb; done) | skip
    all_goals simp [bU, eqGuard, binOp, Op.floatCmp, dX, aD, aK, aC, af, q6, dQ]
def LK (b : BinOp) (k : FloatKind) (p q : Nat) : Option Nat := match b with
  | .add => k.format.add p q
  | .sub => k.format.sub p q
  | .mul => k.format.mul p q
  | .quo => k.format.div p q
  | _ => none
theorem aF.RJ {b : BinOp} {r : Nat} (hr : LK b k p q = some r) (hx : aQ fl x = some (.v (.bJ k) p) := by rfl) (hy : aQ fl y = some (.v (.bJ k) q) := by rfl) : aF P fl σ (.binOp b T x y T') (.v (.bJ k) r) :=
  .bin hx hy fun h S a c ha hc => by
    obtain rfl := aE.bJ ha; obtain rfl := aE.bJ hc; refine ⟨.float k r, aE.yH _ _, rfl, ?_⟩; cases b <;> first | (cases hr; done) | skip
    all_goals
      simp only [LK] at hr; simp [bU, eqGuard, binOp, Op.floatArith, hr, aD, aK, aC, af, q6, dQ]
theorem aF.arF {b : BinOp} (hn : IN b k p q = true) (hx : aQ fl x = some (.v (.bJ k) p) := by rfl) (hy : aQ fl y = some (.v (.bJ k) q) := by rfl) : aF P fl σ (.binOp b T x y T') (.raw (jH k)) :=
  ⟨rfl, fun h S t hs _ => by
    have ha := aE.bJ (hs x (by simp [Op.operands]) _ hx : aE h S (.bJ k) _ p); have hc := aE.bJ (hs y (by simp [Op.operands]) _ hy : aE h S (.bJ k) _ q); refine ⟨jH k, rfl, fun _ _ _ _ _ H => ?_⟩; show (if (af (aA t x) && af (aA t y)) = true then ((bU P (do eqGuard b T x y (aA t x) (aA t y); binOp b T (aA t x) (aA t y))).or (zI b (aA t x) (aA t y))).map _ else _) = _; rw [ha, hc, if_pos (show (af (Value.float k p) && af (Value.float k q)) = true from rfl)]
    have h1 : bU P (do eqGuard b T x y (.float k p) (.float k q); binOp b T (.float k p) (.float k q)) = none := by
      unfold IN at hn; split at hn
      all_goals first | (cases hn; done) | skip
      all_goals
        rw [Option.isNone_iff_eq_none] at hn; simp [bU, eqGuard, binOp, Op.floatArith, hn, aD, aK, aC, choose, Sem.bind]
        exact fun a ha => by have h0 : (none : Option Value) = some a := ha; cases h0
    have h2 : zI b (.float k p) (.float k q) = some (jH k) := by
      unfold zI; simp [hn]
    rw [h1, h2]; rfl⟩
theorem aF.agJ {b : BinOp} {r : Bool} (hr : I3 b = some r) (hx : aQ fl x = some (.raw (jH k)) := by rfl) (hy : aQ fl y = some (.v (.bJ k) q) := by rfl) : aF P fl σ (.binOp b T x y T') (.v .bool r) :=
  ⟨rfl, fun h S t hs _ => by
    have ha : aA t x = jH k := hs x (by simp [Op.operands]) _ hx; have hc := aE.bJ (hs y (by simp [Op.operands]) _ hy : aE h S (.bJ k) _ q); refine ⟨.bool r, aE.ofBool _, fun _ _ _ _ _ H => ?_⟩; show (if (af (aA t x) && af (aA t y)) = true then _ else ((E3 P b T (aA t x) (aA t y)).or (sA b (aA t x) (aA t y))).map _) = _; rw [ha, hc, if_neg (by simp [af, q6, dQ, jH])]
    have h2 : sA b (jH k) (.float k q) = some r := by
      simp [sA, uK, jH, C2, hr]
    rw [h2]; rfl⟩
theorem aF.acS {b : BinOp} {r : Bool} (hr : I3 b = some r) (hx : aQ fl x = some (.raw (jH k)) := by rfl) (hy : aQ fl y = some (.raw (jH k)) := by rfl) : aF P fl σ (.binOp b T x y T') (.v .bool r) :=
  ⟨rfl, fun h S t hs _ => by
    have ha : aA t x = jH k := hs x (by simp [Op.operands]) _ hx; have hc : aA t y = jH k := hs y (by simp [Op.operands]) _ hy; refine ⟨.bool r, aE.ofBool _, fun _ _ _ _ _ H => ?_⟩; show (if (af (aA t x) && af (aA t y)) = true then _ else ((E3 P b T (aA t x) (aA t y)).or (sA b (aA t x) (aA t y))).map _) = _; rw [ha, hc, if_neg (by simp [af, q6, dQ, jH])]
    have h2 : sA b (jH k) (jH k) = some r := by
      simp [sA, uK, jH, C2, hr]
    rw [h2]; rfl⟩
def pT (P : Program) (s D : TypeId) (k2 : FloatKind) : Bool := (P.underlying s).isSome && (match P.underlying D with | some (.float k) => decide (k = k2) | _ => false)
theorem aF.amH {n : Int} {s D : TypeId} {κ : IntKind} (k2 : FloatKind) (hx : aQ fl x = some (.v (.int κ) n) := by rfl) (hb : pT P s D k2 = true := by kernel_rfl) : aF P fl σ (.convert s D x) (.v (.bJ k2) (k2.nearest n)) :=
  .conv hx fun h S a ha => by
    obtain rfl := aE.int ha; unfold pT at hb; obtain ⟨b1, b2⟩ := aT hb; obtain ⟨td, hs⟩ := Option.isSome_iff_exists.1 b1; split at b2
    . rename_i k3 hd; obtain rfl : k3 = k2 := of_decide_eq_true b2; refine ⟨.float k3 (k3.nearest n), aE.yH _ _, rfl, ?_⟩; unfold bU convert; simp only [aD, aG hs, aG hd, Option.bind_some]; show (aC P (Conv.intToFloat k3 n)).bind _ = _; simp only [Conv.intToFloat, aK, Option.bind_some]; rfl
    cases b2
theorem aF.amI {n : Int} {s D : TypeId} (hn : (k.decode p).toInt .zero = some n) (hf : fit n) (hx : aQ fl x = some (.v (.bJ k) p) := by rfl) (hb : BB P s D .i64 = true := by kernel_rfl) : aF P fl σ (.convert s D x) (.v (.int .i64) n) :=
  .conv hx fun h S a ha => by
    obtain rfl := aE.bJ ha; unfold BB at hb; obtain ⟨b1, b2⟩ := aT hb; obtain ⟨td, hs⟩ := Option.isSome_iff_exists.1 b1; split at b2
    . rename_i k3 hd; obtain rfl : k3 = .i64 := of_decide_eq_true b2; refine ⟨.int .i64 n, aE.ofInt _ _, rfl, ?_⟩; unfold bU convert; simp only [aD, aG hs, aG hd, Option.bind_some]; show (aC P (Conv.floatToInt k p .i64)).bind _ = _; have hr : IntKind.i64.min <= n /\ n <= IntKind.i64.max := ⟨hf.1, hf.2⟩; simp only [Conv.floatToInt, hn, hr, and_self, if_true, aK, Option.bind_some]; rfl
    cases b2
theorem aF.arG {s D : TypeId} (k2 : FloatKind) (cA : ¬ k = k2) {u : Int} (hu : k.format.cZ p = some u) {r : Nat} {u' : Int} (hr : k2.format.write (k.format.read p) = r) (l3 : k2.format.cZ r = some u') (hx : aQ fl x = some (.v (.bJ k) p) := by rfl) (hb : pT P s D k2 = true := by kernel_rfl) : aF P fl σ (.convert s D x) (.v (.bJ k2) r) :=
  .conv hx fun h S a ha => by
    obtain rfl := aE.bJ ha; unfold pT at hb; obtain ⟨b1, b2⟩ := aT hb; obtain ⟨td, hs⟩ := Option.isSome_iff_exists.1 b1; split at b2
    . rename_i k3 hd; obtain rfl : k3 = k2 := of_decide_eq_true b2; refine ⟨.float k3 r, aE.yH _ _, rfl, ?_⟩; unfold bU convert; simp only [aD, aG hs, aG hd, Option.bind_some]; show (aC P (Conv.floatToFloat k p k3)).bind _ = _; obtain ⟨sg, m, pl, h1, _, _⟩ := Ieee.Format.dW hu; have nQ : k.decode p = .number sg m pl := h1
      have h2 : k3.encode (.number sg m pl) = r := by rw [<- hr, h1]; rfl
      obtain ⟨sg', m', pl', h3, _, _⟩ := Ieee.Format.dW l3; have U8 : k3.decode r = .number sg' m' pl' := h3; simp only [Conv.floatToFloat, cA, if_false, nQ, h2, U8, Ieee.Datum.isInfinity, Bool.false_eq_true, aK, Option.bind_some]; rfl
    cases b2
theorem aF.ao6 {s D : TypeId} {sg : Bool} (k2 : FloatKind) (cA : ¬ k = k2) (hu : k.format.read p = .infinity sg) (hx : aQ fl x = some (.v (.bJ k) p) := by rfl) (hb : pT P s D k2 = true := by kernel_rfl) : aF P fl σ (.convert s D x) (.v (.bJ k2) (k2.format.write (.infinity sg))) :=
  .conv hx fun h S a ha => by
    obtain rfl := aE.bJ ha; unfold pT at hb; obtain ⟨b1, b2⟩ := aT hb; obtain ⟨td, hs⟩ := Option.isSome_iff_exists.1 b1; split at b2
    . rename_i k3 hd; obtain rfl : k3 = k2 := of_decide_eq_true b2; refine ⟨.float k3 (k3.encode (.infinity sg)), aE.yH _ _, rfl, ?_⟩; unfold bU convert; simp only [aD, aG hs, aG hd, Option.bind_some]; show (aC P (Conv.floatToFloat k p k3)).bind _ = _; have nQ : k.decode p = .infinity sg := hu; simp only [Conv.floatToFloat, cA, if_false, nQ, aK, Option.bind_some]; rfl
    cases b2
theorem aF.ao7 {s D : TypeId} {sg : Bool} {m : Nat} (k2 : FloatKind) (cA : ¬ k = k2) (hu : k.format.read p = .nan sg m) (hx : aQ fl x = some (.v (.bJ k) p) := by rfl) (hb : pT P s D k2 = true := by kernel_rfl) : aF P fl σ (.convert s D x) (.raw (jH k2)) :=
  ⟨rfl, fun h S t hs _ => by
    have ha := aE.bJ (hs x (by simp [Op.operands]) _ hx : aE h S (.bJ k) _ p); refine ⟨jH k2, rfl, fun _ _ _ _ _ H => ?_⟩; show (if af (aA t x) = true then ((bU P (convert s D (aA t x))).or (tT P s D (aA t x))).map _ else _) = _; rw [ha, if_pos (show af (Value.float k p) = true from rfl)]; unfold pT at hb; obtain ⟨b1, b2⟩ := aT hb; obtain ⟨td, hs⟩ := Option.isSome_iff_exists.1 b1; split at b2
    . rename_i k3 hd; obtain rfl : k3 = k2 := of_decide_eq_true b2; have nQ : k.decode p = .nan sg m := hu
      have e1 : bU P (convert s D (.float k p)) = none := by
        unfold bU convert; simp only [aD, aG hs, aG hd, Option.bind_some]; show (aC P (Conv.floatToFloat k p k3)).bind _ = _; simp [Conv.floatToFloat, cA, nQ, choose, aD, aC]
        try exact fun a ha => by have h0 : (none : Option Value) = some a := ha; cases h0
      have e2 : tT P s D (.float k p) = some (jH k3) := by
        simp [tT, hs, hd, cA, nQ, Ieee.Datum.isNaN]
      rw [e1, e2]; rfl
    cases b2⟩
theorem D7 (u v : Int) : compare u v = if u < v then .lt else if u = v then .eq else .gt := rfl
theorem GX {u v : Int} (hp : k.format.cZ p = some u) (hq : k.format.cZ q = some v) :
    dX .eql k p q = decide (u = v) /\ dX .neq k p q = decide (u ≠ v) /\ dX .lss k p q = decide (u < v) /\ dX .leq k p q = decide (u <= v) /\ dX .gtr k p q = decide (v < u) /\ dX .geq k p q = decide (v <= u) := by
  have ho : k.format.order p q = some (compare u v) := Ieee.Format.D6 hp hq; simp only [dX, ho, D7]; by_cases h1 : u < v
  . have : ¬ u = v := by omega
    simp [h1, this]; omega
  by_cases h2 : u = v
  . subst h2; simp
  simp [h1, h2]; omega
end Go.Fs
namespace Go.Fs
variable {P : Program} {orc : FuncId -> List Value -> Heap -> Option (Value × Heap)} {aR : Option Nat} {h h' h0 h1 h2 : Heap} {S S' S0 B G : List Nat} {σ σ' : aM} {t t' : Tr} {ms : List Nat} {fl : VL} {ops : Array Oper} {n : Nat} {l : List Oper} {K : VL -> aM -> Prop} {Q : Ex -> VL -> aM -> Prop}
  {d : Tmp} {ty : TypeId} {pos : String} {after : Array Edge} {op : Op} {v pv : PV} {g : Option (Nat × Bool)} {x y z : Operand} {T T' e : TypeId} {κ ν : Ty} {w : Value}
section
variable {α β : Type} [DecidableEq α]
end
structure arH (P : Program) (K : TypeId) (κ : Ty) : Prop where
  flat : κ.iC = true
  und : ∃ td, P.underlying K = some td /\ ((∀ {h : Heap} {S : List Nat} (u v : Value) (x y : κ.den) (inst : Decidable (x = y)), aE h S κ u x -> aE h S κ v y -> Instr.sameNow td u v = some (@decide (x = y) inst)) \/
    ((∀ u v, Instr.sameNow td u v = none) /\ ∀ {h : Heap} {S : List Nat} (u v : Value) (x y : κ.den) (inst : Decidable (x = y)), aE h S κ u x -> aE h S κ v y -> aC P (Op.equal K u v) = some (@decide (x = y) inst)))
  chk : ∀ {h : Heap} {S : List Nat} (em : Bool) (u : Value) (x : κ.den), aE h S κ u x -> (aC P (Instr.checkKey em 10000 K u)).isSome = true
  bits : ∀ {h : Heap} {S : List Nat} (u : Value) (x : κ.den), aE h S κ u x -> Instr.sameBits 10000 u u = true
structure atQ (P : Program) (T : TypeId) (κ ν : Ty) : Prop where
  key : ∃ K E, P.underlying T = some (.map K E) /\ arH P K κ /\ tG P E ν
section
variable [DecidableEq κ.den] {k : κ.den} {nC : List (κ.den × ν.den)}
end
end Go.Fs
namespace Go.Fs
variable {P : Program} {orc : FuncId -> List Value -> Heap -> Option (Value × Heap)} {h : Heap} {S : List Nat} {σ : aM} {t : Tr} {fl : VL} {x y : Operand} {T T' : TypeId} {v pv : PV} {k k' : FloatKind} {p q : Nat}
theorem aF.yR {b : BinOp} {r : Bool} (he : dX b k p q = r) (hb : ab6 b = true := by rfl) (hx : aQ fl x = some (.v (.bJ k) p) := by rfl) (hy : aQ fl y = some (.v (.bJ k) q) := by rfl) : aF P fl σ (.binOp b T x y T') (.v .bool r) := he ▸ aF.UN b hb hx hy
theorem VF.ext {f : FuncId} {args : List PV} {r : PV} {fn : Func} {e : Array Value -> Sem Value} {us : List Value} {w : Value} (kX : P.funcs[f]? = some fn) (ho : ∀ us h, orc f us h = none) (hb : (fn.body.isNone && !(fn.name == "runtime.NumGoroutine")) = true) (h1 : (Extern.findNext fn).isNone = true) (h2 : Extern.find fn = some e)
    (ha : us.all af = true) (YJ : ∀ (h : Heap) (S : List Nat) (q8 : List Value), aX h S args q8 -> q8 = us) (hv : bU P (e us.toArray) = some w) (hr : ∀ (h : Heap) (S : List Nat), aI h S r w) : VF P orc f args r := fun h S q8 aZ hS mD => by
  obtain rfl := YJ h S q8 mD; exact nP.ext (ho _ _) kX hb h1 h2 ha hv ⟨cK.refl _ _, hr _ _, fun _ => rfl⟩
theorem acT {h : Heap} {S : List Nat} {us : List Value} {k : FloatKind} {p : Nat} (hr : aX h S [.v (.bJ k) p] us) : us = [.float k p] := by
  obtain ⟨u, r, rfl, h2, h3⟩ := hr; obtain rfl : r = [] := h3; rw [aE.bJ h2]
theorem VF.RL {f : FuncId} {r : PV} {fn : Func} {e : Array Value -> Sem Value} {w : Value} (kX : P.funcs[f]? = some fn) (ho : ∀ us h, orc f us h = none) (hb : (fn.body.isNone && !(fn.name == "runtime.NumGoroutine")) = true) (h1 : (Extern.findNext fn).isNone = true) (h2 : Extern.find fn = some e)
    (hv : bU P (e #[.float k p]) = some w) (hr : ∀ (h : Heap) (S : List Nat), aI h S r w) : VF P orc f [.v (.bJ k) p] r :=
  VF.ext (us := [.float k p]) kX ho hb h1 h2 rfl (fun _ _ _ hr => acT hr) hv hr
theorem VF.ab7 {f : FuncId} {r : PV} {κ : IntKind} {n : Int} {fn : Func} {e : Array Value -> Sem Value} {w : Value} (kX : P.funcs[f]? = some fn) (ho : ∀ us h, orc f us h = none) (hb : (fn.body.isNone && !(fn.name == "runtime.NumGoroutine")) = true) (h1 : (Extern.findNext fn).isNone = true) (h2 : Extern.find fn = some e)
    (hv : bU P (e #[.int κ n]) = some w) (hr : ∀ (h : Heap) (S : List Nat), aI h S r w) : VF P orc f [.v (.int κ) n] r :=
  VF.ext (us := [.int κ n]) kX ho hb h1 h2 rfl (fun _ _ _ hr => acM _ _ _ hr) hv hr
theorem RM {p q r : Nat} (h : Ieee.single.mul p q = some r) : LK .mul .f32 p q = some r := h
theorem akT {p q r : Nat} (h : Ieee.single.sub p q = some r) : LK .sub .f32 p q = some r := h
theorem ab8 {p q r : Nat} (h : Ieee.single.add p q = some r) : LK .add .f32 p q = some r := h
theorem ab9 {p q r : Nat} (h : Ieee.double.mul p q = some r) : LK .mul .f64 p q = some r := h
theorem akU {p : Nat} (h : Ieee.u32 p = none) : IN .sub .f32 p p = true := by
  show (Ieee.single.sub p p).isNone = true; rw [Ieee.Format.LJ h]; rfl
theorem P0 {p : Nat} {n : Int} (h : (Ieee.single.read p).toInt .zero = some n) : (FloatKind.f32.decode p).toInt .zero = some n := h
theorem Z8 {p : Nat} (h : Ieee.double.order p p = some .eq) : dX .neq .f64 p p = false := by
  show (Ieee.double.order p p != some .eq) = false; rw [h]; rfl
theorem zX {p q : Nat} {u v : Int} (hp : Ieee.u32 p = some u) (hq : Ieee.u32 q = some v) :
    dX .eql .f32 p q = decide (u = v) /\ dX .neq .f32 p q = decide (u ≠ v) /\ dX .lss .f32 p q = decide (u < v) /\ dX .leq .f32 p q = decide (u <= v) /\ dX .gtr .f32 p q = decide (v < u) /\ dX .geq .f32 p q = decide (v <= u) := GX (k := .f32) hp hq
theorem ID {p q : Nat} {u v : Int} (hp : Ieee.u64 p = some u) (hq : Ieee.u64 q = some v) :
    dX .eql .f64 p q = decide (u = v) /\ dX .neq .f64 p q = decide (u ≠ v) /\ dX .lss .f64 p q = decide (u < v) /\ dX .leq .f64 p q = decide (u <= v) /\ dX .gtr .f64 p q = decide (v < u) /\ dX .geq .f64 p q = decide (v <= u) := GX (k := .f64) hp hq
theorem aF.Z3 {s D : TypeId} {u u' : Int} (hu : Ieee.u32 p = some u) (hr : Ieee.u64 (Ieee.double.write (Ieee.single.read p)) = some u') (hx : aQ fl x = some (.v (.bJ .f32) p) := by rfl) (hb : pT P s D .f64 = true := by kernel_rfl) : aF P fl σ (.convert s D x) (.v (.bJ .f64) (Ieee.double.write (Ieee.single.read p))) :=
  aF.arG (k := .f32) .f64 (by decide) hu rfl hr hx hb
theorem aF.akV {s D : TypeId} {sg : Bool} (hu : Ieee.single.read p = .infinity sg) (hx : aQ fl x = some (.v (.bJ .f32) p) := by rfl) (hb : pT P s D .f64 = true := by kernel_rfl) : aF P fl σ (.convert s D x) (.v (.bJ .f64) (Ieee.double.write (.infinity sg))) :=
  aF.ao6 (k := .f32) .f64 (by decide) hu hx hb
theorem aF.akW {s D : TypeId} {sg : Bool} {m : Nat} (hu : Ieee.single.read p = .nan sg m) (hx : aQ fl x = some (.v (.bJ .f32) p) := by rfl) (hb : pT P s D .f64 = true := by kernel_rfl) : aF P fl σ (.convert s D x) (.raw (jH .f64)) :=
  aF.ao7 (k := .f32) .f64 (by decide) hu hx hb
theorem Z9 {P : Program} {y : Nat} {s : Bool} {m : Nat} {pl : Int} (h : Ieee.double.read y = .number s m pl) : bU P (Extern.MathFloor.toIntegral "math.archFloor" .down #[.float .f64 y]) = some (.float .f64 (Ieee.double.write ((Ieee.double.read y).integral .down))) := by
  have e : Extern.MathFloor.toIntegral "math.archFloor" .down #[.float .f64 y] = (match FloatKind.f64.decode y with
    | .nan s t =>
      if FloatKind.f64.format.quiet t = t then pure (.float .f64 y) else do
      let kept <- choose (.extern "math.Floor,Ceil,Trunc,RoundToEven.signallingNaN kept" 2)
      pure (.float .f64 (if kept == 1 then y else FloatKind.f64.encode (.nan s (FloatKind.f64.format.quiet t))))
    | d => pure (.float .f64 (FloatKind.f64.encode (d.integral .down)))) := rfl
  have h2 : FloatKind.f64.decode y = .number s m pl := h; rw [e, h2, h]; rfl
theorem ZA {b : Nat} : ((BitVec.ofInt 64 (b : Int)) &&& ~~~(BitVec.ofInt 64 9223372036854775808)).toNat = b % 9223372036854775808 := by
  rw [BitVec.toNat_and]
  have e1 : (~~~(BitVec.ofInt 64 9223372036854775808)).toNat = 2 ^ 63 - 1 := by decide
  have e2 : (BitVec.ofInt 64 (b : Int)).toNat = b % 2 ^ 64 := by
    rw [BitVec.toNat_ofInt]; omega
  rw [e1, e2, Nat.and_two_pow_sub_one_eq_mod]; omega
theorem aF.ZA {b : Nat} (hx : aQ fl x = some (.v (.int .u64) ((b : Nat) : Int))) (hy : aQ fl y = some (.v (.int .u64) 9223372036854775808)) : aF P fl σ (.binOp .andNot T x y T') (.v (.int .u64) ((b % 9223372036854775808 : Nat) : Int)) :=
  .rI hx hy (u := .int .u64 ((b % 9223372036854775808 : Nat) : Int)) (by
    show (aC P (Op.intBits .andNot .u64 (b : Int) 9223372036854775808)).bind _ = _; have e1 : Op.intBits .andNot .u64 (b : Int) 9223372036854775808 = pure (.int .u64 (IntKind.u64.wrap (((BitVec.ofInt 64 (b : Int)) &&& ~~~(BitVec.ofInt 64 9223372036854775808)).toNat : Int))) := rfl; rw [e1, Fs.ZA, aK]
    have e2 : IntKind.u64.wrap ((b % 9223372036854775808 : Nat) : Int) = ((b % 9223372036854775808 : Nat) : Int) := by
      have e3 : IntKind.u64.wrap ((b % 9223372036854775808 : Nat) : Int) = ((b % 9223372036854775808 : Nat) : Int) % 18446744073709551616 := rfl; rw [e3]; omega
    rw [e2]; rfl) fun h S => aE.ofInt _ _
end Go.Fs
namespace Ieee
open Format
theorem acU {b : Nat} : double.read (b % 9223372036854775808) = match double.read b with
    | .number _ m p => .number false m p
    | .infinity _ => .infinity false
    | .nan _ f => .nan false f := by
  have e0 : double.signWeight = 9223372036854775808 := by decide
  have e1 : b % 9223372036854775808 % double.signWeight = b % double.signWeight := by rw [e0]; omega
  have e2 : (b % 9223372036854775808 / double.signWeight % 2 == 1) = false := by
    rw [e0, show b % 9223372036854775808 / 9223372036854775808 = 0 by omega]; rfl
  unfold Format.read; simp only [e1, e2]; split
  . rfl
  split
  . rfl
  split <;> rfl
theorem ZB {b : Nat} {v : Int} (h : double.cZ b = some v) : double.cZ (b % 9223372036854775808) = some (v.natAbs : Int) := by
  obtain ⟨s, m, p, h1, h2, rfl⟩ := dW h; unfold cZ; rw [acU, h1]; simp only; rw [mV]; rfl
def UO : Int := (2 ^ 53 - 1) * (((2 ^ (2045 : Nat) : Nat)) : Int)
theorem ao8 : u64 9218868437227405311 = some UO := by decide +kernel
theorem ZC {u : Int} (h : u.natAbs <= 2 ^ GW) : ((u * (kW : Nat)).natAbs : Int) <= UO := by
  have h1 : 2 ^ GW * kW <= UO.natAbs := by decide +kernel
  have h2 : (u * (kW : Nat)).natAbs <= 2 ^ GW * kW := by
    rw [Int.natAbs_mul, Int.natAbs_natCast]; exact Nat.mul_le_mul_right _ h
  have h3 : (UO.natAbs : Int) = UO := by decide +kernel
  omega
end Ieee
namespace Go.Fs
variable {P : Program} {orc : FuncId -> List Value -> Heap -> Option (Value × Heap)} {aR : Option Nat} {h : Heap} {S : List Nat} {σ : aM} {t : Tr} {fl : VL} {x y : Operand} {T : TypeId} {n : Nat} {τ τ' : Ty} {Q : Ex -> VL -> aM -> Prop}
theorem U.IE {c : Code} (hx : U P orc aR c n fl σ (KO P orc aR n (.loop c) Q)) : U P orc aR (.loop c) n fl σ Q := fun h0 G S0 t h ms I => by
  refine iP.loop ((hx h0 G S0 t h ms I).mono fun e fr h' hq => ?_); obtain ⟨hn, dJ, σ', I', q⟩ := hq
  cases e with
  | normal =>
    obtain ⟨t', n', ms'⟩ := fr; obtain rfl : n' = n := hn
    exact q h0 G S0 t' h' ms' I'
  | exit i => exact ⟨hn, dJ, σ', I', q⟩
  | ret => exact ⟨hn, dJ, σ', I', q⟩
def agK (P : Program) (T : TypeId) (j k : Nat) (τ' : Ty) : Bool :=
  match P.underlying T with
  | some (.array n e) => match P.info? e with
    | some i => Nat.blt j n && Nat.beq k (j * i.size) && ab3 P e τ'
    | none => false
  | _ => false
theorem acV {j k : Nat} (hb : agK P T j k τ' = true) : ∃ m e i, P.underlying T = some (.array m e) /\ P.info? e = some i /\ j < m /\ k = j * i.size /\ gQ P e τ' := by
  unfold agK at hb; split at hb
  . rename_i m e hu; split at hb
    . rename_i i hi; obtain ⟨h1, h2⟩ := aT hb; obtain ⟨h3, h4⟩ := aT h1; exact ⟨m, e, i, hu, hi, iH h3, bD h4, iY h2⟩
    cases hb
  cases hb
theorem aF.ixA (j : Nat) {k : Nat} {dx : τ.den} {dy : τ'.den} (hs : Sub τ dx k τ' dy) (ha : τ.agg = true := by rfl) (hb : agK P T j k τ' = true := by kernel_rfl) (hx : aQ fl x = some (.v τ dx) := by rfl) (hy : aQ fl y = some (.v (.int .i64) ((j : Nat) : Int)) := by rfl) : aF P fl σ (.index T x y) (.v τ' dy) :=
  ⟨rfl, fun h S t hq _ => by
    have hv : aE h S τ (aA t x) dx := hq x (by simp [Op.operands]) _ hx; have hi : aA t y = .int .i64 ((j : Nat) : Int) := aE.int (hq y (by simp [Op.operands]) _ hy : aE h S (.int .i64) _ ((j : Nat) : Int)); obtain ⟨m, e, i, u1, u2, u3, u4, u5⟩ := acV hb; obtain ⟨cs, gX⟩ := YO ha hv; rw [gX] at hv; obtain ⟨h6, h7⟩ := hs.U1 hv.2; obtain ⟨v, v1, v2⟩ := EZ u5 (cs := cs) (o := k) h7; refine ⟨v, v2, fun _ _ _ _ _ H => ?_⟩; show (if af (aA t y) then (aC P (Instr.index T (aA t x) (aA t y))).map _ else none) = _; rw [hi, gX, if_pos (show af (Value.int .i64 ((j : Nat) : Int)) = true from rfl)]
    have h8 : (0 : Int) <= ((j : Nat) : Int) /\ ((j : Nat) : Int) < (m : Nat) := by omega
    have h9 : aC P (Instr.index T (.agg cs) (.int .i64 ((j : Nat) : Int))) = some v := by
      unfold Instr.index; simp only [aD, asIntOf, aK, Option.bind_some, aG u1, if_pos h8, gU u2, Int.toNat_natCast, <- u4]; exact v1
    rw [h9]; rfl⟩
section
variable {T' : TypeId}
end
end Go.Fs
namespace Go.Fs
variable {P : Program} {orc : FuncId -> List Value -> Heap -> Option (Value × Heap)} {aR : Option Nat} {h h' h0 h1 h2 : Heap} {S S' S0 B G : List Nat} {σ σ' : aM} {t t' : Tr} {ms : List Nat} {fl nw : VL} {ops : Array Oper} {n : Nat} {l : List Oper} {K : VL -> aM -> Prop} {Q : Ex -> VL -> aM -> Prop}
  {d : Tmp} {ty : TypeId} {pos : String} {after : Array Edge} {op : Op} {v pv : PV} {g : Option (Nat × Bool)} {x y z : Operand} {T T' e : TypeId} {w : Value} {s : ByteArray} {p : Nat}
theorem l6.rng (hT : P.underlying T = some .string := by kernel_rfl) (hx : aQ fl x = some (.v .str s) := by rfl) : l6 P fl (.range T x) (.it s 0) :=
  ⟨rfl, fun h S t hs aZ hS => by
    have hv : aA t x = .string s := aE.str (hs x (by simp [Op.operands]) _ hx : aE h S .str _ s); refine ⟨fun k => .pointer (some ⟨k, 0, none⟩), .iter s 0, fun _ => rfl, fun S' hN hm => ⟨h.next, rfl, hm, by rw [Heap.bB, if_pos rfl]⟩, fun H _ _ _ _ _ => ?_⟩; show xS P T (aA t x) H = _; rw [hv]
    simp [xS, hT]⟩
theorem bO.ao9 (hp : p < s.size) (hx : aQ fl x = some (.raw w)) : bO P fl ((w, .it s p) :: σ) (.next x true) fun v σ' => v = .nD [.v .bool true, .v (.int .i64) ((p : Nat) : Int), .v (.int .i32) (((Utf8.decode s p).1 : Nat) : Int)] /\ σ' = (w, .it s (p + (Utf8.decode s p).2)) :: σ :=
  ⟨rfl, fun S0 h t L => by
    have h1 : aA t x = w := cR L.aH hx; obtain ⟨b, h3, h4, hg⟩ := L.cells _ List.mem_cons_self; have hw : w = .pointer (some ⟨b, 0, none⟩) := h3
    have jC : cD w = [b] := by rw [hw]; rfl
    refine ⟨.tuple #[.bool true, .int .i64 ((p : Nat) : Int), .int .i32 (((Utf8.decode s p).1 : Nat) : Int)], h.set b (.iter s (p + (Utf8.decode s p).2)), _, _, ⟨rfl, rfl⟩, Made.head L (cK.set hg (by rw [jC]; simp)) (fun b hb => .inl hb) (by rw [jC]; simp) fun hN => ?_, ?_, fun _ _ _ _ _ => ?_⟩
    . refine ⟨b, h3, ?_, by rw [Heap.dE hg, if_pos rfl]⟩; rw [b7]; exact List.mem_append_left _ (List.mem_append_left _ (by rw [jC]; simp))
    . exact ⟨_, rfl, _, _, rfl, aE.ofBool _, _, _, rfl, aE.ofInt _ _, _, _, rfl, aE.ofInt _ _, rfl⟩
    show wF (aA t x) true h = _; rw [h1, hw]
    simp [wF, hg, hp]⟩
theorem bO.aoA (hp : ¬ p < s.size) (hx : aQ fl x = some (.raw w)) : bO P fl ((w, .it s p) :: σ) (.next x true) fun v σ' => v = .nD [.v .bool false] /\ σ' = (w, .it s p) :: σ :=
  ⟨rfl, fun S0 h t L => by
    have h1 : aA t x = w := cR L.aH hx; obtain ⟨b, h3, h4, hg⟩ := L.cells _ List.mem_cons_self; have hw : w = .pointer (some ⟨b, 0, none⟩) := h3; refine ⟨.tuple #[.bool false], h, _, _, ⟨rfl, rfl⟩, Made.same L (cK.refl h []), ⟨_, rfl, _, _, rfl, aE.ofBool _, rfl⟩, fun _ _ _ _ _ => ?_⟩; show wF (aA t x) true h = _; rw [h1, hw]
    simp [wF, hg, hp]⟩
theorem J.next (hx : aQ fl x = some (.raw w)) (h1 : p < s.size -> J P orc ops n l ((d, .nD [.v .bool true, .v (.int .i64) ((p : Nat) : Int), .v (.int .i32) (((Utf8.decode s p).1 : Nat) : Int)]) :: fl) ((w, .it s (p + (Utf8.decode s p).2)) :: σ) K) (h2 : ¬ p < s.size -> J P orc ops n l ((d, .nD [.v .bool false]) :: fl) ((w, .it s p) :: σ) K)
    (hw : cV ops fl g = some true := by rfl) (hn : (Nat.blt d n && Nat.ble n 4000) = true := by rfl) : J P orc ops n (⟨some d, .next x true, ty, pos, after, g⟩ :: l) fl ((w, .it s p) :: σ) K := by
  by_cases hp : p < s.size
  . exact J.mk (bO.ao9 hp hx) (by rintro _ _ ⟨rfl, rfl⟩; exact h1 hp) hw hn
  exact J.mk (bO.aoA hp hx) (by rintro _ _ ⟨rfl, rfl⟩; exact h2 hp) hw hn
theorem aF.arI {b : Bool} (hx : aQ fl x = some (.nD [.v .bool b]) := by rfl) : aF P fl σ (.extract x 0) (.v .bool b) := ⟨rfl, fun h S t hs _ => by
  obtain ⟨us, h1, u, r, rfl, h2, h3⟩ := (hs x (by simp [Op.operands]) _ hx : aI h S (.nD [.v .bool b]) _); obtain rfl : r = [] := h3; have hu : u = .bool b := aE.bool h2; subst hu; refine ⟨.bool b, aE.ofBool _, fun _ _ _ _ _ H => ?_⟩; show (bif tS (aA t x) then none else (aC P (Instr.extract (aA t x) 0)).map _) = _; rw [h1]; have hj : tS (.tuple [Value.bool b].toArray) = false := rfl; rw [hj]
  rfl⟩
theorem GY {i : Nat} (h : (s.get! i).toNat < 128) : Utf8.decode s i = ((s.get! i).toNat, 1) := by
  unfold Utf8.decode; simp only [Nat.add_zero]; rw [if_pos h]
theorem decode_high {i : Nat} (h : ¬ (s.get! i).toNat < 128) : 128 <= (Utf8.decode s i).1 := by
  unfold Utf8.decode; simp only [Nat.add_zero]; rw [if_neg h]
  have hr : 128 <= Utf8.runeError := by decide
  split
  . split
    . assumption
    exact hr
  split
  . split
    . rename_i hc; have := (Bool.and_eq_true .. ▸ hc : _ /\ _).1; have := of_decide_eq_true this; simp only; omega
    exact hr
  split
  . split
    . rename_i hc; have := (Bool.and_eq_true .. ▸ hc : _ /\ _).1; have := of_decide_eq_true this; simp only; omega
    exact hr
  exact hr
structure GdT (ops : Array Oper) (fl : VL) (g : Option (Nat × Bool)) (b : Bool) : Prop where
  want : ∀ {h : Heap} {S : List Nat} {t : Tr}, eR h S t fl -> ∀ o : Oper, o.guard = g -> b9 ops t o = some b
end Go.Fs
namespace Go.Fs
instance : DecidableEq (Ty.den .str) := inferInstanceAs (DecidableEq ByteArray)
instance {k : IntKind} : DecidableEq (Ty.den (.int k)) := inferInstanceAs (DecidableEq Int)
instance : DecidableEq (Ty.den .bool) := inferInstanceAs (DecidableEq Bool)
instance {a b : Ty} [DecidableEq a.den] [DecidableEq b.den] : DecidableEq (Ty.den (.pair a b)) := inferInstanceAs (DecidableEq (a.den × b.den))
variable {P : Program} {orc : FuncId -> List Value -> Heap -> Option (Value × Heap)} {fl : VL} {σ γ : aM} {T : TypeId} {τ : Ty}
theorem F3 {h : Heap} {S : List Nat} : ∀ (us : List Value), aX h S (us.map PV.raw) us
  | [] => rfl
  | u :: r => ⟨u, r, rfl, rfl, F3 r⟩
theorem aF.akX {pl : List (Nat × Nat)} {parts : Array (Nat × Operand)} {zs : List Value} {ps cs : List PV} (hT : GN P T τ pl) (hz : mU τ = zs := by rfl) (AI : lG fl (parts.toList.map (·.2)) = some ps := by rfl) (hb : GM pl (zs.map .raw) (parts.toList.map (·.1)) ps = some cs := by rfl) : aF P fl σ (.build T parts) (.agg cs) :=
  ⟨rfl, fun h S t hs _ => by
    obtain ⟨z, z1, z2, z3⟩ := hT.zer.zero; obtain ⟨y1, y2⟩ := oW h S τ; have hr : aX h S ps ((parts.toList.map (·.2)).map (aA t)) := tF (fun x hx => hs x (by simpa [Op.operands] using hx)) AI; obtain ⟨cs', f1, f2, f3, f4⟩ := zV hb hr (show aX h S (zs.map .raw) (mU τ) from by rw [hz]; exact F3 zs) (CY y2); refine ⟨.agg cs'.toArray, ⟨cs', rfl, f2⟩, fun _ _ _ _ _ H => ?_⟩; show (bif (parts.toList.all fun p => (aA t p.2).cells.toList.all aN) && ((((P.info? T).bind (·.zero)).map fun z => z.cells.toList.all dQ) == some true) then (aC P (Instr.build T (parts.map fun p => (p.1, aA t p.2)))).map fun v => (v, H) else none) = _
    have c1 : (parts.toList.all fun p => (aA t p.2).cells.toList.all aN) = true := by
      rw [List.map_map, List.all_map] at f3; exact f3
    have c2 : ((((P.info? T).bind (·.zero)).map fun z => z.cells.toList.all dQ) == some true) = true := by
      rw [z1]
      have e : z.cells.toList.all dQ = true := by rw [z2]; exact y2
      simp only [Option.map_some, e]; rfl
    have eD := hT.run z (parts.map fun p => (p.1, aA t p.2)) cs'.toArray z1 (by
      rw [<- f1, Array.toList_map, <- zip_map, List.map_map]; congr 1
      rw [<- z2])
    rw [c1, c2, eD]
    rfl⟩
def fB (s : ByteArray) (i : Int) : Int := (((s.get! i.toNat).toNat : Nat) : Int)
theorem LL (s : ByteArray) (i : Nat) : fB s i = (((s.get! i).toNat : Nat) : Int) := rfl
theorem aF.ixS {x y : Operand} {s : ByteArray} {i : Int} (hx : aQ fl x = some (.v .str s)) (hy : aQ fl y = some (.v (.int .i64) i)) (h0 : 0 <= i) (h1 : i < (s.size : Nat)) (hT : P.underlying T = some .string := by kernel_rfl) : aF P fl σ (.index T x y) (.v (.int .u8) (fB s i)) :=
  ⟨rfl, fun h S t hq _ => by
    have hv : aA t x = .string s := aE.str (hq x (by simp [Op.operands]) _ hx : aE h S .str _ s); have hi : aA t y = .int .i64 i := aE.int (hq y (by simp [Op.operands]) _ hy : aE h S (.int .i64) _ i); refine ⟨.int .u8 (fB s i), aE.ofInt _ _, fun _ _ _ _ _ H => ?_⟩; show (if af (aA t y) then (aC P (Instr.index T (aA t x) (aA t y))).map _ else none) = _; rw [hi, hv, if_pos (show af (Value.int .i64 i) = true from rfl)]
    have hb : i.toNat < s.size := by omega
    have h8 : s[i.toNat]? = some (s.get! i.toNat) := by
      rw [getElem?_pos s i.toNat hb]; congr 1; show s.data[i.toNat] = s.data[i.toNat]!; rw [getElem!_pos s.data i.toNat hb]
    have h9 : aC P (Instr.index T (.string s) (.int .i64 i)) = some (.int .u8 (fB s i)) := by
      unfold Instr.index; simp only [aD, asIntOf, aK, Option.bind_some, aG hT, if_pos h0, h8]; rfl
    rw [h9]; rfl⟩
end Go.Fs
namespace Go.Fs
variable {P : Program} {orc : FuncId -> List Value -> Heap -> Option (Value × Heap)} {fl : VL} {σ : aM} {T T' e ty : TypeId} {τ : Ty} {ops : Array Oper} {n : Nat} {l : List Oper} {K : VL -> aM -> Prop} {d : Tmp} {pos : String} {after : Array Edge} {g : Option (Nat × Bool)} {x y : Operand} {xs : List τ.den}
theorem vQ {w : Value} (h : aN w = true) : fL w = false := by
  cases w <;> first | rfl | cases h
end Go.Fs
namespace Go.Fs
variable {P : Program} {orc : FuncId -> List Value -> Heap -> Option (Value × Heap)} {h h1 h2 h' : Heap} {S S0 : List Nat} {σ γ j8 : aM} {fl : VL} {ops : Array Oper} {n : Nat} {l : List Oper} {K : VL -> aM -> Prop} {d : Tmp} {ty : TypeId} {pos : String} {after : Array Edge} {g : Option (Nat × Bool)}
section
variable (P orc)
end
section
variable (P orc)
end
end Go.Fs
namespace Go.Fs
variable {P : Program} {orc : FuncId -> List Value -> Heap -> Option (Value × Heap)} {h h' h0 h1 h2 : Heap} {S S' S0 B G : List Nat} {σ σ' j8 : aM} {t t' : Tr} {ms : List Nat} {fl : VL} {ops : Array Oper} {n i mem : Nat} {l : List Oper} {K : VL -> aM -> Prop} {Q : Ex -> VL -> aM -> Prop}
  {d : Tmp} {ty : TypeId} {pos : String} {after : Array Edge} {op : Op} {v pv : PV} {g : Option (Nat × Bool)} {x y z : Operand} {T T' e : TypeId} {τ τ' : Ty} {w : Value}
def rowFrom (w : Value) (sz k : Nat) : Value :=
  match w with
  | .slice (some ⟨b, o, none⟩) n mk => cutAt sz b o k n mk
  | u => u
theorem acW {xs : List τ.den} {k b : Nat} {rs : List Value} {m : Bool} {H : Heap} (hT : fW P T e τ) (hk : k <= xs.length) (hg : H.get b = some (.row e rs true m)) : bV P T (.slice (some ⟨b, 0, none⟩) xs.length 0) (some (.int .i64 (k : Nat))) none none H = some (rowFrom (.slice (some ⟨b, 0, none⟩) xs.length 0) τ.size k) := by
  obtain ⟨i, z, pR, jB, _⟩ := hT.sl.info
  have e1 : Nat.ble k xs.length = true := by rw [Nat.ble_eq]; exact hk
  have e2 : Nat.ble xs.length xs.length = true := by rw [Nat.ble_eq]; exact Nat.le_refl _
  have e3 : Nat.beq e e = true := Nat.beq_refl _; have e4 : Nat.beq 0 1 = false := rfl; have e5 : Nat.beq 0 0 = true := rfl; have h0 : (0 : Int) <= (k : Nat) := Int.natCast_nonneg _
  have mK : mA e b k 0 H = 0 := by
    unfold mA; rw [hg]; cases Nat.beq k 0 <;> simp [e3, e5]
  simp only [bV, hT.sl.sl, pR, dA, if_pos h0, Int.toNat_natCast, e1, e2, e4, Bool.and_self, cond_true, cond_false, mK, jB, rowFrom]
theorem dV.aoB {xs : List τ.den} {k : Nat} {lo : Operand} (hx : aQ fl x = some (.raw w)) (hl : aQ fl lo = some (.v (.int .i64) ((k : Nat) : Int))) (hm : (w, Cell.row e τ xs) ∈ σ) (hT : fW P T e τ) (h0 : 0 < xs.length) (hk : k <= xs.length) : dV P fl σ (.slice T x (some lo) none none) (.raw (rowFrom w τ.size k)) :=
  ⟨rfl, fun h S t hs hc => by
    have h1 : aA t x = w := hs x (by simp [Op.operands]) _ hx; have h2 := aE.int (hs lo (by simp [Op.operands]) _ hl); rcases hc _ hm with ⟨_, rfl⟩ | ⟨b, rs, m, h3, h4, h5, h6⟩
    . simp at h0
    have hw : w = _ := h3; refine ⟨_, rfl, fun H hH _ _ _ _ _ => ?_⟩; show (bV P T (aA t x) (some (aA t lo)) none none H).map _ = _
    rw [h1, h2, hw, acW hT hk (hH _ _ h5)]; rfl⟩
theorem agL {xs : List τ.den} {k b : Nat} (hk : k < xs.length) : rowFrom (.slice (some ⟨b, 0, none⟩) xs.length 0) τ.size k = .slice (some ⟨b, 0 + k * τ.size, none⟩) (xs.length - k) 0 := by
  have e1 : Nat.blt k xs.length = true := by show Nat.ble (k + 1) xs.length = true; rw [Nat.ble_eq]; exact hk
  simp [rowFrom, cutAt, e1]
theorem gZ.akY {γ : aM} {f : FuncId} {args : List PV} {fn : Func} {c : Code} {r : PV} (kX : P.funcs[f]? = some fn) (hc : fn.body = some c) (ho : ∀ us h, orc f us h = none) (hn : (Nat.blt 4000 fn.ntmps || Nat.blt fn.ntmps args.length) = false)
    (hb : U P orc none c fn.ntmps (qR 0 args) γ (aW P fn r)) : gZ P orc f args γ (fun r' g => r' = r /\ g = []) := fun h S us aZ hS dB mQ GO ha => by
  have hl := ha.len
  have sK : Nat.blt 4000 fn.ntmps = false /\ Nat.blt fn.ntmps args.length = false := by simpa using hn
  have n3 := gI sK.1; have n4 := gI sK.2; have p5 : aX (entry h) (own γ ++ S) args us := aX.nx (h := h) (h' := entry h) (fun _ _ a b => ⟨a, b⟩) ha
  have I0 : Iv (entry h) (own γ) S (entry h) γ (j6 .leaf 0 us) [] (qR 0 args) := {
    ok := aZ
    s0 := hS.1
    lH := cK.refl _ _
    cells := fun c hc => (dB c hc).aV (fun _ _ => rfl) (fun _ _ a b => ⟨a, b⟩) fun b hb => List.mem_append_left _ (List.mem_flatMap.2 ⟨c, hc, hb⟩)
    new := fun b hb => ⟨.inl hb, GO b hb⟩
    apart := mQ
    mark := fun d hd => by cases hd
    marks := List.nodup_nil
    aH := oU (hS.2.ent dB) p5 (by omega) }
  refine nP.enter kX hc (ho us h) (by rw [hl]; exact hn) ((hb (entry h) (own γ) S _ (entry h) [] I0).mono fun e fr h1 hq => ?_); obtain ⟨_, dJ, σ', I, he, ps, AI, rfl⟩ := hq; obtain ⟨h2, d1, d2, d3⟩ := sQ I.marks fun d hd => (I.mark d hd).2
  have jL : ∀ b o, h1.get b = some o -> o ≠ .mM -> h2.get b = some o := fun b o hg cA => by
    rw [d3 b (fun hm => cA (by have := (I.mark b hm).2; rw [hg] at this; exact Option.some.inj this))]; exact hg
  have a2 : cK (entry h) h2 (own γ) := I.lH.trans d2 fun i hi => .inr (I.mark i hi).1; have hN : pQ h1 S h2 S := fun b _ hg cA rS => ⟨jL b _ hg cA, rS⟩; obtain ⟨q8, e1, e2⟩ := AI.ok I.lc jL hN; have mD := yJ e2; refine ⟨he, h2, q8, d1, e1, ?_⟩; unfold leftOf
  cases lV : (af (gE q8) && Nat.ble h.next h2.low) with
  | true => exact ⟨_, [], ⟨rfl, rfl⟩, ⟨cK.refl _ _, fun b hb => (by cases hb), List.nodup_nil, fun c hc => (by cases hc)⟩, mD.EU (aT lV).1⟩
  | false =>
    refine ⟨_, [], ⟨rfl, rfl⟩, ⟨⟨a2.next, a2.get, fun x => a2.ok x, fun e h3 h4 h5 => Nat.le_min.2 ⟨h3, a2.low e (Nat.le_trans h4 (Nat.le_refl _)) h4 h5⟩, fun b hb => ?_, Nat.min_le_left _ _⟩, fun b hb => (by cases hb), List.nodup_nil, fun c hc => (by cases hc)⟩, aI.nx (h := h2) (h' := { next := h2.next, low := min h.low h2.low, aB := h2.aB }) (fun _ _ a b => ⟨a, b⟩) mD⟩; rcases a2.chg b hb with h3 | h3
    . exact .inl h3
    exact .inr (Nat.le_trans (Nat.min_le_right _ _) h3)
section
variable {α : Type} [DecidableEq α] {dd : α} {xs : List α}
end
end Go.Fs
namespace Go.Fs
variable {α : Type}
structure atS (lt : α -> α -> Bool) : Prop where
  asym : ∀ a b, lt a b = true -> lt b a = false
  neg : ∀ a b c, lt a b = false -> lt b c = false -> lt a c = false
variable {lt : α -> α -> Bool}
def eqv (lt : α -> α -> Bool) (a b : α) : Bool := !lt a b && !lt b a
def akZ (lt : α -> α -> Bool) (xs ys : List α) : Prop := ∀ a, xs.filter (eqv lt a) = ys.filter (eqv lt a)
variable {d : α}
abbrev at_ (xs : List α) (i : Nat) (d : α) : α := xs.getD i d
structure Seg (lt : α -> α -> Bool) (xs ys : List α) (a b : Nat) : Prop where
  len : ys.length = xs.length
  lo : ys.take a = xs.take a
  hi : ys.drop b = xs.drop b
  same : akZ lt xs ys
theorem three (xs : List α) {a b : Nat} (h : a <= b) : xs = xs.take a ++ ((xs.take b).drop a ++ xs.drop b) := by
  conv => lhs; rw [<- List.take_append_drop b xs]
  rw [<- List.append_assoc]; congr 1
  conv => lhs; rw [<- List.take_append_drop a (xs.take b)]
  rw [List.take_take, Nat.min_eq_left h]
structure atT (lt : α -> α -> Bool) (d : α) (ys : List α) (a j i : Nat) : Prop where
  srt : ∀ p q, a <= p -> p < q -> q <= i -> q ≠ j -> p ≠ j -> lt (ys.getD q d) (ys.getD p d) = false
  less : ∀ q, j < q -> q <= i -> lt (ys.getD j d) (ys.getD q d) = true
end Go.Fs
namespace Go.Fs
variable {α : Type} {lt : α -> α -> Bool} {d : α} {ys : List α} {a b m n s e i j k : Nat}
theorem four (h1 : s <= m) (h2 : m <= e) : ys = ys.take s ++ ((ys.drop s).take (m - s) ++ ((ys.drop m).take (e - m) ++ ys.drop e)) := by
  conv => lhs; rw [<- List.take_append_drop s ys, <- List.take_append_drop (m - s) (ys.drop s), List.drop_drop, show s + (m - s) = m by omega, <- List.take_append_drop (e - m) (ys.drop m), List.drop_drop, show m + (e - m) = e by omega]
structure Cut (lt : α -> α -> Bool) (d : α) (ys : List α) (a m b s e : Nat) : Prop where
  le : s <= m /\ m <= e /\ a <= s /\ e <= b
  lo : a < s -> e < b -> lt (ys.getD e d) (ys.getD (s - 1) d) = false
  hi : s < m -> m < e -> lt (ys.getD (e - 1) d) (ys.getD s d) = true
end Go.Fs
namespace Go.Fs
variable {P : Program} {orc : FuncId -> List Value -> Heap -> Option (Value × Heap)} {h h' h0 h1 h2 : Heap} {S S' S0 B G : List Nat} {σ σ' j8 : aM} {t t' : Tr} {ms : List Nat} {fl : VL} {ops : Array Oper} {n i mem : Nat} {l : List Oper} {K : VL -> aM -> Prop} {Q : Ex -> VL -> aM -> Prop}
  {d : Tmp} {ty : TypeId} {pos : String} {after : Array Edge} {op : Op} {v pv : PV} {g : Option (Nat × Bool)} {x y z : Operand} {T T' e : TypeId} {τ τ' : Ty} {w : Value}
theorem aF.LM {p q : Int} (hx : aQ fl x = some (.v (.int .u64) p)) (hy : aQ fl y = some (.v (.int .u64) q)) (hq : 0 <= q /\ q <= 64) : aF P fl σ (.binOp .shr T x y T') (.v (.int .u64) (p.fdiv (2 ^ q.toNat))) :=
  .rI hx hy (u := .int .u64 (p.fdiv (2 ^ q.toNat))) (by have this : min q.toNat IntKind.u64.bits = q.toNat := Nat.min_eq_left (show q.toNat <= 64 by omega); show (aC P (Op.shift .shr .u64 p .u64 q)).bind _ = _; unfold Op.shift; rw [if_neg (by omega)]; simp only [this]; rfl) fun h S => aE.ofInt _ _
theorem cG.same (hg : ∀ b o, h.get b = some o -> h2.get b = some o) : ∀ {τ : Ty} {cs : List Value} {x y : τ.den}, cG h S τ cs x -> cG h2 S' τ cs y -> x = y := by
  intro τ
  induction τ with
  | int k => intro cs x y hx hy; have y6 : cs = [.int k x] := hx; have yS : cs = [.int k y] := hy; rw [y6] at yS; simpa using yS
  | bool => intro cs x y hx hy; have y6 : cs = [.bool x] := hx; have yS : cs = [.bool y] := hy; rw [y6] at yS; simpa using yS
  | str => intro cs x y hx hy; have y6 : cs = [.string x] := hx; have yS : cs = [.string y] := hy; rw [y6] at yS; simpa using yS
  | bJ k => intro cs x y hx hy; have y6 : cs = [.float k x] := hx; have yS : cs = [.float k y] := hy; rw [y6] at yS; simpa using yS
  | unit => intro cs x y _ _; rfl
  | fn =>
    intro cs x y hx hy; have y6 : cs = [TU x] := hx; have yS : cs = [TU y] := hy; rw [y6] at yS
    have h3 : TU x = TU y := by simpa using yS
    cases x with
    | none => cases y with
      | none => rfl
      | some b => cases h3
    | some a => cases y with
      | none => cases h3
      | some b => injection h3 with h4; injection h4 with h5; rw [h5]
  | mQ =>
    intro cs x y hx hy; have y6 : cs = [CU x] := hx; have yS : cs = [CU y] := hy; rw [y6] at yS
    have h3 : CU x = CU y := by simpa using yS
    cases x with
    | none => cases y with
      | none => rfl
      | some b => cases h3
    | some a => cases y with
      | none => cases h3
      | some b =>
        obtain ⟨a1, a2⟩ := a; obtain ⟨b1, b2⟩ := b; simp only [CU, Value.slice.injEq, Option.some.injEq, Addr.mk.injEq, and_true, true_and] at h3
        rw [h3.1, h3.2]
  | pair a b wZ x3 => intro cs x y hx hy; exact Prod.ext (wZ hx.1 hy.1) (x3 hx.2 hy.2)
  | sl e ih =>
    rintro cs x y ⟨v, h1, hv⟩ ⟨v', nQ, nH⟩
    obtain rfl : v = v' := by rw [h1] at nQ; simpa using nQ
    have key : List.length (x : List e.den) = List.length (y : List e.den) /\ ∀ i (hi : i < List.length (x : List e.den)) (hj : i < List.length (y : List e.den)), (x : List e.den)[i] = (y : List e.den)[i] := by
      rcases hv with ⟨rfl, rfl⟩ | ⟨b, o, mk, rfl, hv⟩
      . rcases nH with ⟨_, rfl⟩ | ⟨_, _, _, h3, _⟩
        . exact ⟨rfl, fun i hi => absurd hi (Nat.not_lt_zero i)⟩
        cases h3
      rcases nH with ⟨h3, _⟩ | ⟨b', o', mk', h3, nH⟩
      . cases h3
      injection h3 with h4 h5 h6; injection h4 with h7; injection h7 with h8 h9 h10; subst h8; subst h9; refine ⟨h5, fun i hi hj => ?_⟩; rcases hv with rfl | ⟨_, e1, rs, ow, mo, g1, _, g3⟩
      . exact absurd hi (Nat.not_lt_zero i)
      rcases nH with rfl | ⟨_, e1', KH, ow', mo', g1', _, g3'⟩
      . exact absurd hj (Nat.not_lt_zero i)
      have h11 := hg _ _ g1; rw [g1'] at h11; injection h11 with h12; injection h12 with _ h13; subst h13; exact ih (g3 i hi) (g3' i hj)
    exact List.ext_getElem key.1 key.2
  | mp a b wZ x3 =>
    rintro cs x y ⟨v, h1, hv⟩ ⟨v', nQ, nH⟩
    obtain rfl : v = v' := by rw [h1] at nQ; simpa using nQ
    have key : List.length (x : List (a.den × b.den)) = List.length (y : List (a.den × b.den)) /\ ∀ i (hi : i < List.length (x : List (a.den × b.den))) (hj : i < List.length (y : List (a.den × b.den))), (x : List (a.den × b.den))[i] = (y : List (a.den × b.den))[i] := by
      rcases hv with ⟨rfl, rfl⟩ | ⟨bb, es, c, rfl, _, g1, g2, g3⟩
      . rcases nH with ⟨_, rfl⟩ | ⟨_, _, _, h3, _⟩
        . exact ⟨rfl, fun i hi => absurd hi (Nat.not_lt_zero i)⟩
        cases h3
      rcases nH with ⟨h3, _⟩ | ⟨b', eW, c', h3, _, g1', g2', g3'⟩
      . cases h3
      injection h3 with h4; injection h4 with h5; subst h5; have h11 := hg _ _ g1; rw [g1'] at h11; injection h11 with h12; injection h12 with h13 _; subst h13; refine ⟨g2.symm.trans g2', fun i hi hj => ?_⟩; have q1 := g3 i hi (by omega); have q2 := g3' i hj (by omega); exact Prod.ext (wZ q1.1.2 q2.1.2) (x3 q1.2.2 q2.2.2)
    exact List.ext_getElem key.1 key.2
end Go.Fs
namespace Go.Fs
variable {P : Program} {orc : FuncId -> List Value -> Heap -> Option (Value × Heap)} {aR : Option Nat} {h h' h0 h1 h2 : Heap} {S S' S0 B G : List Nat} {σ σ' j8 : aM} {t t' : Tr} {ms : List Nat} {fl : VL} {ops : Array Oper} {n i mem : Nat} {l : List Oper} {K : VL -> aM -> Prop} {Q : Ex -> VL -> aM -> Prop}
  {d : Tmp} {ty : TypeId} {pos : String} {after : Array Edge} {op : Op} {v pv : PV} {g : Option (Nat × Bool)} {x y z : Operand} {T T' e : TypeId} {τ τ' : Ty} {w : Value}
theorem kE.cellsOf {v : Value} {ys : List τ.den} (hv : kE h S τ v ys) (hp : 0 < τ.size) : lB v = some ys.length /\ ∃ vs, Fs.cellsOf τ.size ys.length v h = some vs /\ bC h S τ vs ys := by
  rcases hv with ⟨rfl, rfl⟩ | ⟨b, o, mk, rfl, hv⟩
  . exact ⟨rfl, [], rfl, bC.nil⟩
  refine ⟨rfl, ?_⟩
  have e1 : Nat.ble ys.length ys.length = true := by rw [Nat.ble_eq]; exact Nat.le_refl _
  by_cases hz : ys.length = 0
  . obtain rfl := List.eq_nil_of_length_eq_zero hz; refine ⟨[], ?_, bC.nil⟩; simp only [Fs.cellsOf, List.length_nil, Nat.zero_mul]; rfl
  rcases hv with rfl | ⟨h1, e', rs, own, more, h2, h3, h4⟩
  . exact absurd rfl hz
  have e2 : Nat.beq (ys.length * τ.size) 0 = false := dO (Nat.ne_of_gt (Nat.mul_pos (Nat.pos_of_ne_zero hz) hp))
  have e3 : Nat.ble (o + ys.length * τ.size) rs.length = true := by rw [Nat.ble_eq]; exact h3
  refine ⟨(rs.drop o).take (ys.length * τ.size), ?_, ?_, fun i hi => ?_⟩
  . simp only [Fs.cellsOf, e1, cond_true, e2, cond_false, h2, e3]
  . rw [List.length_take, List.length_drop]; omega
  have h9 : (i + 1) * τ.size <= ys.length * τ.size := Nat.mul_le_mul_right _ hi; rw [Nat.add_mul, Nat.one_mul] at h9; have := h4 i hi; rw [List.drop_take, List.take_take, List.drop_drop, Nat.min_eq_left (by omega)]; exact this
theorem bO.aoC {xs ys : List τ.den} (hT : fW P T e τ) (hl : ys.length = xs.length) (hx : aQ fl x = some (.raw w)) (hy : aQ fl y = some (.v (.sl τ) ys)) :
    bO P fl ((w, .row e τ xs) :: σ) (.call { callee := .builtin .copy, args := #[x, y], argTypes := #[T, T'] }) fun v σ' => v = .v (.int .i64) ((ys.length : Nat) : Int) /\ σ' = (w, .row e τ ys) :: σ :=
  ⟨rfl, fun S0 h t L => by
    have h1 : aA t x = w := cR L.aH hx; have hu := (cR L.aH hy : aE h _ (.sl τ) (aA t y) ys).sl; obtain ⟨i, z, pR, jB, HX, vN, BC, EY, KU⟩ := hT.sl.info; obtain ⟨c1, vs, c2, c3⟩ := hu.cellsOf hT.sl.pos; have tW : Nat.min ys.length xs.length = ys.length := Nat.min_eq_left (Nat.le_of_eq hl); have J5 : vs.length = ys.length * τ.size := c3.1; have hvo : vs.all aN = true := bC.kA _ _ c3; rcases L.cells _ List.mem_cons_self with ⟨hw, rfl⟩ | ⟨b, rs, m, h3, h4, h5, h6⟩
    . obtain rfl := List.eq_nil_of_length_eq_zero hl; have AJ : w = .slice none 0 0 := hw; obtain rfl := List.eq_nil_of_length_eq_zero (by rw [J5]; simp : vs.length = 0); refine ⟨.int .i64 ((0 : Nat) : Int), h, .v (.int .i64) ((0 : Nat) : Int), _, ⟨rfl, rfl⟩, Made.same L (cK.refl _ _), aE.ofInt _ _, fun _ _ _ _ _ => ?_⟩; show (k8 P #[T, T'] (aA t x) (aA t y) h) = _; rw [h1, AJ]; have c1' : lB (aA t y) = some 0 := c1; have c2' : Fs.cellsOf τ.size 0 (aA t y) h = some [] := c2; simp only [k8, List.getElem?_toArray, List.getElem?_cons_zero, hT.sl.sl, pR, c1', show lB (.slice none 0 0) = some 0 from rfl, jB, show Nat.min 0 0 = 0 from rfl, c2', List.length_nil, Nat.zero_mul]; rfl
    have hw : w = _ := h3
    have jC : cD w = [b] := by rw [hw]; rfl
    have qP := h6.1; have lD : bC h (own ((w, Cell.row e τ xs) :: σ) ++ S0) τ vs ys := c3; by_cases hz : ys.length = 0
    . obtain rfl := List.eq_nil_of_length_eq_zero hz; obtain rfl := List.eq_nil_of_length_eq_zero (by rw [<- hl]; rfl : xs.length = 0); refine ⟨.int .i64 ((0 : Nat) : Int), h, .v (.int .i64) ((0 : Nat) : Int), _, ⟨rfl, rfl⟩, Made.same L (cK.refl _ _), aE.ofInt _ _, fun _ _ _ _ _ => ?_⟩; show (k8 P #[T, T'] (aA t x) (aA t y) h) = _; rw [h1, hw]; obtain rfl := List.eq_nil_of_length_eq_zero (by rw [J5]; simp : vs.length = 0); have c1' : lB (aA t y) = some 0 := c1; have c2' : Fs.cellsOf τ.size 0 (aA t y) h = some [] := c2; simp only [k8, List.getElem?_toArray, List.getElem?_cons_zero, hT.sl.sl, pR, c1', List.length_nil, show ∀ q m, lB (.slice q 0 m) = some 0 from fun _ _ => rfl, jB, show Nat.min 0 0 = 0 from rfl, c2', Nat.zero_mul]; rfl
    refine ⟨.int .i64 ((ys.length : Nat) : Int), h.set b (.row e vs true m), .v (.int .i64) ((ys.length : Nat) : Int), _, ⟨rfl, rfl⟩, Made.head L (cK.set h5 (by rw [jC]; simp)) (fun b hb => .inl hb) (by rw [jC]; simp) fun hN => ?_, aE.ofInt _ _, fun _ _ _ _ _ => ?_⟩
    . refine .inr ⟨b, _, m, by rw [hl]; exact h3, ?_, by rw [Heap.dE h5, if_pos rfl], lD.nx hN⟩; rw [b7]; exact List.mem_append_left _ (List.mem_append_left _ (by rw [jC]; simp))
    show (k8 P #[T, T'] (aA t x) (aA t y) h) = _; have e2 : Nat.beq (ys.length * τ.size) 0 = false := dO (Nat.ne_of_gt (Nat.mul_pos (Nat.pos_of_ne_zero hz) hT.sl.pos))
    have e3 : Nat.ble (0 + ys.length * τ.size) rs.length = true := by rw [Nat.ble_eq, qP, hl]; omega
    have e4 : Nat.beq vs.length (ys.length * τ.size) = true := by rw [J5]; exact Nat.beq_refl _
    have e5 : bF rs 0 vs = vs := GD (by rw [J5, qP, hl]); rw [h1, hw]; simp only [k8, List.getElem?_toArray, List.getElem?_cons_zero, hT.sl.sl, pR, c1, show ∀ q m, lB (.slice q xs.length m) = some xs.length from fun _ _ => rfl, jB]
    simp only [show Nat.min ys.length xs.length = ys.length from tW, c2, e4, hvo, Bool.and_self, cond_true, e2, cond_false, h5, e3, e5]⟩
theorem J.copy {xs ys : List τ.den} (hx : aQ fl x = some (.raw w)) (hy : aQ fl y = some (.v (.sl τ) ys)) (hT : fW P T e τ) (hl : ys.length = xs.length) (hk : J P orc ops n l ((d, .v (.int .i64) ((ys.length : Nat) : Int)) :: fl) ((w, .row e τ ys) :: σ) K) (hw : cV ops fl g = some true := by rfl) (hn : (Nat.blt d n && Nat.ble n 4000) = true := by rfl) :
    J P orc ops n (⟨some d, .call { callee := .builtin .copy, args := #[x, y], argTypes := #[T, T'] }, ty, pos, after, g⟩ :: l) fl ((w, .row e τ xs) :: σ) K :=
  J.mk (bO.aoC hT hl hx hy) (by rintro _ _ ⟨rfl, rfl⟩; exact hk) hw hn
end Go.Fs
namespace Go.Fs
variable {P : Program} {orc : FuncId -> List Value -> Heap -> Option (Value × Heap)} {aR : Option Nat} {h h' h0 h1 h2 : Heap} {S S' S0 B G : List Nat} {σ σ' j8 : aM} {t t' : Tr} {ms : List Nat} {fl : VL} {ops : Array Oper} {n i mem : Nat} {l : List Oper} {K : VL -> aM -> Prop} {Q : Ex -> VL -> aM -> Prop}
  {d : Tmp} {ty : TypeId} {pos : String} {after : Array Edge} {op : Op} {v pv : PV} {g : Option (Nat × Bool)} {x y z : Operand} {T T' e : TypeId} {τ τ' : Ty} {w : Value}
inductive AW : (τ : Ty) -> τ.den -> Nat -> (τ' : Ty) -> τ'.den -> τ.den -> Prop where
  | o {τ : Ty} {x y : τ.den} : AW τ x 0 τ y y
  | l {a b : Ty} {x : (Ty.pair a b).den} {k : Nat} {τ' : Ty} {y : τ'.den} {z : a.den} (hs : AW a x.1 k τ' y z) : AW (.pair a b) x k τ' y (z, x.2)
  | r {a b : Ty} {x : (Ty.pair a b).den} {k k' : Nat} {τ' : Ty} {y : τ'.den} {z : b.den} (hs : AW b x.2 k τ' y z) (hk : k' = a.size + k := by rfl) : AW (.pair a b) x k' τ' y (x.1, z)
theorem UP {rs us : List Value} {a : Nat} (h : a + us.length <= rs.length) : (bF rs a us).length = rs.length := by
  unfold bF; rw [List.length_append, List.length_append, List.length_take, List.length_drop]; omega
theorem AW.fits {τ τ' : Ty} {x z : τ.den} {y : τ'.den} {k : Nat} (hs : AW τ x k τ' y z) : k + τ'.size <= τ.size := by
  induction hs with
  | o => omega
  | @l a b x k τ' y z hs ih => show _ <= a.size + b.size; omega
  | @r a b x k k' τ' y z hs hk ih => show _ <= a.size + b.size; omega
theorem AW.U1 {τ τ' : Ty} {x z : τ.den} {y : τ'.den} {k : Nat} (hs : AW τ x k τ' y z) : ∀ {cs us : List Value}, cG h S τ cs x -> cG h S τ' us y -> cG h S τ (bF cs k us) z := by
  induction hs with
  | o =>
    intro cs us hx hy
    rw [GD (by rw [hx.len, hy.len])]; exact hy
  | @l a b x k τ' y z hs ih =>
    intro cs us hx hy; have hf := hs.fits; have hyl := hy.len; have hal := hx.1.len; rw [List.length_take] at hal; have h1 := ih hx.1 hy; have h1l := h1.len
    have e : bF cs k us = bF (cs.take a.size) k us ++ cs.drop a.size := by
      unfold bF; rw [List.take_take, Nat.min_eq_left (by omega)]; simp only [List.append_assoc]; have := List.take_append_drop (a.size - (k + us.length)) (cs.drop (k + us.length)); rw [List.drop_drop, show k + us.length + (a.size - (k + us.length)) = a.size by omega] at this; rw [List.drop_take, this]
    rw [e]
    exact ⟨by rw [List.take_left' h1l]; exact h1, by rw [List.drop_left' h1l]; exact hx.2⟩
  | @r a b x k k' τ' y z hs hk ih =>
    intro cs us hx hy; subst hk; have hf := hs.fits; have hyl := hy.len; have hal := hx.1.len; rw [List.length_take] at hal; have h1 := ih hx.2 hy
    have e : bF cs (a.size + k) us = cs.take a.size ++ bF (cs.drop a.size) k us := by
      unfold bF; rw [List.take_add, List.drop_drop, List.append_assoc, List.append_assoc, List.append_assoc, Nat.add_assoc]
    have hl : (cs.take a.size).length = a.size := by rw [List.length_take]; omega
    rw [e]; exact ⟨by rw [List.take_left' hl]; exact hx.1, by rw [List.drop_left' hl]; exact h1⟩
theorem ZD {rs us : List Value} {a k s : Nat} (h1 : k + us.length <= s) (h2 : a + s <= rs.length) : bF rs (a + k) us = bF rs a (bF ((rs.drop a).take s) k us) := by
  have hl : ((rs.drop a).take s).length = s := by rw [List.length_take, List.length_drop]; omega
  have iR : (bF ((rs.drop a).take s) k us).length = s := by rw [UP (by omega), hl]
  conv => rhs; unfold bF
  rw [show (((rs.drop a).take s).take k ++ us ++ ((rs.drop a).take s).drop (k + us.length)).length = s from iR]; unfold bF; rw [List.take_take, Nat.min_eq_left (by omega), List.take_add, List.drop_take, List.drop_drop]; have := List.take_append_drop (s - (k + us.length)) (rs.drop (a + (k + us.length))); rw [List.drop_drop, show a + (k + us.length) + (s - (k + us.length)) = a + s by omega] at this; simp only [List.append_assoc]; rw [this, Nat.add_assoc]
def cellAt (τ : Ty) (rs : List Value) (o : Nat) : Value := if τ.agg then .agg ((rs.drop o).take τ.size).toArray else rs.getD o undef
theorem UQ {own more : Bool} {rs : List Value} {b o : Nat} {y : τ.den} (hT : gQ P T τ) (hg : h.get b = some (.row e rs own more)) (hb : o + τ.size <= rs.length) (hr : cG h S τ ((rs.drop o).take τ.size) y) : eE P T (.pointer (some ⟨b, o, none⟩)) h = some (cellAt τ rs o) /\ aE h S τ (cellAt τ rs o) y := by
  obtain ⟨i, hi, hs⟩ := hT.info; obtain ⟨d, hd, ha⟩ := hT.agg; simp only [eE, cellAt, hg, hd, hi, ha, hs]
  cases sX : τ.agg with
  | true =>
    simp only [if_true, hb]
    refine ⟨trivial, by simpa [fL] using sX.symm, by simpa [Value.cells] using hr⟩
  | false =>
    have h1 := Ty.qN sX; rw [h1] at hb hr
    have ho : o < rs.length := by omega
    rw [take_one ho] at hr; obtain ⟨u, hu, hv⟩ := hr.one sX; simp only [List.cons.injEq, and_true] at hu; simp only [Bool.false_eq_true, if_false, List.getD_eq_getElem?_getD, List.getElem?_eq_getElem ho, Option.getD_some]; exact ⟨trivial, by rw [hu]; exact hv⟩
theorem aF.faE {s : TypeId} {f k j : Nat} {xs : List τ.den} (hm : (w, Cell.row e τ xs) ∈ σ) (hj : j < xs.length) (hb : j9 P s f k = true := by kernel_rfl) (hx : aQ fl x = some (.raw (fM w τ.size j)) := by rfl) : aF P fl σ (.fieldAddr s x f) (.raw (kF (fM w τ.size j) k)) :=
  ⟨rfl, fun h S t hs hc => by
    have h1 : aA t x = fM w τ.size j := hs x (by simp [Op.operands]) _ hx; refine ⟨_, rfl, fun _ _ _ _ _ H => ?_⟩; rcases hc _ hm with ⟨_, rfl⟩ | ⟨b, rs, m, h3, h4, h5, h6⟩
    . simp at hj
    have hw : w = _ := h3; have AG : (j + 1) * τ.size <= xs.length * τ.size := Nat.mul_le_mul_right _ hj; rw [Nat.add_mul, Nat.one_mul] at AG; have qP := h6.1; have hp : nZ h [] .unit (fM w τ.size j) () := ⟨b, 0 + j * τ.size, e, rs, true, m, by rw [hw]; rfl, by simp, h5, by show 0 + j * τ.size + 0 <= _; omega, by simp [cG, Ty.size]⟩; show (aC P (Instr.fieldAt s (aA t x) f)).map _ = _
    rw [h1, hp.fa hb]; rfl⟩
theorem dV.ldE {j k : Nat} {xs : List τ.den} {dy : τ'.den} (hj : j < xs.length) (hs : Sub τ xs[j] k τ' dy) (hx : aQ fl x = some (.raw (kF (fM w τ.size j) k))) (hm : (w, Cell.row e τ xs) ∈ σ) (hT : gQ P T τ') : dV P fl σ (.load T x) (.v τ' dy) :=
  ⟨rfl, fun h S t x7 hc => by
    have h1 : aA t x = kF (fM w τ.size j) k := x7 x (by simp [Op.operands]) _ hx; rcases hc _ hm with ⟨_, rfl⟩ | ⟨b, rs, m, h3, h4, h5, h6⟩
    . simp at hj
    have hw : w = _ := h3; obtain ⟨q1, q2⟩ := hs.U1 (h6.2 j hj); have AG : (j + 1) * τ.size <= xs.length * τ.size := Nat.mul_le_mul_right _ hj; rw [Nat.add_mul, Nat.one_mul] at AG; have qP := h6.1; rw [List.length_take, List.length_drop] at q1; rw [List.drop_take, List.take_take, List.drop_drop, Nat.min_eq_left (by omega)] at q2; refine ⟨cellAt τ' rs (j * τ.size + k), (UQ hT h5 (by omega) q2).2, fun H hH _ _ _ _ _ => ?_⟩; have q3 : cG H S τ' ((rs.drop (j * τ.size + k)).take τ'.size) dy := q2.nx fun b o hg hb => ⟨hH b o hg, hb⟩; show (eE P T (aA t x) H).map _ = _; rw [h1, hw]; show (eE P T (.pointer (some ⟨b, 0 + j * τ.size + k, none⟩)) H).map _ = _
    rw [Nat.zero_add, (UQ hT (hH b _ h5) (by omega) q3).1]; rfl⟩
theorem bO.aoD {xs : List τ.den} {dy : τ'.den} {dz : τ.den} {j k : Nat} (hj : j < xs.length) (hT : gQ P T τ') (hs : AW τ xs[j] k τ' dy dz) (hx : aQ fl x = some (.raw (kF (fM w τ.size j) k))) (hy : aQ fl y = some (.v τ' dy)) :
    bO P fl ((w, .row e τ xs) :: σ) (.store T x y) fun v σ' => v = .raw undef /\ σ' = (w, .row e τ (xs.set j dz)) :: σ :=
  ⟨rfl, fun S0 h t L => by
    have h1 : aA t x = kF (fM w τ.size j) k := cR L.aH hx; have hu := (cR L.aH hy : aE h _ τ' (aA t y) dy); rcases L.cells _ List.mem_cons_self with ⟨_, rfl⟩ | ⟨b, rs, m, h3, h4, h5, h6⟩
    . simp at hj
    have hw : w = _ := h3; have AG : (j + 1) * τ.size <= xs.length * τ.size := Nat.mul_le_mul_right _ hj; rw [Nat.add_mul, Nat.one_mul] at AG; have qP := h6.1; obtain ⟨i, hi, cY⟩ := hT.info; have CX : (aA t y).cells.toList.length = τ'.size := hu.2.len
    have jC : cD w = [b] := by rw [hw]; rfl
    have hf := hs.fits; have lD := KK h6 hj (hs.U1 (h6.2 j hj) hu.2); rw [<- ZD (by omega) (by omega)] at lD; refine ⟨undef, h.set b (.row e (bF rs (j * τ.size + k) (aA t y).cells.toList) true m), .raw undef, _, ⟨rfl, rfl⟩, Made.head L (cK.set h5 (by rw [jC]; simp)) (fun b hb => .inl hb) (by rw [jC]; simp) fun hN => ?_, rfl, fun _ _ _ _ _ => ?_⟩
    . refine .inr ⟨b, _, m, by rw [List.length_set]; exact h3, ?_, by rw [Heap.dE h5, if_pos rfl], lD.nx hN⟩; rw [b7]; exact List.mem_append_left _ (List.mem_append_left _ (by rw [jC]; simp))
    show (gF P T (aA t x) (aA t y) h).map _ = _
    have : gF P T (aA t x) (aA t y) h = some (h.set b (.row e (bF rs (j * τ.size + k) (aA t y).cells.toList) true m)) := by
      rw [h1, hw]; simp only [gF, fM, kF, h5, hi, cY, CX, hu.2.kA, Nat.zero_add]; rw [if_pos ⟨trivial, by omega, trivial⟩]
    rw [this]; rfl⟩
end Go.Fs
namespace Go.Fs
variable {P : Program} {orc : FuncId -> List Value -> Heap -> Option (Value × Heap)} {aR : Option Nat} {h h' h0 h1 h2 : Heap} {S S' S0 B G : List Nat} {σ σ' j8 : aM} {t t' : Tr} {ms : List Nat} {fl : VL} {ops : Array Oper} {n i mem : Nat} {l : List Oper} {K : VL -> aM -> Prop} {Q : Ex -> VL -> aM -> Prop}
  {d : Tmp} {ty : TypeId} {pos : String} {after : Array Edge} {op : Op} {v pv : PV} {g : Option (Nat × Bool)} {x y z : Operand} {T T' e : TypeId} {τ τ' : Ty} {w : Value}
end Go.Fs
namespace Go.Fs
variable {P : Program} {orc : FuncId -> List Value -> Heap -> Option (Value × Heap)} {aR : Option Nat} {h h' h0 h1 h2 : Heap} {S S' S0 B G : List Nat} {σ σ' j8 : aM} {t t' : Tr} {ms : List Nat} {fl : VL} {ops : Array Oper} {n i mem : Nat} {l : List Oper} {K : VL -> aM -> Prop} {Q : Ex -> VL -> aM -> Prop}
  {d : Tmp} {ty : TypeId} {pos : String} {after : Array Edge} {op : Op} {v pv : PV} {g : Option (Nat × Bool)} {x y z : Operand} {T T' e : TypeId} {τ τ' : Ty} {w : Value} {ρ : aM} {bs nw : List Nat} {tl : Bool}
end Go.Fs
namespace Go.Fs
open Go.RowKit (Below)
open Go.Sort Go.Proofs
variable {P : Program}
variable {B : Nat} {w0 w w' : World} {ρ : Ren} {S : Nat -> Prop} {h : Heap}
end Go.Fs
namespace Go.Fs
variable {P : Program} {O : FuncId -> List Value -> Heap -> Option (Value × Heap)} {h h' : Heap} {S : List Nat}
end Go.Fs
namespace Go.Fs
open Go.RowKit (Below)
variable {P : Program}
def dY (s : ByteArray) : Int := match Lib.atoiAll s.data.toList with
  | .ok v => v
  | Lib.NumEnd.syntax => 0
  | .range => Lib.atoiSat s.data.toList
def jN (l : List UInt8) : List UInt8 := if l.head? = some 45 then l.tail else l
def fV (s : ByteArray) : Bool := match Lib.atoiAll s.data.toList with
  | .ok v => decide ((jN s.data.toList).length <= 9) && decide ((⟨(Lib.itoa v).toArray⟩ : ByteArray) = s)
  | _ => false
def abA (fz : FuncId) (o : FuncId -> List Value -> Heap -> Option (Value × Heap)) : FuncId -> List Value -> Heap -> Option (Value × Heap) := fun f xs h =>
  bif Nat.beq f fz then
    match xs with
    | [.string s] => bif Nat.ble s.size 1000000000 then some (.tuple #[.int .i64 (dY s), .bool (fV s)], h) else none
    | _ => none
  else o f xs h
theorem UR {B : Nat} {w0 : World} {fz : FuncId} {o : FuncId -> List Value -> Heap -> Option (Value × Heap)} (hz : w0.drawn = 0) (hS : cB P B w0 o) (ha : Enters P fz)
    (hA : ∀ (s : ByteArray) (w : World), Below B w0 w -> s.size <= 1000000000 -> Calls P fz #[.string s] w fun | .returned v', w' => v' = .tuple #[.int .i64 (dY s), .bool (fV s)] /\ Below w.heap.size w w' | _, _ => False) : cB P B w0 (abA fz o) := by
  intro f xs h v h' hf; unfold abA at hf
  cases hb : Nat.beq f fz with
  | true =>
    have := bD hb; subst this; rw [hb] at hf; simp only [cond_true] at hf; split at hf
    . rename_i s; obtain ⟨hc, cT⟩ := aL hf; have hc := eP hc; simp only [Option.some.injEq, Prod.mk.injEq] at cT; obtain ⟨rfl, rfl⟩ := cT; refine ⟨ha, fun ρ S w args' hr har nn => ?_⟩; have he : args' = [.string s] := har.dD (by rfl); subst he; have hC : CallsIn Fence.wide nn P f #[.string s] w _ := callsIn_wide.2 (hA s w hr.below hc); refine hC.mono fun e w' nX => ?_
      cases e with
      | returned v' =>
        obtain ⟨rfl, hb⟩ := nX
        exact ⟨ρ, aO.B4 hr hb (by rw [hz]; exact Nat.zero_le _), .lS (by rfl)⟩
      | panicked c => exact nX.elim
      | outgrown => exact nX.elim
    cases hf
  | false =>
    rw [hb] at hf; exact hS f xs h v h' hf
theorem VF.ato {orc : FuncId -> List Value -> Heap -> Option (Value × Heap)} {f : FuncId} {s : ByteArray} (ho : ∀ h : Heap, orc f [.string s] h = some (.tuple #[.int .i64 (dY s), .bool (fV s)], h)) : VF P orc f [.v .str s] (.nD [.v (.int .i64) (dY s), .v .bool (fV s)]) := fun h S us aZ hS hr => by
  obtain ⟨u, r, rfl, hu, hr⟩ := hr; obtain rfl : r = [] := hr; obtain rfl : u = .string s := aE.str hu; exact nP.wJ (ho h) ⟨cK.refl _ _, ⟨[.int .i64 (dY s), .bool (fV s)], rfl, ⟨_, _, rfl, aE.ofInt _ _, ⟨_, _, rfl, aE.ofBool _, rfl⟩⟩⟩, fun _ => rfl⟩
end Go.Fs
namespace Go.Fs
open Go.RowKit (Below)
open Go.Sort Go.Proofs
variable {P : Program}
structure at7 (srt : List Value -> Option (List Value)) : Prop where
  len : ∀ vs fQ, srt vs = some fQ -> fQ.length = vs.length
  ino : ∀ vs fQ, srt vs = some fQ -> vs.all dQ = true
  out : ∀ vs fQ, srt vs = some fQ -> fQ.all dQ = true
variable {B : Nat} {w0 w w' : World} {ρ : Ren} {S : Nat -> Prop} {h : Heap}
end Go.Fs
namespace Go.Fs
open Go.RowKit (Below)
open Go.Sort Go.Proofs
variable {P : Program}
def ints : List Value -> Option (List Int)
  | [] => some []
  | .int .i64 n :: r => (ints r).map (n :: ·)
  | _ => none
variable {B : Nat} {w0 w w' : World} {ρ : Ren} {S : Nat -> Prop} {h : Heap}
end Go.Fs
namespace Go.Fs
open Go.RowKit (Below)
open Go.Proofs
variable {P : Program}
def GZ (fc : FuncId) (tb : TypeId) (O : FuncId -> List Value -> Heap -> Option (Value × Heap)) : FuncId -> List Value -> Heap -> Option (Value × Heap) := fun f xs h =>
  bif Nat.beq f fc then
    match xs with
    | [.pointer (some ⟨b, 0, none⟩)] =>
      match h.get b with
      | some (.row e [.pointer none, u] true false) => bif Nat.beq e tb then some (.tuple #[], h.set b (.row e [.pointer (some ⟨b, 0, none⟩), u] true false)) else none
      | some (.row e [.pointer (some ⟨b', 0, none⟩), u] true false) => bif Nat.beq b' b && Nat.beq e tb then some (.tuple #[], h) else none
      | _ => none
    | _ => none
  else O f xs h
variable {B : Nat} {w0 w w' : World} {ρ : Ren} {S : Nat -> Prop} {h : Heap}
theorem al0 {x : Value} (h : VR ρ S (.pointer none) x) : x = .pointer none := by
  cases h with
  | lit _ => rfl
theorem RN {b o : Nat} {x : Value} (h : VR ρ S (.pointer (some ⟨b, o, none⟩)) x) : S b /\ x = .pointer (some ((ρ b).at o)) := by
  cases h with
  | lit h => cases h
  | ptr b o hs => exact ⟨hs, rfl⟩
theorem US {fc : FuncId} {tb : TypeId} {O : FuncId -> List Value -> Heap -> Option (Value × Heap)} (hO : cB P B w0 O) (hs : Enters P fc)
    (hF : ∀ (b : Nat) (w : World), w.cell? ⟨b, 0, none⟩ = some (.pointer none) -> w.shape? b = some (tb, 2) -> w.frozen? ⟨b, 0, none⟩ = false -> Calls P fc #[.pointer (some ⟨b, 0, none⟩)] w fun e w' => e = .returned (.tuple #[]) /\ w' = w.setCell ⟨b, 0, none⟩ (.pointer (some ⟨b, 0, none⟩)))
    (hU : ∀ (b : Nat) (w : World), w.cell? ⟨b, 0, none⟩ = some (.pointer (some ⟨b, 0, none⟩)) -> Calls P fc #[.pointer (some ⟨b, 0, none⟩)] w fun e w' => e = .returned (.tuple #[]) /\ w' = w) : cB P B w0 (GZ fc tb O) := by
  intro f xs h v h' hf; unfold GZ at hf
  cases hb : Nat.beq f fc with
  | false =>
    rw [hb] at hf
    exact hO f xs h v h' hf
  | true =>
    have := bD hb; subst this; rw [hb] at hf; simp only [cond_true] at hf; split at hf
    . rename_i b; split at hf
      . rename_i e u hg; obtain ⟨hc, cT⟩ := aL hf; clear hf; have he := bD hc; subst he; simp only [Option.some.injEq, Prod.mk.injEq] at cT; obtain ⟨rfl, rfl⟩ := cT; refine ⟨hs, fun ρ S w args' hr ha nn => ?_⟩
        match args', ha with
        | [x'], ha =>
          have hx : VR ρ S (.pointer (some ⟨b, 0, none⟩)) x' := ha.2 0 (by simp); obtain ⟨hSb, rfl⟩ := RN hx; obtain ⟨_, cur, h1, h2, h3, h4, h5, h6, h7⟩ := hr.aB b _ hg
          have sW : (ρ b).at 0 = ⟨(ρ b).block, 0, none⟩ := by simp [Loc.at, h2]
          have hl : cur.length = 2 := (h6 rfl).symm
          match cur, hl with
          | [c0, c1], _ =>
            have k0 : c0 = .pointer none := al0 (h7 0 (by simp)); have k1 : VR ρ S u c1 := h7 1 (by simp); subst k0; have hC : CallsIn Fence.wide nn P f #[.pointer (some ⟨(ρ b).block, 0, none⟩)] w _ := callsIn_wide.2 (hF (ρ b).block w (by simp [World.cell?, h1]) (by simp [World.shape?, h1]) (wL h1 (by rw [h3]; simp))); rw [sW]; refine hC.mono fun e' w' nX => ?_; obtain ⟨rfl, rfl⟩ := nX; refine ⟨ρ, aO.set hr hg rfl rfl rfl rfl rfl (by simp [World.setCell]) (fun k hk => by simp [World.setCell, Array.getElem?_modify, Ne.symm hk]) ?_, VR.undef⟩; refine ⟨[.pointer (some ⟨(ρ b).block, 0, none⟩), c1], ?_, h2, by rw [h3]; rfl, h4, Nat.le_refl _, fun _ => rfl, fun i hi => ?_⟩
            . simp [World.setCell, Array.getElem?_modify, h1]
            match i, hi with
            | 0, _ =>
              have := VR.ptr (ρ := ρ) (S := S) b 0 hSb; rw [sW] at this
              exact this
            | 1, _ => exact k1
      . rename_i e b' u hg; obtain ⟨hc, cT⟩ := aL hf; clear hf; obtain ⟨vC, jZ⟩ := aT hc; have wP := bD vC; subst wP; simp only [Option.some.injEq, Prod.mk.injEq] at cT; obtain ⟨rfl, rfl⟩ := cT; refine ⟨hs, fun ρ S w args' hr ha nn => ?_⟩
        match args', ha with
        | [x'], ha =>
          have hx := RN (ha.2 0 (by simp)); obtain ⟨hSb, y6⟩ := hx; have y6 : x' = _ := y6; subst y6; obtain ⟨_, cur, h1, h2, h3, h4, h5, h6, h7⟩ := hr.aB _ _ hg; have hl : cur.length = 2 := (h6 rfl).symm
          match cur, hl with
          | [c0, c1], _ =>
            obtain ⟨_, k0⟩ := RN (h7 0 (by simp)); have k0 : c0 = _ := k0; subst k0
            have sW : (ρ b').at 0 = ⟨(ρ b').block, 0, none⟩ := by simp [Loc.at, h2]
            rw [sW] at h1; have hC : CallsIn Fence.wide nn P f #[.pointer (some ⟨(ρ b').block, 0, none⟩)] w _ := callsIn_wide.2 (hU (ρ b').block w (by simp [World.cell?, h1])); show CallsIn _ _ _ _ #[.pointer (some ((ρ b').at 0))] _ _; rw [sW]; refine hC.mono fun e' w' nX => ?_; obtain ⟨rfl, rfl⟩ := nX; exact ⟨ρ, aO.same hr, VR.undef⟩
      cases hf
    cases hf
end Go.Fs
namespace Go.Proofs
open Go.Fs
def OA := GZ 95 99 (abA 61 (ab5 96 96 6))
abbrev y60 : Ty := (.sl (.int .i64))
abbrev UT : Ty := (.sl (.int .i64))
theorem kO : gQ Tryz.prog 3 (.int .i64) := iY (by kernel_rfl)
theorem arJ : gQ Tryz.prog 29 (.int .i64) := iY (by kernel_rfl)
theorem abB : fW Tryz.prog 60 3 (.int .i64) := u7 (by kernel_rfl)
theorem xB : fW Tryz.prog 127 29 (.int .i64) := u7 (by kernel_rfl)
def cL (c : Bool) (e : Int) : Int := bif c then e else 0
theorem gR {c : Bool} {e : Int} : VF Tryz.prog OA 43 [B c, I e] (I (cL c e)) := by
  refine VF.enter Tryz.func43 rfl (fun _ _ => rfl) rfl ?_; show U _ _ _ _ _ [(0, B c), (1, I e)] [] _; refine U.seq (U.text ?_); refine J.c (.assign rfl) ?_; refine J.go (U.seq (U.seq (U.text ?_))); refine J.c (.move rfl) (J.go ?_); refine U.fN rfl (fun c1 => ?_) (fun c1 => ?_)
  . subst c1; refine U.seq (U.text ?_); refine J.c (.move rfl) (J.c (.assign rfl) (J.go ?_)); refine U.ret ?_; exact aW.one rfl b6 (dM (by rfl))
  subst c1; refine U.skip (U.seq (U.text ?_)); refine J.c (.assign rfl) (J.go ?_); refine U.ret ?_; exact aW.one rfl b6 (dM (by rfl))
def kB (n lo hi : Int) : Int := if n < lo \/ hi < n then 3 else 0
theorem HZ {n : Int} {lo : Int} {hi : Int} : VF Tryz.prog OA 48 [I n, I lo, I hi] (I (kB n lo hi)) := by
  refine VF.enter Tryz.func48 rfl (fun _ _ => rfl) rfl ?_; show U _ _ _ _ _ [(0, I n), (1, I lo), (2, I hi)] [] _; refine U.seq (U.text ?_); refine J.c (.assign rfl) ?_; refine J.go (U.seq (U.seq (U.text ?_))); refine J.c (.move rfl) (J.c (.move rfl) (J.c (.lss) (J.c (.move rfl) ?_))); refine J.cg (r := decide (n < lo)) (w := false) [] trivial (fun _ => (.move rfl)) ?_; refine J.cg (r := decide (n < lo)) (w := false) [] trivial (fun _ => (.move rfl)) ?_; refine J.cg (r := decide (n < lo)) (w := false) [(11, I n), (12, I hi)] ⟨rfl, rfl, trivial⟩ (fun _ => (.gtr)) ?_; refine J.c (.or) (J.go ?_); refine U.fN rfl (fun c1 => ?_) (fun c1 => ?_)
  . try simp only [Bool.and_eq_true, Bool.or_eq_true, Bool.and_eq_false_iff, Bool.or_eq_false_iff, Bool.not_eq_true', Bool.not_eq_false', decide_eq_true_eq, decide_eq_false_iff_not] at c1
    refine U.seq (U.text ?_); refine J.c (.assign rfl) (J.go ?_); refine U.ret ?_; exact aW.one rfl b6 (dM (by simp only [kB, <- Bool.decide_or, decide_eq_true_eq, decide_eq_false_iff_not, Bool.or_eq_true, Bool.or_eq_false_iff] at *; first | rw [if_pos (by omega)] | rw [if_neg (by omega)]))
  try simp only [Bool.and_eq_true, Bool.or_eq_true, Bool.and_eq_false_iff, Bool.or_eq_false_iff, Bool.not_eq_true', Bool.not_eq_false', decide_eq_true_eq, decide_eq_false_iff_not] at c1
  refine U.skip (U.seq (U.text ?_)); refine J.c (.assign rfl) (J.go ?_); refine U.ret ?_; exact aW.one rfl b6 (dM (by simp only [kB, <- Bool.decide_or, decide_eq_true_eq, decide_eq_false_iff_not, Bool.or_eq_true, Bool.or_eq_false_iff] at *; first | rw [if_pos (by omega)] | rw [if_neg (by omega)]))
theorem RO {n lo hi : Int} : cL (decide (n < lo) || decide (hi < n)) 3 = kB n lo hi := by
  unfold cL kB; by_cases h1 : n < lo <;> by_cases h2 : hi < n <;> simp [h1, h2]
theorem UU {n : Int} {lo : Int} {hi : Int} : VF Tryz.prog OA 74 [I n, I lo, I hi] (I (kB n lo hi)) := by
  refine VF.enter Tryz.func74 rfl (fun _ _ => rfl) rfl ?_; show U _ _ _ _ _ [(0, I n), (1, I lo), (2, I hi)] [] _; refine U.seq (U.text ?_); refine J.c (.assign rfl) ?_; refine J.go (U.seq (U.text ?_)); refine J.c (.move rfl) (J.c (.move rfl) (J.c (.lss) (J.c (.move rfl) ?_))); refine J.cg (r := decide (n < lo)) (w := false) [] trivial (fun _ => (.move rfl)) ?_; refine J.cg (r := decide (n < lo)) (w := false) [] trivial (fun _ => (.move rfl)) ?_; refine J.cg (r := decide (n < lo)) (w := false) [(11, I n), (12, I hi)] ⟨rfl, rfl, trivial⟩ (fun _ => (.gtr)) ?_; refine J.c (.or) ?_; refine J.call rfl rfl (VF.call (gR )) ?_; refine J.c (.assign rfl) (J.go ?_); refine U.ret ?_; exact aW.one rfl b6 (dM (by exact RO))
def dH : List Int -> Int
  | [] => 0
  | x :: r => if x = 0 then dH r else x
theorem sL {xs : List Int} {j : Nat} (hj : j < xs.length) : dH (xs.drop j) = if xs[j] = 0 then dH (xs.drop (j + 1)) else xs[j] := by
  rw [List.drop_eq_getElem_cons hj] <;> rfl
theorem H0 {xs : List Int} {j : Nat} (hj : xs.length <= j) : dH (xs.drop j) = 0 := by rw [List.drop_eq_nil_of_le hj] <;> rfl
theorem oN {l : List Int} (hl : l.length < 1000000) : VF Tryz.prog OA 42 [.v UT l] (I (dH l)) := by
  refine VF.enter Tryz.func42 rfl (fun _ _ => rfl) rfl ?_; show U _ _ _ _ _ [(0, .v UT l)] [] _; refine U.seq (U.text ?_); refine J.c (.assign rfl) ?_; refine J.go (U.seq (U.seq (U.text ?_))); refine J.c (.move rfl) ?_; refine J.r (.len xB) ?_; refine J.c (.move rfl) ?_; refine J.go (U.block ?_); refine U.aV [(5, .v UT l), (6, I ((l.length : Nat) : Int)), (7, I ((0 : Nat) : Int))] ⟨rfl, rfl, rfl, trivial⟩ ?_; refine U.loop (I := fun kk ff ss => ∃ (j : Nat), kk = l.length - j /\ ff = [(5, .v UT l), (6, I ((l.length : Nat) : Int)), (7, I ((j : Nat) : Int))] /\ ss = [] /\ (j <= l.length) /\ (dH l = dH (l.drop j))) ?_ _ _ _ ⟨0, rfl, rfl, rfl, Nat.zero_le _, (by rfl)⟩; rintro kk ff ss ⟨j, oL, rfl, rfl, hj, hf⟩; refine U.seq (U.text ?_); refine J.c (.lss) ?_; refine J.go (U.seq ?_); refine U.b8 rfl (fun c2 => ?_) (fun c2 => ?_)
  . refine U.skip (U.seq (U.block (U.seq (U.text ?_)))); refine J.c (.ix (j := j) rfl rfl xB (by omega)) ?_; refine J.r (.ld arJ) ?_; refine J.c (.assign rfl) ?_; refine J.go (U.seq (U.text ?_)); refine J.c (.move rfl) (J.c (.neq) (J.go ?_)); refine U.b8 rfl (fun c4 => ?_) (fun c4 => ?_)
    . refine U.seq (U.text ?_); refine J.c (.move rfl) (J.c (.assign rfl) (J.go ?_)); refine U.ret ?_; exact aW.one rfl b6 (dM (by rw [hf, sL (by omega), if_neg c4]))
    refine U.skip (U.text ?_); refine J.c (.add rfl rfl (by omega)) (J.c (.move rfl) ?_); refine J.nil ?_; refine ⟨_, [(5, .v UT l), (6, I ((l.length : Nat) : Int)), (7, I (((j + 1) : Nat) : Int))], ?_, ⟨rfl, rfl, rfl, trivial⟩, (j + 1), rfl, rfl, rfl, (by omega), (by rw [hf, sL (by omega), if_pos (by simpa using c4)])⟩; omega
  refine U.exit (U.seq (U.text ?_)); refine J.c (.assign rfl) (J.go ?_); refine U.ret ?_; exact aW.one rfl b6 (dM (by rw [hf, H0 (by omega)]))
theorem ZE {l : List Int} (hl : l.length < 1000000) : VF Tryz.prog OA 46 [.v y60 l] (I (dH l)) := by
  refine VF.enter Tryz.func46 rfl (fun _ _ => rfl) rfl ?_; show U _ _ _ _ _ [(0, .v y60 l)] [] _; refine U.seq (U.text ?_); refine J.c (.assign rfl) ?_; refine J.go (U.seq (U.seq (U.text ?_))); refine J.c (.assign rfl) ?_; refine J.go (U.block ?_); refine U.aV [(0, .v y60 l), (3, I ((0 : Nat) : Int))] ⟨rfl, rfl, trivial⟩ ?_; refine U.loop (I := fun kk ff ss => ∃ (j : Nat), kk = l.length - j /\ ff = [(0, .v y60 l), (3, I ((j : Nat) : Int))] /\ ss = [] /\ (j <= l.length) /\ (dH l = dH (l.drop j))) ?_ _ _ _ ⟨0, rfl, rfl, rfl, Nat.zero_le _, (by rfl)⟩; rintro kk ff ss ⟨j, oL, rfl, rfl, hj, hf⟩; refine U.seq (U.seq (U.text ?_)); refine J.c (.move rfl) (J.c (.move rfl) ?_); refine J.r (.len abB) ?_; refine J.c (.lss) (J.go ?_); refine U.b8 rfl (fun c2 => ?_) (fun c2 => ?_)
  . refine U.skip (U.seq (U.block (U.seq (U.text ?_)))); refine J.c (.move rfl) (J.c (.move rfl) (J.c (.ix (j := j) rfl rfl abB (by omega)) ?_)); refine J.r (.ld kO) ?_; refine J.c (.neq) (J.go ?_); refine U.b8 rfl (fun c4 => ?_) (fun c4 => ?_)
    . refine U.seq (U.text ?_); refine J.c (.move rfl) (J.c (.move rfl) (J.c (.ix (j := j) rfl rfl abB (by omega)) ?_)); refine J.r (.ld kO) ?_; refine J.c (.assign rfl) (J.go ?_); refine U.ret ?_; exact aW.one rfl b6 (dM (by rw [hf, sL (by omega), if_neg c4]))
    refine U.skip (U.text ?_); refine J.c (.move rfl) (J.c (.add rfl rfl (by omega)) (J.c (.assign rfl) ?_)); refine J.nil ?_; refine ⟨_, [(0, .v y60 l), (3, I (((j + 1) : Nat) : Int))], ?_, ⟨rfl, rfl, trivial⟩, (j + 1), rfl, rfl, rfl, (by omega), (by rw [hf, sL (by omega), if_pos (by simpa using c4)])⟩; omega
  refine U.exit (U.seq (U.text ?_)); refine J.c (.assign rfl) (J.go ?_); refine U.ret ?_; exact aW.one rfl b6 (dM (by rw [hf, H0 (by omega)]))
end Go.Proofs
namespace Go.Proofs
open Go.Fs Ieee
def lL (c : Int) : Bool := decide (65 <= c /\ c <= 90 \/ 97 <= c /\ c <= 122)
def pU (c : Int) : Bool := decide (48 <= c /\ c <= 57 \/ c = 95)
def jU (c : Int) (i : Nat) : Bool := lL c || (decide (i ≠ 0) && pU c)
def kI (s : ByteArray) : Bool := decide (s.size ≠ 0 /\ s.size <= 24 /\ ∀ i, i < s.size -> jU (fB s i) i = true)
theorem UW {s : ByteArray} {i : Nat} (hi : i < s.size) (h : jU (fB s i) i = false) : false = kI s := by
  refine (decide_eq_false fun hh => ?_).symm; rw [hh.2.2 i hi] at h; cases h
theorem agM {s : ByteArray} (h1 : s.size ≠ 0) (h2 : s.size <= 24) (h : ∀ i, i < s.size -> jU (fB s i) i = true) : true = kI s := (decide_eq_true ⟨h1, h2, h⟩).symm
theorem size_empty {s : ByteArray} : s ≠ ByteArray.empty ↔ s.size ≠ 0 := by
  constructor
  . intro h e; exact h (ByteArray.ext (Array.eq_empty_of_size_eq_zero e))
  rintro h rfl; exact h rfl
theorem H3 {c : Int} {i : Nat} (h : 128 <= c) : jU c i = false := by
  have h1 : lL c = false := decide_eq_false (by omega); have h2 : pU c = false := decide_eq_false (by omega); rw [jU, h1, h2]; simp
theorem al1 {s : ByteArray} {p : Nat} (h : jU ((Utf8.decode s p).1 : Nat) p = false) : jU (fB s p) p = false := by
  by_cases hl : (s.get! p).toNat < 128
  . rw [GY hl] at h; exact h
  exact H3 (by rw [LL]; omega)
theorem abC {s : ByteArray} {p : Nat} (h : jU ((Utf8.decode s p).1 : Nat) p = true) : jU (fB s p) p = true /\ (Utf8.decode s p).2 = 1 := by
  by_cases hl : (s.get! p).toNat < 128
  . rw [GY hl] at h ⊢; exact ⟨h, rfl⟩
  have := Go.Fs.decode_high hl; rw [H3 (by omega)] at h; cases h
theorem acX {s : ByteArray} (h : ∀ i, i < s.size -> jU (fB s i) i = true) : (decide (s ≠ ByteArray.empty) && decide (((s.size : Nat) : Int) <= 24)) = kI s := by
  rw [<- Bool.decide_and]; exact decide_eq_decide.2 ⟨fun hh => ⟨size_empty.1 hh.1, by omega, h⟩, fun hh => ⟨size_empty.2 hh.1, by omega⟩⟩
theorem acY {s : ByteArray} : VF Tryz.prog OA 82 [St s] (B (kI s)) := by
  refine VF.enter Tryz.func82 rfl (fun _ _ => rfl) rfl ?_; show U _ _ _ _ _ [(0, St s)] [] _; refine U.seq (U.text ?_); refine J.c (.assign rfl) ?_; refine J.go (U.seq (U.seq (U.text ?_))); refine J.c (.move rfl) ?_; refine J.cell (.rng) ?_; intro eT; refine J.go (U.block ?_); refine U.aV [(0, St s), (8, .raw eT)] ⟨rfl, rfl, trivial⟩ ?_; refine U.loop (I := fun kk ff ss => ∃ (p : Nat), kk = s.size - p /\ ff = [(0, St s), (8, .raw eT)] /\ ss = [(eT, .it s p)] /\ (p <= s.size) /\ (∀ i, i < p -> jU (fB s i) i = true)) ?_ _ _ _ ⟨0, rfl, rfl, rfl, Nat.zero_le _, (by intro i hi; omega)⟩; rintro kk ff ss ⟨p, oL, rfl, rfl, hp, hq⟩; refine U.seq (U.text ?_); refine J.next rfl (fun amJ => ?_) (fun amJ => ?_)
  . refine J.c (.extract) ?_; refine J.go (U.seq ?_); refine U.x6 rfl ?_; refine U.skip (U.block (U.seq (U.text ?_))); refine J.c (.extract) (J.c (.extract) (J.c (.assign rfl) (J.c (.assign rfl) ?_))); refine J.go (U.seq ?_); refine U.join [(0, St s), (3, I ((p : Nat) : Int)), (4, .v (.int .i32) (((Utf8.decode s p).1 : Nat) : Int)), (5, B (lL ((Utf8.decode s p).1 : Nat))), (8, .raw eT)] [(eT, .it s (p + (Utf8.decode s p).2))] ?_ ?_
    . skip
      refine U.text ?_; refine J.c (.move rfl) (J.c (.geq) (J.c (.move rfl) ?_)); refine J.jK (x := 15) rfl (fun arK => ?_) (fun arK => ?_)
      . refine J.c (.move rfl) (J.c (.leq) (J.c (.iD rfl rfl) (J.c (.move rfl) ?_))); refine J.jK (x := 19) rfl (fun agN => ?_) (fun agN => ?_)
        . refine J.skip (J.skip (J.skip (J.skip ?_))); refine J.skip (J.skip (J.c (.iD rfl rfl) (J.c (.assign rfl) ?_))); refine J.nil ?_; exact ⟨⟨rfl, rfl, rfl, xA rfl (by rw [Bool.eq_iff_iff]; simp [lL] <;> omega), rfl, trivial⟩, rfl⟩
        refine J.c (.move rfl) (J.c (.geq) (J.c (.move rfl) ?_)); refine J.cg (r := decide ((97 : Int) <= (((Utf8.decode s p).1 : Nat) : Int))) (w := true) [] trivial (fun _ => (.move rfl)) ?_; refine J.cg (r := decide ((97 : Int) <= (((Utf8.decode s p).1 : Nat) : Int))) (w := true) [(23, .v (.int .i32) (((Utf8.decode s p).1 : Nat) : Int))] ⟨rfl, trivial⟩ (fun _ => (.leq)) ?_; refine J.c (.and) (J.c (.dK rfl rfl) (J.c (.assign rfl) ?_)); refine J.nil ?_; exact ⟨⟨rfl, rfl, rfl, xA rfl (by rw [Bool.eq_iff_iff]; simp [lL] <;> omega), rfl, trivial⟩, rfl⟩
      refine J.skip (J.skip (J.c (.dK rfl rfl) (J.c (.move rfl) ?_))); refine J.c (.move rfl) (J.c (.geq) (J.c (.move rfl) ?_)); refine J.cg (r := decide ((97 : Int) <= (((Utf8.decode s p).1 : Nat) : Int))) (w := true) [] trivial (fun _ => (.move rfl)) ?_; refine J.cg (r := decide ((97 : Int) <= (((Utf8.decode s p).1 : Nat) : Int))) (w := true) [(23, .v (.int .i32) (((Utf8.decode s p).1 : Nat) : Int))] ⟨rfl, trivial⟩ (fun _ => (.leq)) ?_; refine J.c (.and) (J.c (.dK rfl rfl) (J.c (.assign rfl) ?_)); refine J.nil ?_; exact ⟨⟨rfl, rfl, rfl, xA rfl (by rw [Bool.eq_iff_iff]; simp [lL] <;> omega), rfl, trivial⟩, rfl⟩
    refine U.seq ?_; refine U.join [(0, St s), (3, I ((p : Nat) : Int)), (5, B (lL ((Utf8.decode s p).1 : Nat))), (6, B (pU ((Utf8.decode s p).1 : Nat))), (8, .raw eT)] [(eT, .it s (p + (Utf8.decode s p).2))] ?_ ?_
    . skip
      refine U.text ?_; refine J.c (.move rfl) (J.c (.geq) (J.c (.move rfl) ?_)); refine J.jK (x := 29) rfl (fun arL => ?_) (fun arL => ?_)
      . refine J.c (.move rfl) (J.c (.leq) (J.c (.iD rfl rfl) (J.c (.move rfl) ?_))); refine J.cg (r := decide ((((Utf8.decode s p).1 : Nat) : Int) <= (57 : Int))) (w := false) [] trivial (fun _ => (.move rfl)) ?_; refine J.cg (r := decide ((((Utf8.decode s p).1 : Nat) : Int) <= (57 : Int))) (w := false) [(34, .v (.int .i32) (((Utf8.decode s p).1 : Nat) : Int))] ⟨rfl, trivial⟩ (fun _ => (.eql)) ?_; refine J.c (.or) (J.c (.assign rfl) ?_); refine J.nil ?_; exact ⟨⟨rfl, rfl, rfl, xA rfl (by rw [Bool.eq_iff_iff]; simp [pU] <;> omega), rfl, trivial⟩, rfl⟩
      refine J.skip (J.skip (J.c (.dK rfl rfl) (J.c (.move rfl) ?_))); refine J.c (.move rfl) (J.c (.eql) (J.c (.dK rfl rfl) (J.c (.assign rfl) ?_))); refine J.nil ?_; exact ⟨⟨rfl, rfl, rfl, xA rfl (by rw [Bool.eq_iff_iff]; simp [pU] <;> omega), rfl, trivial⟩, rfl⟩
    refine U.seq ?_; refine U.join [(0, St s), (8, .raw eT), (46, B (!jU ((Utf8.decode s p).1 : Nat) p))] [(eT, .it s (p + (Utf8.decode s p).2))] ?_ ?_
    . skip
      refine U.text ?_; refine J.c (.move rfl) (J.c (.not) (J.c (.move rfl) ?_)); refine J.splitB (x := 39) rfl (fun agO => ?_) (fun agO => ?_)
      . try simp only [Bool.and_eq_true, Bool.or_eq_true, Bool.and_eq_false_iff, Bool.or_eq_false_iff, Bool.not_eq_true', Bool.not_eq_false', decide_eq_true_eq, decide_eq_false_iff_not] at agO
        refine J.c (.move rfl) (J.c (.eql) (J.c (.move rfl) ?_)); refine J.cg (r := decide (((p : Nat) : Int) = (0 : Int))) (w := false) [] trivial (fun _ => (.move rfl)) ?_; refine J.cg (r := decide (((p : Nat) : Int) = (0 : Int))) (w := false) [(43, B (pU ((Utf8.decode s p).1 : Nat)))] ⟨rfl, trivial⟩ (fun _ => (.not)) ?_; refine J.c (.or) (J.c (.iD rfl rfl) ?_); refine J.nil ?_; exact ⟨⟨rfl, rfl, xA rfl (by simp [jU, *]), trivial⟩, rfl⟩
      try simp only [Bool.and_eq_true, Bool.or_eq_true, Bool.and_eq_false_iff, Bool.or_eq_false_iff, Bool.not_eq_true', Bool.not_eq_false', decide_eq_true_eq, decide_eq_false_iff_not] at agO
      refine J.skip (J.skip (J.skip (J.skip ?_))); refine J.skip (J.skip (J.c (.dK rfl rfl) ?_)); refine J.nil ?_; exact ⟨⟨rfl, rfl, xA rfl (by simp [jU, *]), trivial⟩, rfl⟩
    refine U.fN rfl (fun c6 => ?_) (fun c6 => ?_)
    . try simp only [Bool.and_eq_true, Bool.or_eq_true, Bool.and_eq_false_iff, Bool.or_eq_false_iff, Bool.not_eq_true', Bool.not_eq_false', decide_eq_true_eq, decide_eq_false_iff_not] at c6
      refine U.seq (U.text ?_); refine J.c (.assign rfl) (J.go ?_); refine U.ret ?_; exact aW.one rfl b6 (eS (by exact UW amJ (al1 c6)))
    try simp only [Bool.and_eq_true, Bool.or_eq_true, Bool.and_eq_false_iff, Bool.or_eq_false_iff, Bool.not_eq_true', Bool.not_eq_false', decide_eq_true_eq, decide_eq_false_iff_not] at c6
    refine U.skip ?_; refine ⟨_, [(0, St s), (8, .raw eT)], ?_, ⟨rfl, rfl, trivial⟩, (p + 1), rfl, rfl, (by rw [(abC c6).2]), (by omega), (by intro i hi; rcases Nat.lt_succ_iff_lt_or_eq.1 hi with h | h; exact hq i h; subst h; exact (abC c6).1)⟩; omega
  refine J.c (.arI) ?_; refine J.go (U.seq ?_); refine U.BA rfl ?_; refine U.exit (U.seq (U.text ?_)); refine J.c (.move rfl) (J.c (.ab4) (J.c (.move rfl) ?_)); refine J.cg (r := decide (s ≠ ByteArray.empty)) (w := true) [] trivial (fun _ => (.move rfl)) ?_; refine J.rg (r := decide (s ≠ ByteArray.empty)) (w := true) [(50, St s)] ⟨rfl, trivial⟩ (fun _ => (.rJ)) ?_; refine J.cg (r := decide (s ≠ ByteArray.empty)) (w := true) [(51, I ((s.size : Nat) : Int))] ⟨rfl, trivial⟩ (fun _ => (.leq)) ?_; refine J.c (.and) (J.c (.assign rfl) (J.go ?_)); refine U.ret ?_; exact aW.one rfl b6 (eS (by exact acX (fun i hi => hq i (by omega))))
theorem acZ {s : ByteArray} : VF Tryz.prog OA 90 [St s] (B (kI s)) := by
  refine VF.enter Tryz.func90 rfl (fun _ _ => rfl) rfl ?_; show U _ _ _ _ _ [(0, St s)] [] _; refine U.seq (U.text ?_); refine J.c (.assign rfl) ?_; refine J.go (U.seq (U.seq (U.text ?_))); refine J.c (.move rfl) ?_; refine J.r (.rJ) ?_; refine J.c (.eql) (J.c (.move rfl) ?_); refine J.cg (r := decide (((s.size : Nat) : Int) = (0 : Int))) (w := false) [] trivial (fun _ => (.move rfl)) ?_; refine J.rg (r := decide (((s.size : Nat) : Int) = (0 : Int))) (w := false) [(9, St s)] ⟨rfl, trivial⟩ (fun _ => (.rJ)) ?_; refine J.cg (r := decide (((s.size : Nat) : Int) = (0 : Int))) (w := false) [(10, I ((s.size : Nat) : Int))] ⟨rfl, trivial⟩ (fun _ => (.gtr)) ?_; refine J.c (.or) (J.go ?_); refine U.fN rfl (fun c1 => ?_) (fun c1 => ?_)
  . try simp only [Bool.and_eq_true, Bool.or_eq_true, Bool.and_eq_false_iff, Bool.or_eq_false_iff, Bool.not_eq_true', Bool.not_eq_false', decide_eq_true_eq, decide_eq_false_iff_not] at c1
    refine U.seq (U.text ?_); refine J.c (.assign rfl) (J.go ?_); refine U.ret ?_; exact aW.one rfl b6 (eS (by exact (decide_eq_false fun hh => by have := hh.1; have := hh.2.1; omega).symm))
  try simp only [Bool.and_eq_true, Bool.or_eq_true, Bool.and_eq_false_iff, Bool.or_eq_false_iff, Bool.not_eq_true', Bool.not_eq_false', decide_eq_true_eq, decide_eq_false_iff_not] at c1
  refine U.skip (U.seq (U.seq (U.text ?_))); refine J.c (.assign rfl) ?_; refine J.go (U.block ?_); refine U.aV [(0, St s), (3, I ((0 : Nat) : Int))] ⟨rfl, rfl, trivial⟩ ?_; refine U.loop (I := fun kk ff ss => ∃ (i : Nat), kk = s.size - i /\ ff = [(0, St s), (3, I ((i : Nat) : Int))] /\ ss = [] /\ (i <= s.size) /\ (∀ k, k < i -> jU (fB s k) k = true)) ?_ _ _ _ ⟨0, rfl, rfl, rfl, Nat.zero_le _, (by intro k hk; omega)⟩; rintro kk ff ss ⟨i, oL, rfl, rfl, hi, hq⟩; refine U.seq (U.seq (U.text ?_)); refine J.c (.move rfl) (J.c (.move rfl) ?_); refine J.r (.rJ) ?_; refine J.c (.lss) (J.go ?_); refine U.b8 rfl (fun c4 => ?_) (fun c4 => ?_)
  . refine U.skip (U.seq (U.block (U.seq (U.text ?_)))); refine J.c (.move rfl) (J.c (.move rfl) (J.c (.ixS rfl rfl (by omega) (by omega)) (J.c (.assign rfl) ?_))); refine J.go (U.seq (U.seq ?_)); refine U.join [(0, St s), (3, I ((i : Nat) : Int)), (4, .v (.int .u8) (fB s ((i : Nat) : Int))), (35, B (lL (fB s i)))] [] ?_ ?_
    . skip
      refine U.text ?_; refine J.c (.move rfl) (J.c (.geq) (J.c (.move rfl) ?_)); refine J.jK (x := 24) rfl (fun arM => ?_) (fun arM => ?_)
      . refine J.c (.move rfl) (J.c (.leq) (J.c (.iD rfl rfl) (J.c (.move rfl) ?_))); refine J.jK (x := 28) rfl (fun arN => ?_) (fun arN => ?_)
        . refine J.skip (J.skip (J.skip (J.skip ?_))); refine J.skip (J.skip (J.c (.iD rfl rfl) ?_)); refine J.nil ?_; exact ⟨⟨rfl, rfl, rfl, xA rfl (by rw [Bool.eq_iff_iff]; simp [lL] <;> omega), trivial⟩, rfl⟩
        refine J.c (.move rfl) (J.c (.geq) (J.c (.move rfl) ?_)); refine J.cg (r := decide ((65 : Int) <= (fB s ((i : Nat) : Int)))) (w := true) [] trivial (fun _ => (.move rfl)) ?_; refine J.cg (r := decide ((65 : Int) <= (fB s ((i : Nat) : Int)))) (w := true) [(32, .v (.int .u8) (fB s ((i : Nat) : Int)))] ⟨rfl, trivial⟩ (fun _ => (.leq)) ?_; refine J.c (.and) (J.c (.dK rfl rfl) ?_); refine J.nil ?_; exact ⟨⟨rfl, rfl, rfl, xA rfl (by rw [Bool.eq_iff_iff]; simp [lL] <;> omega), trivial⟩, rfl⟩
      refine J.skip (J.skip (J.c (.dK rfl rfl) (J.c (.move rfl) ?_))); refine J.c (.move rfl) (J.c (.geq) (J.c (.move rfl) ?_)); refine J.cg (r := decide ((65 : Int) <= (fB s ((i : Nat) : Int)))) (w := true) [] trivial (fun _ => (.move rfl)) ?_; refine J.cg (r := decide ((65 : Int) <= (fB s ((i : Nat) : Int)))) (w := true) [(32, .v (.int .u8) (fB s ((i : Nat) : Int)))] ⟨rfl, trivial⟩ (fun _ => (.leq)) ?_; refine J.c (.and) (J.c (.dK rfl rfl) ?_); refine J.nil ?_; exact ⟨⟨rfl, rfl, rfl, xA rfl (by rw [Bool.eq_iff_iff]; simp [lL] <;> omega), trivial⟩, rfl⟩
    refine U.fN rfl (fun c7 => ?_) (fun c7 => ?_)
    . have aZ : jU (fB s i) i = true := by rw [jU, c7] <;> rfl
      refine U.exit (U.text ?_); refine J.c (.move rfl) (J.c (.add rfl rfl (by omega)) (J.c (.assign rfl) ?_)); refine J.nil ?_; refine ⟨_, [(0, St s), (3, I (((i + 1) : Nat) : Int))], ?_, ⟨rfl, rfl, trivial⟩, (i + 1), rfl, rfl, rfl, (by omega), (by intro k hk; rcases Nat.lt_succ_iff_lt_or_eq.1 hk with h | h; exact hq k h; subst h; exact aZ)⟩; omega
    refine U.skip (U.seq ?_); refine U.join [(0, St s), (3, I ((i : Nat) : Int)), (49, B (!(decide (i ≠ 0) && pU (fB s i))))] [] ?_ ?_
    . skip
      refine U.text ?_; refine J.c (.move rfl) (J.c (.eql) (J.c (.move rfl) ?_)); refine J.jK (x := 38) rfl (fun H4 => ?_) (fun H4 => ?_)
      . refine J.skip (J.skip (J.skip (J.skip ?_))); refine J.skip (J.skip (J.skip (J.skip ?_))); refine J.skip (J.skip (J.c (.iD rfl rfl) ?_)); refine J.nil ?_; exact ⟨⟨rfl, rfl, xA rfl (by rw [Bool.eq_iff_iff]; simp [pU] <;> omega), trivial⟩, rfl⟩
      refine J.c (.move rfl) (J.c (.neq) (J.c (.move rfl) ?_)); refine J.jK (x := 41) rfl (fun arO => ?_) (fun arO => ?_)
      . refine J.c (.move rfl) (J.c (.lss) (J.c (.move rfl) ?_)); refine J.cg (r := decide ((fB s ((i : Nat) : Int)) < (48 : Int))) (w := false) [] trivial (fun _ => (.move rfl)) ?_; refine J.cg (r := decide ((fB s ((i : Nat) : Int)) < (48 : Int))) (w := false) [(45, .v (.int .u8) (fB s ((i : Nat) : Int)))] ⟨rfl, trivial⟩ (fun _ => (.gtr)) ?_; refine J.c (.or) (J.c (.iD rfl rfl) (J.c (.dK rfl rfl) ?_)); refine J.nil ?_; exact ⟨⟨rfl, rfl, xA rfl (by rw [Bool.eq_iff_iff]; simp [pU] <;> omega), trivial⟩, rfl⟩
      refine J.skip (J.skip (J.skip (J.skip ?_))); refine J.skip (J.skip (J.c (.dK rfl rfl) (J.c (.dK rfl rfl) ?_))); refine J.nil ?_; exact ⟨⟨rfl, rfl, xA rfl (by rw [Bool.eq_iff_iff]; simp [pU] <;> omega), trivial⟩, rfl⟩
    refine U.fN rfl (fun c8 => ?_) (fun c8 => ?_)
    . try simp only [Bool.and_eq_true, Bool.or_eq_true, Bool.and_eq_false_iff, Bool.or_eq_false_iff, Bool.not_eq_true', Bool.not_eq_false', decide_eq_true_eq, decide_eq_false_iff_not] at c8
      refine U.seq (U.text ?_); refine J.c (.assign rfl) (J.go ?_); refine U.ret ?_; exact aW.one rfl b6 (eS (by exact UW (i := i) (by omega) (by simp only [jU, c7, Bool.false_or, Bool.and_eq_false_iff, decide_eq_false_iff_not]; exact c8)))
    try simp only [Bool.and_eq_true, Bool.or_eq_true, Bool.and_eq_false_iff, Bool.or_eq_false_iff, Bool.not_eq_true', Bool.not_eq_false', decide_eq_true_eq, decide_eq_false_iff_not] at c8
    have aZ : jU (fB s i) i = true := by simp [jU, *]
    refine U.skip (U.text ?_); refine J.c (.move rfl) (J.c (.add rfl rfl (by omega)) (J.c (.assign rfl) ?_)); refine J.nil ?_; refine ⟨_, [(0, St s), (3, I (((i + 1) : Nat) : Int))], ?_, ⟨rfl, rfl, trivial⟩, (i + 1), rfl, rfl, rfl, (by omega), (by intro k hk; rcases Nat.lt_succ_iff_lt_or_eq.1 hk with h | h; exact hq k h; subst h; exact aZ)⟩; omega
  refine U.exit (U.seq (U.text ?_)); refine J.c (.assign rfl) (J.go ?_); refine U.ret ?_; exact aW.one rfl b6 (eS (by exact agM (by omega) (by omega) (fun k hk => hq k (by omega))))
theorem ZF {s : ByteArray} : VF Tryz.prog OA 47 [St s] (I (cL (!kI s) 8)) := by
  refine VF.enter Tryz.func47 rfl (fun _ _ => rfl) rfl ?_; show U _ _ _ _ _ [(0, St s)] [] _; refine U.seq (U.text ?_); refine J.c (.assign rfl) ?_; refine J.go (U.seq (U.seq (U.text ?_))); refine J.c (.move rfl) ?_; refine J.call rfl rfl (VF.call (acZ )) ?_; refine J.c (.not) (J.go ?_); refine U.fN rfl (fun c1 => ?_) (fun c1 => ?_)
  . try simp only [Bool.and_eq_true, Bool.or_eq_true, Bool.and_eq_false_iff, Bool.or_eq_false_iff, Bool.not_eq_true', Bool.not_eq_false', decide_eq_true_eq, decide_eq_false_iff_not] at c1
    refine U.seq (U.text ?_); refine J.c (.assign rfl) (J.go ?_); refine U.ret ?_; exact aW.one rfl b6 (dM (by simp [cL, *]))
  try simp only [Bool.and_eq_true, Bool.or_eq_true, Bool.and_eq_false_iff, Bool.or_eq_false_iff, Bool.not_eq_true', Bool.not_eq_false', decide_eq_true_eq, decide_eq_false_iff_not] at c1
  refine U.skip (U.seq (U.text ?_)); refine J.c (.assign rfl) (J.go ?_); refine U.ret ?_; exact aW.one rfl b6 (dM (by simp [cL, *]))
end Go.Proofs
namespace Go.Proofs
open Go.Fs
abbrev kP : Ty := (.pair (.int .i64) (.int .i64))
def mW (p : Int × Int) : Int := if p.1 < 0 \/ p.2 <= p.1 \/ 100000 < p.2 then 14 else 0
theorem UX {p : Int × Int} : cL (decide (p.1 < 0) || decide (p.2 <= p.1) || decide (100000 < p.2)) 14 = mW p := by
  unfold cL mW; by_cases h1 : p.1 < 0 <;> by_cases h2 : p.2 <= p.1 <;> by_cases h3 : 100000 < p.2 <;> simp [h1, h2, h3]
theorem ad0 {p : Int × Int} : VF Tryz.prog OA 113 [.v kP p] (I (mW p)) := by
  refine VF.enter Tryz.func113 rfl (fun _ _ => rfl) rfl ?_; show U _ _ _ _ _ [(0, .v kP p)] [] _; refine U.seq (U.text ?_); refine J.new (.box) ?_; refine J.c (.assign rfl) ?_; refine J.go (U.seq (U.text ?_)); refine J.c (.fa (.l .o)) ?_; refine J.r (.ld kO) ?_; refine J.c (.lss) (J.c (.move rfl) ?_); refine J.cg (r := decide (p.1 < (0 : Int))) (w := false) [] trivial (fun _ => (.fa (.l .o))) ?_; refine J.rg (r := decide (p.1 < (0 : Int))) (w := false) [(7, .p (.int .i64) p.1)] ⟨rfl, trivial⟩ (fun _ => (.ld kO)) ?_; refine J.cg (r := decide (p.1 < (0 : Int))) (w := false) [] trivial (fun _ => (.fa (.r (k := 0) .o))) ?_; refine J.rg (r := decide (p.1 < (0 : Int))) (w := false) [(9, .p (.int .i64) p.2)] ⟨rfl, trivial⟩ (fun _ => (.ld kO)) ?_; refine J.cg (r := decide (p.1 < (0 : Int))) (w := false) [(8, I p.1), (10, I p.2)] ⟨rfl, rfl, trivial⟩ (fun _ => (.geq)) ?_; refine J.c (.or) (J.c (.move rfl) ?_); refine J.cg (r := ((decide (p.1 < (0 : Int))) || (decide (p.2 <= p.1)))) (w := false) [] trivial (fun _ => (.fa (.r (k := 0) .o))) ?_; refine J.rg (r := ((decide (p.1 < (0 : Int))) || (decide (p.2 <= p.1)))) (w := false) [(14, .p (.int .i64) p.2)] ⟨rfl, trivial⟩ (fun _ => (.ld kO)) ?_; refine J.cg (r := ((decide (p.1 < (0 : Int))) || (decide (p.2 <= p.1)))) (w := false) [(15, I p.2)] ⟨rfl, trivial⟩ (fun _ => (.gtr)) ?_; refine J.c (.or) ?_; refine J.call rfl rfl (VF.call (gR )) ?_; refine J.c (.assign rfl) (J.go ?_); refine U.ret ?_; exact aW.one rfl b6 (dM (by exact UX))
theorem ad1 {p : Int × Int} : VF Tryz.prog OA 94 [.v kP p] (I (mW p)) := by
  refine VF.enter Tryz.func94 rfl (fun _ _ => rfl) rfl ?_; show U _ _ _ _ _ [(0, .v kP p)] [] _; refine U.seq (U.text ?_); refine J.new (.box) ?_; refine J.c (.assign rfl) ?_; refine J.go (U.seq (U.seq (U.text ?_))); refine J.c (.fa (.l .o)) ?_; refine J.r (.ld kO) ?_; refine J.c (.lss) (J.c (.move rfl) ?_); refine J.cg (r := decide (p.1 < (0 : Int))) (w := false) [] trivial (fun _ => (.fa (.r (k := 0) .o))) ?_; refine J.rg (r := decide (p.1 < (0 : Int))) (w := false) [(7, .p (.int .i64) p.2)] ⟨rfl, trivial⟩ (fun _ => (.ld kO)) ?_; refine J.cg (r := decide (p.1 < (0 : Int))) (w := false) [] trivial (fun _ => (.fa (.l .o))) ?_; refine J.rg (r := decide (p.1 < (0 : Int))) (w := false) [(9, .p (.int .i64) p.1)] ⟨rfl, trivial⟩ (fun _ => (.ld kO)) ?_; refine J.cg (r := decide (p.1 < (0 : Int))) (w := false) [(8, I p.2), (10, I p.1)] ⟨rfl, rfl, trivial⟩ (fun _ => (.leq)) ?_; refine J.c (.or) (J.c (.move rfl) ?_); refine J.cg (r := ((decide (p.1 < (0 : Int))) || (decide (p.2 <= p.1)))) (w := false) [] trivial (fun _ => (.fa (.r (k := 0) .o))) ?_; refine J.rg (r := ((decide (p.1 < (0 : Int))) || (decide (p.2 <= p.1)))) (w := false) [(14, .p (.int .i64) p.2)] ⟨rfl, trivial⟩ (fun _ => (.ld kO)) ?_; refine J.cg (r := ((decide (p.1 < (0 : Int))) || (decide (p.2 <= p.1)))) (w := false) [(15, I p.2)] ⟨rfl, trivial⟩ (fun _ => (.gtr)) ?_; refine J.c (.or) (J.go ?_); refine U.fN rfl (fun c1 => ?_) (fun c1 => ?_)
  . try simp only [Bool.and_eq_true, Bool.or_eq_true, Bool.and_eq_false_iff, Bool.or_eq_false_iff, Bool.not_eq_true', Bool.not_eq_false', decide_eq_true_eq, decide_eq_false_iff_not] at c1
    refine U.seq (U.text ?_); refine J.c (.assign rfl) (J.go ?_); refine U.ret ?_; exact aW.one rfl b6 (dM (by simp only [mW, <- Bool.decide_or, decide_eq_true_eq, decide_eq_false_iff_not, Bool.or_eq_true, Bool.or_eq_false_iff] at *; first | rw [if_pos (by omega)] | rw [if_neg (by omega)]))
  try simp only [Bool.and_eq_true, Bool.or_eq_true, Bool.and_eq_false_iff, Bool.or_eq_false_iff, Bool.not_eq_true', Bool.not_eq_false', decide_eq_true_eq, decide_eq_false_iff_not] at c1
  refine U.skip (U.seq (U.text ?_)); refine J.c (.assign rfl) (J.go ?_); refine U.ret ?_; exact aW.one rfl b6 (dM (by simp only [mW, <- Bool.decide_or, decide_eq_true_eq, decide_eq_false_iff_not, Bool.or_eq_true, Bool.or_eq_false_iff] at *; first | rw [if_pos (by omega)] | rw [if_neg (by omega)]))
end Go.Proofs
namespace Go.Proofs.Sp
abbrev Sp := Int × Int
def gK (l : List Sp) (t : Int) : Bool := l.any fun s => decide (s.1 <= t) && decide (t < s.2)
def Canon (m : Int) (l : List Sp) : Prop := (∀ s ∈ l, 0 <= s.1 /\ s.1 < s.2 /\ s.2 <= m) /\ l.Pairwise fun s u => s.2 < u.1
def agP (l : List Sp) (d : Int) : List (Int × Int) := l.flatMap fun s => [(s.1, d), (s.2, -d)]
def ZG : List (Int × Int) -> Int -> Int
  | [], _ => 0
  | e :: r, t => (if e.1 <= t then e.2 else 0) + ZG r t
def aoE (p : Int -> Bool) (t : Int) (S : Int × List Sp) : Int × List Sp :=
  if p t = true /\ S.1 < 0 then (t, S.2) else if p t = false /\ 0 <= S.1 then (-1, S.2 ++ [(S.1, t)]) else S
def RP (p : Int -> Bool) : Nat -> Int × List Sp
  | 0 => (-1, [])
  | t + 1 => aoE p t (RP p t)
def pE (ch : Int -> Bool) (L : List (Int × Int)) (t : Int) : Bool := ch (ZG L t)
structure atA (ch : Int -> Bool) (L l : List (Int × Int)) (st fr : Int) (out : List Sp) (v : Nat) : Prop where
  done : ∃ d, L = d ++ l /\ ∀ e ∈ d, e.1 < v
  rest : ∀ e ∈ l, (v : Int) <= e.1
  state : st = ZG L ((v : Int) - 1)
  outs : out = (RP (pE ch L) v).2
  open_ : 0 <= (RP (pE ch L) v).1 ↔ ch st = true
  from_ : ch st = true -> fr = (RP (pE ch L) v).1
theorem D8 {a b : List Sp} {t : Int} : gK (a ++ b) t = (gK a t || gK b t) := List.any_append
theorem LN {x y t : Int} : gK [(x, y)] t = true ↔ x <= t /\ t < y := by simp [gK]
end Go.Proofs.Sp
namespace Go.Proofs.Sp
theorem ad2 {m : Int} {l : List Sp} (h1 : ∀ s ∈ l, 0 <= s.1 /\ s.1 < s.2 /\ s.2 <= m) (h2 : ∀ j (hj : j < l.length), 0 < j -> (l[j - 1]'(by omega)).2 < l[j].1) : Canon m l := by
  refine ⟨h1, List.pairwise_iff_getElem.2 fun i j hi hj hij => ?_⟩
  induction j with
  | zero => omega
  | succ j ih =>
    have h3 := h2 (j + 1) hj (by omega); simp only [Nat.add_sub_cancel] at h3; by_cases e : i = j
    . subst e; exact h3
    have h4 := ih (by omega) (by omega); have h5 := h1 _ (List.getElem_mem (show j < l.length by omega)); omega
end Go.Proofs.Sp
