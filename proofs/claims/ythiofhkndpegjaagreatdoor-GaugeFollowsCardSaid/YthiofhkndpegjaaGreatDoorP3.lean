/- Parts of the proof: an evaluator of the model, what it is sound for, and contracts of functions. No condition. -/
import Derived.Test.YthiofhkndpegjaaGreatDoorP2
import Derived.Scope
import Derived.Lib.ItoaNum
import Derived.Lib.Join
import Derived.Sort.OwnSorted
import Derived.KernelRfl
set_option linter.all false
namespace Go
variable {P : Program}
theorem kH {b : Frame} {a : Act} {k : List Item} {cs : List Frame} {w : World} {c : Code} : step P (lone (b.atR a (.code (.scope c) :: k)) cs w) = .next (lone (b.atR a (.code c :: .inScope c :: k)) cs w) :=
  step_lone_go (by simp [stepG, stepG.exec, Frame.atR])
theorem FD {b : Frame} {a : Act} {k : List Item} {cs : List Frame} {w : World} {c : Code} : step P (lone (b.atR a (.inScope c :: k)) cs w) = .next (lone (b.atR a k) cs w) :=
  step_lone_go (by simp [stepG, stepG.exec, Frame.atR])
theorem NB {F : Fence} {n : Nat} {Q : Exit -> Act -> World -> Prop} {a : Act} {w : World} {c : Code} (h : c.wpIn F n P (Exit.noGoto Q) a w) : (Code.scope c).wpIn F n P Q a w := by
  intro b k cs hro hb hr; have h0 : (lone (b.atR a (.code (.scope c) :: k)) cs w).fenced P F := fenced_calm hb hr rfl; obtain ⟨e, TC, TD, hq, OE⟩ := h b (.inScope c :: k) cs hro hb hr
  cases e with
  | normal => exact ⟨.normal, TC, TD, hq, .head h0 kH (StepsIn.trans OE (.one (fenced_calm hb hr rfl) FD))⟩
  | exit id =>
    have hx : exitTo id (.inScope c :: k) = exitTo id k := by simp [exitTo]
    exact ⟨.exit id, TC, TD, hq, fun k' hk => .head h0 kH (OE.1 k' (by rw [hx]; exact hk)),
      fun hr' hk => let ⟨k₁, h1, h2⟩ := OE.2 hr' (by rw [hx]; exact hk); ⟨k₁, h1, .head h0 kH h2⟩⟩
  | goto l => exact hq.elim
  | ret => exact ⟨_, TC, TD, hq, .of_steps (.one h0 kH) OE⟩
  | panic ch => exact ⟨_, TC, TD, hq, .of_steps (.one h0 kH) OE⟩
  | outgrown => exact ⟨_, TC, TD, hq, .of_steps (.one h0 kH) OE⟩
end Go
namespace Go.Fs
open Go.RowKit (Below)
variable {P : Program} {ρ bY : Ren} {S S' : Nat -> Prop} {B : Nat} {w0 w w' w1 w2 : World} {h h' h1 h2 : U}
theorem yN (hP : lW P) {orc : FuncId -> List Value -> U -> Option (Value × U)} (nU : cY P B w0 orc) {m : Nat} {rec : Rec} (jP : pF P B w0 m rec) : lG P B w0 (eJ P orc rec) := by
  intro f args h v h' hf; unfold eJ at hf; split at hf
  . rename_i r hr; simp only [Option.some.injEq] at hf; subst hf; exact .inl (nU _ _ _ _ _ hr)
  split at hf
  . rename_i r hr; simp only [Option.some.injEq] at hf; subst hf; refine .inr fun ρ S w args' kG ha => ?_; unfold EG at hr; split at hr
    . rename_i fn kF; obtain ⟨hb, hr3⟩ := aT hr; obtain ⟨AK, sR⟩ := aQ hb; split at hr3
      . rename_i e h1 h2; obtain ⟨pV, hr4⟩ := aT hr3; obtain ⟨hp, rfl⟩ := fD hr4; obtain ⟨h3, h4⟩ := q7 hp w; have he : args' = args := ha.dN pV; subst he; refine ⟨w, v, ?_, ρ, aU.same kG, .mH h4⟩; unfold callFunc
        have amM : (fn.name == "runtime.NumGoroutine") = false := by simpa using sR
        simp only [Sem.run_bind, run_program, Result.andThen_ok, kF, AK, amM, Bool.false_eq_true, if_false, if_true, h1, h2]; have hm : (mark (Mark.extern f)).run P w = .ok () w := rfl; rw [hm]; simp only [Result.andThen_ok, h3, Sem.run_pure]
      cases hr3
    cases hr
  exact .inl (DG hP jP _ _ _ _ _ hf)
theorem tX.same {fr : Fr} {a : Act} (hr : HR P ρ S B w0 h w) (ht : lE ρ S fr.t fr.n a.tmps) (hm : s8 ρ S fr.marks a.defers) : tX P B w0 ρ ρ S h w fr h w a :=
  ⟨aU.same hr, ht.mono fun _ hb => ⟨.inl hb, rfl⟩, hm.mono fun _ hb => ⟨.inl hb, rfl⟩⟩
theorem GX (hP : lW P) {orc : FuncId -> List Value -> U -> Option (Value × U)} (nU : cY P B w0 orc) {m : Nat} {rec : Rec} (jP : pF P B w0 m rec) : pF P B w0 (m + 1) (bH P orc rec) := by
  intro aY c fr h e jW h' bZ hf ρ S w a nn Q hr ht hm hs k; have iZ : lG P B w0 (eJ P orc rec) := yN hP nU jP; have pW : gE P B w0 (eK rec) := DH jP
  cases c with
  | skip =>
    simp only [bH, Option.some.injEq, Prod.mk.injEq] at hf; obtain ⟨rfl, rfl, rfl⟩ := hf
    exact wpIn_skip (k _ _ _ (tX.same hr ht hm))
  | label l =>
    simp only [bH, Option.some.injEq, Prod.mk.injEq] at hf; obtain ⟨rfl, rfl, rfl⟩ := hf
    exact wpIn_label (k _ _ _ (tX.same hr ht hm))
  | exit id =>
    simp only [bH, Option.some.injEq, Prod.mk.injEq] at hf; obtain ⟨rfl, rfl, rfl⟩ := hf
    exact wpIn_exit (k _ _ _ (tX.same hr ht hm))
  | ret =>
    simp only [bH, Option.some.injEq, Prod.mk.injEq] at hf; obtain ⟨rfl, rfl, rfl⟩ := hf
    exact wpIn_ret (k _ _ _ (tX.same hr ht hm))
  | goto l => simp only [bH] at hf; cases hf
  | refuse l => simp only [bH] at hf; cases hf
  | scope b =>
    simp only [bH] at hf; refine NB ?_; refine (jP aY b fr h e jW h' bZ hf ρ S w a nn _ hr ht hm hs fun cS w1 a1 p1 => ?_).wpIn; have hq := k _ _ _ p1
    cases e with
    | normal => exact hq
    | exit id => exact hq
    | ret => exact hq
  | seq x y =>
    simp only [bH] at hf; obtain ⟨ok1, ok2⟩ := aQ (show (codeOk x && codeOk y) = true from bZ); refine wpIn_seq ?_; split at hf
    . rename_i fr1 h1 eZ; refine (jP aY x fr h _ fr1 h1 ok1 eZ ρ S w a nn _ hr ht hm hs fun cS w1 a1 p1 => ?_).wpIn; show y.wpIn (tW ρ aY) nn P Q a1 w1; rw [<- T7 hs p1.cE.agree]; exact (jP aY y fr1 h1 e jW h' ok2 hf cS _ w1 a1 nn Q p1.cE.hr p1.tmps p1.marks (fun l hl => .inl (hs l hl)) fun j3 w2 a2 p2 => k _ _ _ (tX.trans (fr1 := fr1) (a1 := a1) p1.cE p2)).wpIn
    rename_i cA; refine (jP aY x fr h e jW h' ok1 hf ρ S w a nn _ hr ht hm hs fun cS w1 a1 p1 => ?_).wpIn; have hq := k _ _ _ p1
    cases e with
    | normal => exact (cA _ _ hf).elim
    | exit id => exact hq
    | ret => exact hq
  | cond x y z =>
    simp only [bH] at hf; obtain ⟨ok1, ok2⟩ := aQ (show (codeOk y && codeOk z) = true from bZ); have cB := ht.eval a.defers x; split at hf
    . rename_i hx; rw [hx] at cB; exact wpIn_cond_true cB.uU (jP aY y fr h e jW h' ok1 hf ρ S w a nn Q hr ht hm hs k).wpIn
    . rename_i hx; rw [hx] at cB; exact wpIn_cond_false cB.uU (jP aY z fr h e jW h' ok2 hf ρ S w a nn Q hr ht hm hs k).wpIn
    cases hf
  | block id b =>
    simp only [bH] at hf; refine wpIn_block ?_; split at hf
    . rename_i xT fr1 h1 eZ; refine (jP aY b fr h _ fr1 h1 bZ eZ ρ S w a nn _ hr ht hm hs fun cS w1 a1 p1 => ?_).wpIn
      cases hb : Nat.beq xT id with
      | true =>
        rw [hb] at hf; simp only [cond_true, Option.some.injEq, Prod.mk.injEq] at hf; obtain ⟨rfl, rfl, rfl⟩ := hf; have := k _ _ _ p1; simp only [aa1, Exit.inBlock, bV hb, if_true]
        exact this
      | false =>
        rw [hb] at hf; simp only [cond_false, Option.some.injEq, Prod.mk.injEq] at hf; obtain ⟨rfl, rfl, rfl⟩ := hf; have := k _ _ _ p1; simp only [aa1, Exit.inBlock, if_neg (gC hb)]; exact this
    rename_i cA; refine (jP aY b fr h e jW h' bZ hf ρ S w a nn _ hr ht hm hs fun cS w1 a1 p1 => ?_).wpIn; have hq := k _ _ _ p1
    cases e with
    | normal => exact hq
    | exit xT => exact (cA _ _ _ hf).elim
    | ret => exact hq
  | loop b =>
    simp only [bH] at hf; show Code.roundsIn (tW ρ aY) nn P b Q (m + 1) a w; rw [roundsIn_succ]; split at hf
    . rename_i fr1 h1 eZ; refine (jP aY b fr h _ fr1 h1 bZ eZ ρ S w a nn _ hr ht hm hs fun cS w1 a1 p1 => ?_).wpIn; show Code.roundsIn (tW ρ aY) nn P b Q m a1 w1; rw [<- T7 hs p1.cE.agree]; exact jP aY (.loop b) fr1 h1 e jW h' bZ hf cS _ w1 a1 nn Q p1.cE.hr p1.tmps p1.marks (fun l hl => .inl (hs l hl)) fun j3 w2 a2 p2 => k _ _ _ (tX.trans (fr1 := fr1) (a1 := a1) p1.cE p2)
    rename_i cA; refine (jP aY b fr h e jW h' bZ hf ρ S w a nn _ hr ht hm hs fun cS w1 a1 p1 => ?_).wpIn; have hq := k _ _ _ p1
    cases e with
    | normal => exact (cA _ _ hf).elim
    | exit id => exact hq
    | ret => exact hq
  | region id ops draw =>
    cases draw with
    | false =>
      simp only [bH] at hf; split at hf
      . rename_i t h1 eZ; simp only [Option.some.injEq, Prod.mk.injEq] at hf; obtain ⟨rfl, rfl, rfl⟩ := hf; refine wpIn_region ?_; exact PT (step := sM P (eJ P orc rec) (eK rec)) rfl iZ pW _ _ ρ S w a fr.t h WS hr ht eZ fun cS w1 a1 m1 CK JV => k _ _ _ ⟨m1, CK, by rw [JV]; exact hm.mono fun b hb => ⟨.inl hb, m1.agree b hb⟩⟩
      cases hf
    | true =>
      simp only [bH] at hf
      cases hl : B7 ops with
      | false =>
        rw [hl] at hf; simp only [cond_false] at hf; split at hf
        . rename_i s eZ; simp only [Option.some.injEq, Prod.mk.injEq] at hf; obtain ⟨rfl, rfl, rfl⟩ := hf; refine wpIn_region_draw fun t => ?_; rw [hP.mixed]; exact abT (call := eJ P orc rec) (yield := eK rec) iZ pW bZ eZ (hr.drew _) ht (fun cS w1 a1 m1 CK JV => k _ _ _ ⟨aU.wC m1, CK, by rw [JV]; exact hm.mono fun b hb => ⟨.inl hb, m1.agree b hb⟩⟩) t
        cases hf
      | true =>
        rw [hl] at hf; simp only [cond_true] at hf; split at hf
        . rename_i s eZ; simp only [Option.some.injEq, Prod.mk.injEq] at hf; obtain ⟨rfl, rfl, rfl⟩ := hf; refine wpIn_region_draw fun t => ?_; rw [hP.mixed]; exact XD (call := eJ P orc rec) (yield := eK rec) iZ pW bZ eZ (hr.drew _) ht (fun cS w1 a1 m1 CK JV => k _ _ _ ⟨aU.wC m1, CK, by rw [JV]; exact hm.mono fun b hb => ⟨.inl hb, m1.agree b hb⟩⟩) t
        cases hf
  | rangeFunc g ps assign body =>
    simp only [bH] at hf; obtain ⟨ok1, ok2⟩ := aQ (show (codeOk assign && codeOk body) = true from bZ); exact FA hP jP ok1 ok2 hf hr ht hm hs k
theorem GY (hP : lW P) {orc : FuncId -> List Value -> U -> Option (Value × U)} (nU : cY P B w0 orc) : ∀ m, pF P B w0 m (dK P orc m)
  | 0 => fun aY c fr h e jW h' _ hf => by cases hf
  | m + 1 => GX hP nU (GY hP nU m)
end Go.Fs
namespace Go.Fs
open Go.RowKit (Below)
variable {P : Program}
theorem afE (hP : lW P) {B : Nat} {w0 w : World} {orc : FuncId -> List Value -> U -> Option (Value × U)} (nU : cY P B w0 orc) {ρ : Ren} {S : Nat -> Prop} {h : U} {f : FuncId} {args args' : List Value} {v : Value}
    (hE : Enters P f) (hr : HR P ρ S B w0 h w) (ha : LR ρ S args args') (he : qW P orc f args h fun u _ => u = v) (hv : af v = true) : Calls P f args'.toArray w fun | .returned v', w' => v' = v /\ Below B w0 w' | _, _ => False := by
  obtain ⟨m, u, h', h1, rfl⟩ := he
  have hc : CallsIn Fence.wide 0 P f args'.toArray w (xM P B w0 ρ S h w u h') := by
    rcases yN hP nU (GY hP nU m) f args h u h' h1 with h2 | h2
    . exact h2.2 ρ S w args' hr ha 0
    obtain ⟨w', v', h3, _⟩ := h2 ρ S w args' hr ha; rw [uH hE] at h3; simp at h3
  refine Calls.mono (callsIn_wide.1 hc) fun e w' he => ?_
  cases e with
  | returned v' =>
    obtain ⟨bY, m1, X7⟩ := he
    exact ⟨X7.dN hv, m1.hr.below⟩
  | panicked c => exact he.elim
  | outgrown => exact he.elim
end Go.Fs
namespace Go.Fs
open Go.RowKit (Below)
variable {P : Program}
def KM : Nat -> Nat -> List UInt8
  | 0, _ => []
  | f + 1, n => bif Nat.blt n 10 then [UInt8.ofNat (48 + n)] else KM f (n / 10) ++ [UInt8.ofNat (48 + n % 10)]
def afF (n : Int) : List UInt8 := match n with
  | .ofNat k => KM 20 k
  | .negSucc k => 45 :: KM 20 (k + 1)
def afG (sep : List UInt8) : List (List UInt8) -> List UInt8
  | [] => []
  | [w] => w
  | w :: r => w ++ sep ++ afG sep r
def strs : List Value -> Option (List ByteArray)
  | [] => some []
  | .string s :: r => (strs r).map (s :: ·)
  | _ => none
theorem KN : ∀ (f n : Nat), n < 10 ^ (f + 1) -> KM (f + 1) n = Lib.decDigits n
  | f, n, h => by
    unfold KM Lib.decDigits
    cases hb : Nat.blt n 10 with
    | true => rw [dif_pos (jA hb)]; rfl
    | false =>
      have h1 : ¬ n < 10 := by have := iG hb; omega
      rw [dif_neg h1]; simp only [cond_false]
      cases f with
      | zero => simp at h; omega
      | succ f => rw [KN f (n / 10) (by rw [Nat.pow_succ] at h; omega)]
theorem abV {n : Int} (h0 : -1000000000000000000 < n) (h1 : n < 1000000000000000000) : afF n = Lib.itoa n := by
  unfold Lib.itoa
  cases n with
  | ofNat k =>
    rw [if_neg (by simp)]; show KM 20 k = _; rw [KN 19 k (by have : (k : Int) < 1000000000000000000 := h1; have : (10 : Nat) ^ (19 + 1) = 100000000000000000000 := (by decide); omega)]
    rfl
  | negSucc k =>
    rw [if_pos (by omega)]; show 45 :: KM 20 (k + 1) = _; rw [KN 19 (k + 1) (by have h2 : -1000000000000000000 < Int.negSucc k := h0; have : (10 : Nat) ^ (19 + 1) = 100000000000000000000 := (by decide); omega)]; rfl
def KE (fi fj : FuncId) : FuncId -> List Value -> U -> Option (Value × U) := fun f xs h =>
  bif Nat.beq f fi then
    match xs with
    | [.int .i64 n] => bif decide (-1000000000000000000 < n) && decide (n < 1000000000000000000) then some (.string ⟨(afF n).toArray⟩, h) else none
    | _ => none
  else bif Nat.beq f fj then
    match xs with
    | [.slice (some ⟨b, o, none⟩) n _, .string sep] =>
      match h.get b with
      | some (.row _ cs _ _) =>
        bif Nat.ble (o + n) cs.length && Nat.ble n 1000000 then
          match strs ((cs.drop o).take n) with
          | some ss => let r := afG sep.data.toList (ss.map (·.data.toList))
            bif Nat.ble r.length 1000000000 then some (.string ⟨r.toArray⟩, h) else none
          | none => none
        else none
      | _ => none
    | _ => none
  else none
variable {B : Nat} {w0 w w' : World} {ρ : Ren} {S : Nat -> Prop} {h : U}
end Go.Fs
namespace Go.Fs
open Go.RowKit (Below)
variable {P : Program}
def afH (fi fj fa : FuncId) : FuncId -> List Value -> U -> Option (Value × U) := fun f xs h =>
  bif Nat.beq f fa then
    match xs with
    | [] => some (.bool true, h)
    | _ => none
  else KE fi fj f xs h
theorem T4 {B : Nat} {w0 : World} {fi fj fa : FuncId} (hz : w0.drawn = 0) (hS : cY P B w0 (KE fi fj)) (ha : Enters P fa)
    (hA : ∀ w, Below B w0 w -> Calls P fa #[] w fun | .returned v', w' => v' = .bool true /\ Below w.heap.size w w' | _, _ => False) : cY P B w0 (afH fi fj fa) := by
  intro f xs h v h' hf; unfold afH at hf
  cases hb : Nat.beq f fa with
  | true =>
    have := bV hb; subst this; rw [hb] at hf; simp only [cond_true] at hf; split at hf
    . simp only [Option.some.injEq, Prod.mk.injEq] at hf; obtain ⟨rfl, rfl⟩ := hf; refine ⟨ha, fun ρ S w args' hr har nn => ?_⟩; have he : args' = [] := List.eq_nil_of_length_eq_zero har.1.symm; subst he; have hC : CallsIn Fence.wide nn P f #[] w _ := callsIn_wide.2 (hA w hr.below); refine hC.mono fun e w' v7 => ?_
      cases e with
      | returned v' =>
        obtain ⟨rfl, hb⟩ := v7
        exact ⟨ρ, aU.JJ hr hb (by rw [hz]; exact Nat.zero_le _), .lit rfl⟩
      | panicked c => exact v7.elim
      | outgrown => exact v7.elim
    cases hf
  | false =>
    rw [hb] at hf; exact hS f xs h v h' hf
end Go.Fs
namespace Go.Fs
open Go.RowKit (Below)
open Go.Sort Go.Proofs
variable {P : Program}
variable {B : Nat} {w0 w w' : World} {ρ : Ren} {S : Nat -> Prop} {h : U}
end Go.Fs
namespace Go.Fs
open Go.RowKit (Below)
open Go.Sort Go.Proofs
variable {P : Program}
structure aoI (srt : List Value -> Option (List Value)) : Prop where
  len : ∀ vs jD, srt vs = some jD -> jD.length = vs.length
  ino : ∀ vs jD, srt vs = some jD -> vs.all eD = true
  out : ∀ vs jD, srt vs = some jD -> jD.all eD = true
variable {B : Nat} {w0 w w' : World} {ρ : Ren} {S : Nat -> Prop} {h : U}
end Go.Fs
namespace Go.Fs
variable {P : Program} {h h' h0 h1 h2 : U} {S S' : List Nat}
inductive Ty where
  | int (k : IntKind)
  | bool
  | str
  | aO (k : FloatKind)
  | sl (e : Ty)
  | pair (a b : Ty)
  | unit
  | mp (a b : Ty)
  | fn
  | kS
@[reducible] def Ty.den : Ty -> Type
  | .int _ => Int
  | .bool => Bool
  | .str => ByteArray
  | .aO _ => Nat
  | .sl e => List e.den
  | .pair a b => a.den × b.den
  | .unit => Unit
  | .mp a b => List (a.den × b.den)
  | .fn => Option Nat
  | .kS => Option (Nat × Nat)
def Ty.size : Ty -> Nat
  | .pair a b => a.size + b.size
  | .unit => 0
  | _ => 1
def Ty.agg : Ty -> Bool
  | .pair _ _ | .unit => true
  | _ => false
def SlC (h : U) (S : List Nat) {α : Type} (s : Nat) (R : List Value -> α -> Prop) (v : Value) (xs : List α) : Prop :=
  (v = .slice none 0 0 /\ xs = []) \/ ∃ b o mk, v = .slice (some ⟨b, o, none⟩) xs.length mk /\
    (xs = [] \/ (b ∉ S /\ ∃ e' rs own more, h.get b = some (.row e' rs own more) /\ o + xs.length * s <= rs.length /\ ∀ i (hi : i < xs.length), R ((rs.drop (o + i * s)).take s) xs[i]))
def XE (h : U) (S : List Nat) {α β : Type} (K : Value -> α -> Prop) (R : Value -> β -> Prop) (v : Value) (n5 : List (α × β)) : Prop :=
  (v = .map none /\ n5 = []) \/ ∃ b es clock, v = .map (some b) /\ b ∉ S /\ h.get b = some (.oI es clock) /\ es.length = n5.length /\ ∀ i (hi : i < n5.length) (hj : i < es.length), K es[i].key n5[i].1 /\ R es[i].val n5[i].2
def fZ : Value -> Bool
  | .agg _ => true
  | _ => false
def fnV : Option Nat -> Value
  | none => .nilFunc
  | some f => .func (.func f) #[] #[]
def aa3 : Option (Nat × Nat) -> Value
  | none => .slice none 0 0
  | some (b, n) => .slice (some ⟨b, 0, none⟩) n 0
def cG (h : U) (S : List Nat) : (τ : Ty) -> List Value -> τ.den -> Prop
  | .int k, cs, x => cs = [.int k x]
  | .bool, cs, x => cs = [.bool x]
  | .str, cs, x => cs = [.string x]
  | .aO k, cs, x => cs = [.float k x]
  | .sl e, cs, xs => ∃ v, cs = [v] /\ SlC h S e.size (cG h S e) v xs
  | .pair a b, cs, x => cG h S a (cs.take a.size) x.1 /\ cG h S b (cs.drop a.size) x.2
  | .unit, cs, _ => cs = []
  | .mp a b, cs, x => ∃ v, cs = [v] /\ XE h S (fun k y => fZ k = a.agg /\ cG h S a k.cells.toList y) (fun u y => fZ u = b.agg /\ cG h S b u.cells.toList y) v x
  | .fn, cs, f => cs = [fnV f]
  | .kS, cs, f => cs = [aa3 f]
def aE (h : U) (S : List Nat) (τ : Ty) (v : Value) (x : τ.den) : Prop := fZ v = τ.agg /\ cG h S τ v.cells.toList x
theorem cells_one {v : Value} (hv : fZ v = false) : v.cells = #[v] := by
  cases v with
  | agg cs => cases hv
  | _ => rfl
theorem aE.int {k : IntKind} {v : Value} {x : Int} (hv : aE h S (.int k) v x) : v = .int k x := by
  obtain ⟨h1, h2⟩ := hv; rw [cells_one h1] at h2; simpa [cG] using h2
theorem aE.bool {v : Value} {x : Bool} (hv : aE h S .bool v x) : v = .bool x := by
  obtain ⟨h1, h2⟩ := hv; rw [cells_one h1] at h2; simpa [cG] using h2
theorem aE.str {v : Value} {x : ByteArray} (hv : aE h S .str v x) : v = .string x := by
  obtain ⟨h1, h2⟩ := hv; rw [cells_one h1] at h2; simpa [cG] using h2
theorem aE.aO {k : FloatKind} {v : Value} {x : Nat} (hv : aE h S (.aO k) v x) : v = .float k x := by
  obtain ⟨h1, h2⟩ := hv; rw [cells_one h1] at h2; simpa [cG] using h2
theorem aE.ofInt (k : IntKind) (x : Int) : aE h S (.int k) (.int k x) x := ⟨rfl, rfl⟩
theorem aE.ofBool (x : Bool) : aE h S .bool (.bool x) x := ⟨rfl, rfl⟩
theorem aE.ofStr (x : ByteArray) : aE h S .str (.string x) x := ⟨rfl, rfl⟩
theorem aE.uM (k : FloatKind) (x : Nat) : aE h S (.aO k) (.float k x) x := ⟨rfl, rfl⟩
def k9 (h : U) (S : List Nat) (τ : Ty) (v : Value) (xs : List τ.den) : Prop := SlC h S τ.size (cG h S τ) v xs
theorem aE.sl {τ : Ty} {v : Value} {xs : List τ.den} (hv : aE h S (.sl τ) v xs) : k9 h S τ v xs := by
  obtain ⟨h1, h2⟩ := hv; rw [cells_one h1] at h2; obtain ⟨u, h3, h4⟩ := h2; simp only [List.cons.injEq, and_true] at h3; subst h3; exact h4
theorem k9.agg {τ : Ty} {v : Value} {xs : List τ.den} (hv : k9 h S τ v xs) : fZ v = false := by
  rcases hv with ⟨rfl, _⟩ | ⟨b, o, mk, rfl, _⟩ <;> rfl
theorem k9.rep {τ : Ty} {v : Value} {xs : List τ.den} (hv : k9 h S τ v xs) : aE h S (.sl τ) v xs :=
  ⟨hv.agg, by rw [cells_one hv.agg]; exact ⟨v, rfl, hv⟩⟩
theorem k9.nil {τ : Ty} : k9 h S τ (.slice none 0 0) [] := .inl ⟨rfl, rfl⟩
def dA (h : U) (S : List Nat) (h' : U) (S' : List Nat) : Prop := ∀ b o, h.get b = some o -> b ∉ S -> h'.get b = some o /\ b ∉ S'
theorem dA.trans {S'' : List Nat} (a : dA h S h1 S') (b : dA h1 S' h2 S'') : dA h S h2 S'' := fun i o h1 h2 => let ⟨h3, h4⟩ := a i o h1 h2; b i o h3 h4
theorem dA.less (hs : ∀ b, b ∈ S' -> b ∈ S) : dA h S h S' := fun _ _ h1 h2 => ⟨h1, fun h3 => h2 (hs _ h3)⟩
theorem dA.aA (hg : ∀ b, h'.get b = h.get b) : dA h S h' S := fun b _ h1 h2 => ⟨by rw [hg]; exact h1, h2⟩
theorem eV.nx (a : eV h h') (bZ : nK h) : dA h S h' S := fun b o h1 h2 => ⟨by rw [a.get b (bZ b o h1)]; exact h1, h2⟩
theorem SlC.nx {α : Type} {s : Nat} {R R' : List Value -> α -> Prop} (hN : dA h S h' S') (hR : ∀ cs x, R cs x -> R' cs x) {v : Value} {xs : List α} (hv : SlC h S s R v xs) : SlC h' S' s R' v xs := by
  rcases hv with hv | ⟨b, o, mk, h1, h2⟩
  . exact .inl hv
  refine .inr ⟨b, o, mk, h1, ?_⟩; rcases h2 with h2 | ⟨h2, e', rs, own, more, h3, h4, h5⟩
  . exact .inl h2
  obtain ⟨h6, h7⟩ := hN b _ h3 h2; exact .inr ⟨h7, e', rs, own, more, h6, h4, fun i hi => hR _ _ (h5 i hi)⟩
theorem XE.nx {α β : Type} {K K' : Value -> α -> Prop} {R R' : Value -> β -> Prop} (hN : dA h S h' S') (hK : ∀ u x, K u x -> K' u x) (hR : ∀ u x, R u x -> R' u x) {v : Value} {n5 : List (α × β)} (hv : XE h S K R v n5) : XE h' S' K' R' v n5 := by
  rcases hv with hv | ⟨b, es, c, h1, h2, h3, h4, h5⟩
  . exact .inl hv
  obtain ⟨h6, h7⟩ := hN b _ h3 h2; exact .inr ⟨b, es, c, h1, h7, h6, h4, fun i hi hj => ⟨hK _ _ (h5 i hi hj).1, hR _ _ (h5 i hi hj).2⟩⟩
theorem cG.nx (hN : dA h S h' S') : ∀ {τ : Ty} {cs : List Value} {x : τ.den}, cG h S τ cs x -> cG h' S' τ cs x := by
  intro τ
  induction τ with
  | int k => exact fun hx => hx
  | bool => exact fun hx => hx
  | str => exact fun hx => hx
  | aO k => exact fun hx => hx
  | unit => exact fun hx => hx
  | pair a b wH wI => exact fun hx => ⟨wH hx.1, wI hx.2⟩
  | sl e ih =>
    rintro cs x ⟨v, h1, h2⟩
    exact ⟨v, h1, h2.nx hN fun cs x hx => ih hx⟩
  | fn => exact fun hx => hx
  | kS => exact fun hx => hx
  | mp a b wH wI =>
    rintro cs x ⟨v, h1, h2⟩; exact ⟨v, h1, h2.nx hN (fun u x hx => ⟨hx.1, wH hx.2⟩) fun u x hx => ⟨hx.1, wI hx.2⟩⟩
theorem aE.nx {τ : Ty} {v : Value} {x : τ.den} (hv : aE h S τ v x) (hN : dA h S h' S') : aE h' S' τ v x := ⟨hv.1, hv.2.nx hN⟩
theorem cG.len : ∀ {τ : Ty} {cs : List Value} {x : τ.den}, cG h S τ cs x -> cs.length = τ.size := by
  intro τ
  induction τ with
  | int k => rintro cs x rfl; rfl
  | bool => rintro cs x rfl; rfl
  | str => rintro cs x rfl; rfl
  | aO k => rintro cs x rfl; rfl
  | unit => rintro cs x rfl; rfl
  | sl e ih => rintro cs x ⟨v, rfl, _⟩; rfl
  | fn => rintro cs x rfl; rfl
  | kS => rintro cs x rfl; rfl
  | mp a b _ _ => rintro cs x ⟨v, rfl, _⟩; rfl
  | pair a b wH wI =>
    rintro cs x ⟨h1, h2⟩; have e1 := wH h1; have e2 := wI h2; rw [List.length_take] at e1; rw [List.length_drop] at e2; show cs.length = a.size + b.size; omega
def MpV (h : U) (S : List Nat) (a b : Ty) (v : Value) (n5 : List (a.den × b.den)) : Prop := XE h S (aE h S a) (aE h S b) v n5
theorem XE.agg {α β : Type} {K : Value -> α -> Prop} {R : Value -> β -> Prop} {v : Value} {n5 : List (α × β)} (hv : XE h S K R v n5) : fZ v = false := by
  rcases hv with ⟨rfl, _⟩ | ⟨b, es, c, rfl, _⟩ <;> rfl
theorem MpV.rep {a b : Ty} {v : Value} {n5 : List (a.den × b.den)} (hv : MpV h S a b v n5) : aE h S (.mp a b) v n5 :=
  ⟨hv.agg, by rw [cells_one hv.agg]; exact ⟨v, rfl, hv⟩⟩
theorem TE (f : Option Nat) : fZ (fnV f) = false := by cases f <;> rfl
theorem OF (f : Option (Nat × Nat)) : fZ (aa3 f) = false := by cases f <;> rfl
theorem aE.akU (f : Option (Nat × Nat)) : aE h S .kS (aa3 f) f := ⟨OF f, by rw [cells_one (OF f)]; rfl⟩
theorem aE.ofFn (f : Option Nat) : aE h S .fn (fnV f) f := ⟨TE f, by rw [cells_one (TE f)]; rfl⟩
theorem cG.one {τ : Ty} {cs : List Value} {x : τ.den} (ht : τ.agg = false) (hx : cG h S τ cs x) : ∃ v, cs = [v] /\ aE h S τ v x := by
  cases τ with
  | int k => exact ⟨_, hx, rfl, rfl⟩
  | bool => exact ⟨_, hx, rfl, rfl⟩
  | str => exact ⟨_, hx, rfl, rfl⟩
  | aO k => exact ⟨_, hx, rfl, rfl⟩
  | sl e =>
    obtain ⟨v, h1, h2⟩ := hx
    exact ⟨v, h1, k9.rep h2⟩
  | mp a b =>
    obtain ⟨v, h1, h2⟩ := hx
    exact ⟨v, h1, MpV.rep h2⟩
  | fn => exact ⟨_, hx, aE.ofFn _⟩
  | kS => exact ⟨_, hx, aE.akU _⟩
  | pair a b => cases ht
  | unit => cases ht
theorem Ty.qA {τ : Ty} (ht : τ.agg = false) : τ.size = 1 := by
  cases τ <;> first | rfl | cases ht
theorem aE.last {a : Ty} {u : Value} {x : a.den} (ht : a.agg = false) (h1 : aE h S a u x) : cG h S a [u] x := by
  have hu := h1.2; rw [cells_one (h1.1.trans ht)] at hu; exact hu
structure fO (P : Program) (T e : TypeId) (τ : Ty) : Prop where
  sl : SlT P T e τ.size
  agg : ∃ d, P.underlying e = some d /\ vV d = τ.agg
def elB (P : Program) (T e : TypeId) (τ : Ty) : Bool := slB P T e τ.size && (match P.underlying e with | some d => vV d == τ.agg | none => false)
theorem wJ {T e : TypeId} {τ : Ty} (hb : elB P T e τ = true) : fO P T e τ := by
  unfold elB at hb; obtain ⟨h1, h2⟩ := aQ hb; refine ⟨ai1 h1, ?_⟩; split at h2
  . rename_i d hd; exact ⟨d, hd, by simpa using h2⟩
  cases h2
theorem k9.len {T e : TypeId} {τ : Ty} (hT : fO P T e τ) {v : Value} {xs : List τ.den} (hv : k9 h S τ v xs) (h' : U) : o8 P #[T] v h' = some (.int .i64 (xs.length : Nat)) := by
  rcases hv with ⟨rfl, rfl⟩ | ⟨b, o, mk, rfl, _⟩
  . simp [o8, hT.sl.sl]
  simp [o8, hT.sl.sl]
def fS (v : Value) (s j : Nat) : Value :=
  match v with
  | .slice (some ⟨b, o, none⟩) _ _ => .pointer (some ⟨b, o + j * s, none⟩)
  | _ => undef
def mI (h : U) (S : List Nat) (τ : Ty) (p : Value) (x : τ.den) : Prop :=
  ∃ b o e rs own more, p = .pointer (some ⟨b, o, none⟩) /\ b ∉ S /\ h.get b = some (.row e rs own more) /\ o + τ.size <= rs.length /\ cG h S τ ((rs.drop o).take τ.size) x
theorem mI.nx {τ : Ty} {p : Value} {x : τ.den} (hp : mI h S τ p x) (hN : dA h S h' S') : mI h' S' τ p x := by
  obtain ⟨b, o, e, rs, own, more, h1, h2, h3, h4, h5⟩ := hp; obtain ⟨h6, h7⟩ := hN b _ h3 h2; exact ⟨b, o, e, rs, own, more, h1, h7, h6, h4, h5.nx hN⟩
theorem k9.row {τ : Ty} {v : Value} {xs : List τ.den} (hv : k9 h S τ v xs) (hj : 0 < xs.length) : ∃ b o mk e' rs own more, v = .slice (some ⟨b, o, none⟩) xs.length mk /\ b ∉ S /\ h.get b = some (.row e' rs own more) /\ o + xs.length * τ.size <= rs.length /\
    ∀ i (hi : i < xs.length), cG h S τ ((rs.drop (o + i * τ.size)).take τ.size) xs[i] := by
  rcases hv with ⟨rfl, rfl⟩ | ⟨b, o, mk, rfl, h2⟩
  . simp at hj
  rcases h2 with rfl | ⟨h2, e', rs, own, more, h3, h4, h5⟩
  . simp at hj
  exact ⟨b, o, mk, e', rs, own, more, rfl, h2, h3, h4, h5⟩
theorem k9.at {τ : Ty} {v : Value} {xs : List τ.den} (hv : k9 h S τ v xs) {j : Nat} (hj : j < xs.length) : mI h S τ (fS v τ.size j) xs[j] := by
  obtain ⟨b, o, mk, e', rs, own, more, rfl, h2, h3, h4, h5⟩ := hv.row (by omega); refine ⟨b, o + j * τ.size, e', rs, own, more, rfl, h2, h3, ?_, h5 j hj⟩; have : (j + 1) * τ.size <= xs.length * τ.size := Nat.mul_le_mul_right _ hj; rw [Nat.add_mul] at this; omega
theorem k9.ix {T e : TypeId} {τ : Ty} (hT : fO P T e τ) {v : Value} {xs : List τ.den} (hv : k9 h S τ v xs) {j : Nat} (hj : j < xs.length) : aD P (Instr.indexAt T v (.int .i64 (j : Nat))) = some (fS v τ.size j) := by
  obtain ⟨b, o, mk, e', rs, own, more, rfl, h2, h3, h4, h5⟩ := hv.row (by omega); obtain ⟨i, z, DJ, dR, _⟩ := hT.sl.info; unfold Instr.indexAt
  have h6 : (0 : Int) <= (j : Int) /\ (j : Int) < (xs.length : Nat) := by omega
  simp only [aC, asIntOf, aL, Option.bind_some, aK hT.sl.sl, if_pos h6, iD DJ, dR, q5, Int.toNat_natCast, fS]
structure fU (P : Program) (e : TypeId) (τ : Ty) : Prop where
  info : ∃ i, P.info? e = some i /\ i.size = τ.size
  agg : ∃ d, P.underlying e = some d /\ vV d = τ.agg
def TF (P : Program) (e : TypeId) (τ : Ty) : Bool := (match P.info? e with | some i => Nat.beq i.size τ.size | none => false) && (match P.underlying e with | some d => vV d == τ.agg | none => false)
theorem gM {e : TypeId} {τ : Ty} (hb : TF P e τ = true) : fU P e τ := by
  unfold TF at hb; obtain ⟨h1, h2⟩ := aQ hb; refine ⟨?_, ?_⟩
  . split at h1
    . rename_i i hi; exact ⟨i, hi, bV h1⟩
    cases h1
  split at h2
  . rename_i d hd; exact ⟨d, hd, by simpa using h2⟩
  cases h2
def pH (h : U) (τ : Ty) (p : Value) : Value :=
  match p with
  | .pointer (some ⟨b, o, none⟩) =>
    match h.get b with
    | some (.row _ rs _ _) => if τ.agg then .agg ((rs.drop o).take τ.size).toArray else rs.getD o undef
    | _ => undef
  | _ => undef
theorem take_one {rs : List Value} {o : Nat} (ho : o < rs.length) : (rs.drop o).take 1 = [rs[o]] := by
  rw [List.drop_eq_getElem_cons ho]; rfl
theorem mI.afI {e : TypeId} {τ : Ty} (hT : fU P e τ) {p : Value} {x : τ.den} (hp : mI h S τ p x) : dD P e p h = some (pH h τ p) /\ aE h S τ (pH h τ p) x := by
  obtain ⟨b, o, e', rs, own, more, rfl, h2, h3, h4, h5⟩ := hp; obtain ⟨i, hi, hs⟩ := hT.info; obtain ⟨d, hd, ha⟩ := hT.agg; simp only [dD, pH, h3, hd, hi, ha, hs]
  cases hb : τ.agg with
  | true =>
    simp only [if_true, h4]
    refine ⟨trivial, by simpa [fZ] using hb.symm, by simpa [Value.cells] using h5⟩
  | false =>
    have h1 := Ty.qA hb; rw [h1] at h4 h5
    have ho : o < rs.length := by omega
    rw [take_one ho] at h5; obtain ⟨u, hu, hv⟩ := h5.one hb; simp only [List.cons.injEq, and_true] at hu; simp only [Bool.false_eq_true, if_false, List.getD_eq_getElem?_getD, List.getElem?_eq_getElem ho, Option.getD_some]; exact ⟨trivial, by rw [hu]; exact hv⟩
theorem mI.val {τ : Ty} {p : Value} {x : τ.den} (hp : mI h S τ p x) : aE h S τ (pH h τ p) x := by
  obtain ⟨b, o, e', rs, own, more, rfl, h2, h3, h4, h5⟩ := hp; simp only [pH, h3]
  cases hb : τ.agg with
  | true =>
    simp only [if_true]
    refine ⟨by simpa [fZ] using hb.symm, by simpa [Value.cells] using h5⟩
  | false =>
    have h1 := Ty.qA hb; rw [h1] at h4 h5
    have ho : o < rs.length := by omega
    rw [take_one ho] at h5; obtain ⟨u, hu, hv⟩ := h5.one hb; simp only [List.cons.injEq, and_true] at hu; simp only [Bool.false_eq_true, if_false, List.getD_eq_getElem?_getD, List.getElem?_eq_getElem ho, Option.getD_some]; rw [hu]; exact hv
def oN (p : Value) (k : Nat) : Value :=
  match p with
  | .pointer (some ⟨b, o, none⟩) => .pointer (some ⟨b, o + k, none⟩)
  | _ => undef
def eI (P : Program) (s : TypeId) (f k : Nat) : Bool :=
  match P.underlying s with
  | some (.struct fs) => match fs[f]? with
    | some fd => Nat.beq fd.offset k && (match P.info? fd.type with | some i => Nat.blt 0 i.size | none => false)
    | none => false
  | _ => false
theorem mI.fa {s : TypeId} {f k : Nat} {τ : Ty} {p : Value} {x : τ.den} (hp : mI h S τ p x) (hb : eI P s f k = true) : aD P (Instr.fieldAt s p f) = some (oN p k) := by
  obtain ⟨b', o, e', rs, own, more, rfl, h2, h3, h4, h5⟩ := hp; unfold eI at hb; split at hb
  . rename_i fs hfs; split at hb
    . rename_i fd hfd; obtain ⟨h6, h7⟩ := aQ hb; split at h7
      . rename_i i hi; have h8 := jA h7; have h9 := bV h6; unfold Instr.fieldAt; simp only [aC, aK hfs, Option.bind_some, hfd]; show (aD P (Instr.sureAddr _)).bind _ = _; simp only [Instr.sureAddr, aL, Option.bind_some, aC, fieldPlace, iD hi]; rw [if_neg (by omega)]; simp only [aL, Option.bind_some, q5, h9, oN]
      cases h7
    cases hb
  cases hb
end Go.Fs
namespace Go.Fs
variable {P : Program} {h h' h0 h1 h2 : U} {S S' S0 : List Nat}
theorem OG (off : Nat) : ∀ (us : List Value) (j : Nat) (pre mid post : List Value), pre.length = off + j -> mid.length = us.length ->
    (us.zipIdx j).foldl (fun (cs : Array Value) (p : Value × Nat) => cs.setIfInBounds (off + p.2) p.1) (pre ++ mid ++ post).toArray = (pre ++ us ++ post).toArray
  | [], j, pre, mid, post, _, hm => by
    have : mid = [] := List.eq_nil_of_length_eq_zero hm; subst this
    rfl
  | u :: us, j, pre, [], post, _, hm => by simp at hm
  | u :: us, j, pre, m :: mid, post, hp, hm => by
    simp only [List.zipIdx_cons, List.foldl_cons]
    have h1 : (pre ++ (m :: mid) ++ post).toArray.setIfInBounds (off + j) u = ((pre ++ [u]) ++ mid ++ post).toArray := by
      rw [<- hp]; simp
    rw [h1, OG off us (j + 1) (pre ++ [u]) mid post (by simp; omega) (by simpa using hm)]; simp
theorem DK (s off : Nat) (u : Value) (pre mid post : List Value) (hp : pre.length = off) (hm : mid.length = s) (hu : u.cells.size = s) :
    u.cells.zipIdx.foldl (fun (cs : Array Value) (p : Value × Nat) => cs.setIfInBounds (off + p.2) p.1) (pre ++ mid ++ post).toArray = (pre ++ u.cells.toList ++ post).toArray := by
  have := OG off u.cells.toList 0 pre mid post (by omega) (by simp; omega); rw [<- this, <- Array.foldl_toList, Array.toList_zipIdx]
def flat (vs : List Value) : List Value := vs.flatMap fun v => v.cells.toList
theorem OH (s : Nat) : ∀ (vs : List Value) (k : Nat) (pre rest : List Value), (∀ v ∈ vs, v.cells.size = s) -> pre.length = k * s -> rest.length = vs.length * s ->
    Instr.fill (fun i => some (i * s, s)) (pre ++ rest).toArray (lM k vs) = some (pre ++ flat vs).toArray
  | [], k, pre, rest, _, _, hr => by
    have : rest = [] := List.eq_nil_of_length_eq_zero (by simpa using hr); subst this
    rfl
  | v :: vs, k, pre, rest, hc, hp, hr => by
    have hv := hc v List.mem_cons_self; simp only [lM, Instr.fill, hv]
    have hr' : rest.length = vs.length * s + s := by rw [hr, List.length_cons, Nat.add_mul]; omega
    have h2 : (decide (s ≠ s) || decide (k * s + s > (pre ++ rest).toArray.size)) = false := by simp; omega
    rw [show (s ≠ s || k * s + s > (pre ++ rest).toArray.size) = false from h2]; simp only [Bool.false_eq_true, if_false]; have h3 := DK s (k * s) v pre (rest.take s) (rest.drop s) hp (by rw [List.length_take]; omega) hv; rw [List.append_assoc, List.take_append_drop] at h3; have h4 : v.cells.zipIdx.foldl (fun cs (c, j) => cs.setIfInBounds (k * s + j) c) (pre ++ rest).toArray = (pre ++ v.cells.toList ++ rest.drop s).toArray := h3; rw [h4, OH s vs (k + 1) (pre ++ v.cells.toList) (rest.drop s) (fun u hu => hc u (List.mem_cons_of_mem _ hu)) (by simp [hv, hp, Nat.add_mul]) (by rw [List.length_drop]; omega)]; simp [flat]
theorem aE.sX {τ : Ty} {u : Value} {x : τ.den} (hu : aE h S τ u x) : u.cells.size = τ.size := by simpa using hu.2.len
theorem cG.kC : ∀ {τ : Ty} {cs : List Value} {x : τ.den}, cG h S τ cs x -> cs.all aN = true := by
  intro τ
  induction τ with
  | int k => rintro cs x rfl; rfl
  | bool => rintro cs x rfl; rfl
  | str => rintro cs x rfl; rfl
  | aO k => rintro cs x rfl; rfl
  | unit => rintro cs x rfl; rfl
  | sl e ih =>
    rintro cs x ⟨v, rfl, h2⟩
    rcases h2 with ⟨rfl, _⟩ | ⟨b, o, mk, rfl, _⟩ <;> rfl
  | fn => rintro cs x rfl; cases x <;> rfl
  | kS => rintro cs x rfl; cases x <;> rfl
  | mp a b _ _ =>
    rintro cs x ⟨v, rfl, h2⟩
    rcases h2 with ⟨rfl, _⟩ | ⟨b, es, c, rfl, _⟩ <;> rfl
  | pair a b wH wI =>
    rintro cs x ⟨h1, h2⟩; have e1 := wH h1; have e2 := wI h2; rw [<- List.take_append_drop a.size cs, List.all_append, e1, e2]; rfl
def bM (h : U) (S : List Nat) (τ : Ty) (rs : List Value) (xs : List τ.den) : Prop := rs.length = xs.length * τ.size /\ ∀ i (hi : i < xs.length), cG h S τ ((rs.drop (i * τ.size)).take τ.size) xs[i]
theorem bM.nx {τ : Ty} {rs : List Value} {xs : List τ.den} (he : bM h S τ rs xs) (hN : dA h S h' S') : bM h' S' τ rs xs := ⟨he.1, fun i hi => (he.2 i hi).nx hN⟩
theorem bM.nil {τ : Ty} : bM h S τ [] [] := ⟨by simp, fun i hi => absurd hi (by simp)⟩
theorem bM.append {τ : Ty} {rs rs' : List Value} {xs xs' : List τ.den} (he : bM h S τ rs xs) (lP : bM h S τ rs' xs') : bM h S τ (rs ++ rs') (xs ++ xs') := by
  refine ⟨by rw [List.length_append, List.length_append, he.1, lP.1, Nat.add_mul], fun i hi => ?_⟩; by_cases h1 : i < xs.length
  . have h2 : (i + 1) * τ.size <= xs.length * τ.size := Nat.mul_le_mul_right _ h1; rw [Nat.add_mul] at h2
    have h3 : i * τ.size <= rs.length := by rw [he.1]; omega
    rw [List.getElem_append_left h1, List.drop_append_of_le_length h3, List.take_append_of_le_length (by rw [List.length_drop, he.1]; omega)]; exact he.2 i h1
  have qX : xs.length <= i := by omega
  have h2 : i - xs.length < xs'.length := by rw [List.length_append] at hi; omega
  rw [List.getElem_append_right qX]
  have h3 : (rs ++ rs').drop (i * τ.size) = rs'.drop ((i - xs.length) * τ.size) := by
    have h4 : i * τ.size = rs.length + (i - xs.length) * τ.size := by rw [he.1, <- Nat.add_mul]; congr 1; omega
    rw [h4, List.drop_append, List.drop_eq_nil_of_le (by omega), Nat.add_sub_cancel_left, List.nil_append]
  rw [h3]; exact lP.2 _ h2
theorem bM.one {τ : Ty} {u : Value} {x : τ.den} (hu : aE h S τ u x) : bM h S τ u.cells.toList [x] := by
  refine ⟨by simpa using hu.sX, fun i hi => ?_⟩
  have : i = 0 := by simpa using hi
  subst this; simp only [Nat.zero_mul, List.drop_zero, List.getElem_cons_zero]; rw [List.take_of_length_le (by rw [Array.length_toList, hu.sX]; exact Nat.le_refl _)]; exact hu.2
theorem bM.kC {τ : Ty} : ∀ (xs : List τ.den) (rs : List Value), bM h S τ rs xs -> rs.all aN = true := by
  intro xs
  induction xs with
  | nil => intro rs he; have := he.1; simp at this; subst this; rfl
  | cons x xs ih =>
    intro rs he; have h1 := he.2 0 (by simp); simp only [Nat.zero_mul, List.drop_zero, List.getElem_cons_zero] at h1
    have h2 : bM h S τ (rs.drop τ.size) xs := by
      refine ⟨by rw [List.length_drop, he.1, List.length_cons, Nat.add_mul]; omega, fun i hi => ?_⟩; have := he.2 (i + 1) (by simpa using hi); rw [List.drop_drop]; rw [Nat.add_mul, Nat.one_mul, List.getElem_cons_succ] at this
      rwa [Nat.add_comm]
    rw [<- List.take_append_drop τ.size rs, List.all_append, h1.kC, ih _ h2]; rfl
theorem bM.slv {τ : Ty} {e' : TypeId} {rs : List Value} {xs : List τ.den} {own more : Bool} {b mk : Nat} (he : bM h S τ rs xs) (hg : h.get b = some (.row e' rs own more)) (hb : b ∉ S) : k9 h S τ (.slice (some ⟨b, 0, none⟩) xs.length mk) xs :=
  .inr ⟨b, 0, mk, rfl, .inr ⟨hb, e', rs, own, more, hg, by rw [he.1]; omega, fun i hi => by rw [Nat.zero_add]; exact he.2 i hi⟩⟩
theorem vs1 {τ : Ty} {u : Value} {x : τ.den} (h1 : aE h S τ u x) : ∀ i (hi : i < [u].length) (hx : i < [x].length), aE h S τ [u][i] [x][i] := by
  intro i hi hx
  match i, hi with
  | 0, _ => exact h1
theorem afJ {T e : TypeId} {τ : Ty} (hT : fO P T e τ) {vs : List Value} {xs : List τ.den} (hl : vs.length = xs.length) (hv : ∀ i (hi : i < vs.length) (hx : i < xs.length), aE h S τ vs[i] xs[i]) (h0 : vs ≠ []) (dR : vs.length <= 1000) (IG : τ.size <= 100) (h2 : U) :
    iQ P T vs.length (lM 0 vs).toArray h2 = some (.slice (some ⟨h2.next, 0, none⟩) vs.length 0, h2.push (.row e (flat vs) true false)) := by
  obtain ⟨i, z, h1, I9, _, _, h3, h4, h5⟩ := hT.sl.info; have oM : 0 < vs.length := List.length_pos_iff.2 h0
  have hc : ∀ v ∈ vs, v.cells.size = τ.size /\ v.cells.toList.all aN = true := by
    intro v hm; obtain ⟨k, hk, rfl⟩ := List.getElem_of_mem hm; have := hv k hk (by omega); exact ⟨this.sX, this.2.kC⟩
  unfold iQ; have hb : Nat.beq vs.length 0 = false := eE (by omega); simp only [hT.sl.sl, h1, hb, cond_false, h3, I9]
  have kX : ∀ (k : Nat) (l : List Value), (∀ v ∈ l, v.cells.size = τ.size /\ v.cells.toList.all aN = true) -> ((lM k l).all fun p => p.2.cells.toList.all aN) = true := by
    intro k l
    induction l generalizing k with
    | nil => intro _; rfl
    | cons u l ih =>
      intro hl; have hu := hl u List.mem_cons_self; have hr := ih (k + 1) fun w hw => hl w (List.mem_cons_of_mem _ hw); simp only [lM, List.all_cons, hu.2, Bool.true_and]; exact hr
  have FE : (Nat.ble (vs.length * τ.size) 16777216 && Nat.blt 0 τ.size && z.cells.toList.all eD && (lM 0 vs).all fun p => p.2.cells.toList.all aN) = true := by
    have e1 : Nat.ble (vs.length * τ.size) 16777216 = true := by
      rw [Nat.ble_eq]; have := Nat.mul_le_mul dR IG; omega
    have e2 : Nat.blt 0 τ.size = true := by show Nat.ble 1 τ.size = true; rw [Nat.ble_eq]; exact hT.sl.pos
    rw [e1, e2, h5, kX 0 vs hc]; rfl
  rw [FE]; simp only [cond_true]; have hf := OH τ.size vs 0 [] ((Array.range (vs.length * τ.size)).map (z.cells[· % z.cells.size]!)).toList (fun v rE => (hc v rE).1) (by simp) (by simp); simp only [List.nil_append, Array.toArray_toList] at hf; rw [hf]
theorem bM.flat {τ : Ty} : ∀ (vs : List Value) (xs : List τ.den), vs.length = xs.length -> (∀ i (hi : i < vs.length) (hx : i < xs.length), aE h S τ vs[i] xs[i]) -> bM h S τ (Fs.flat vs) xs
  | [], [], _, _ => bM.nil
  | v :: vs, x :: xs, hl, hv => by
    have h1 : bM h S τ v.cells.toList [x] := bM.one (hv 0 (by simp) (by simp)); have h2 := bM.flat vs xs (by simpa using hl) fun i hi hx => hv (i + 1) (by simpa using hi) (by simpa using hx)
    exact h1.append h2
  | [], x :: xs, hl, _ => by simp at hl
  | v :: vs, [], hl, _ => by simp at hl
def rI (h : U) (S : List Nat) (lo : Nat) (e : TypeId) (m : Bool) (τ : Ty) (v : Value) (xs : List τ.den) : Prop :=
  (v = .slice none 0 0 /\ xs = []) \/ ∃ b rs, b ∈ S /\ lo <= b /\ v = .slice (some ⟨b, 0, none⟩) xs.length 0 /\ h.get b = some (.row e rs true m) /\ bM h S τ rs xs
theorem AX {i : TypeInfo} {z : Value} {k b o n m s : Nat} {e e2 : TypeId} {rs news : List Value} {own more : Bool} (his : i.size = s) (hk : k * s ≠ 0) (hb : h.get b = some (.row e rs own more)) (hn : k <= n) (ho : o + k * s <= rs.length) (akV : (rs.drop o).take (k * s) = news) (hnk : n = k) :
    gB i z (isInt (.slice e2)) (.slice (some ⟨b, o, none⟩) n m) h = some (k, news) := by
  subst hnk; simp only [gB, isInt, cond_false, mF, cellsOf, his, hb]
  have e1 : Nat.ble n n = true := by rw [Nat.ble_eq]; exact Nat.le_refl _
  have e2 : Nat.beq (n * s) 0 = false := eE hk
  have e3 : Nat.ble (o + n * s) rs.length = true := by rw [Nat.ble_eq]; omega
  simp only [e1, cond_true, e2, cond_false, e3, Option.map_some, akV]
theorem rI.len {lo : Nat} {T e : TypeId} {m : Bool} {τ : Ty} {v : Value} {xs : List τ.den} (hg : rI h S lo e m τ v xs) (hT : fO P T e τ) (h' : U) : o8 P #[T] v h' = some (.int .i64 (xs.length : Nat)) := by
  rcases hg with ⟨rfl, rfl⟩ | ⟨b, rs, h1, h2, rfl, h4, h5⟩
  . simp [o8, hT.sl.sl]
  simp [o8, hT.sl.sl]
end Go.Fs
namespace Go.Fs
variable {P : Program} {orc : FuncId -> List Value -> U -> Option (Value × U)} {aY : Option Nat} {h h' h0 h1 h2 : U} {ops : Array Oper} {n i mem : Nat} {fl : FL} {K : FL -> U -> Prop} {l : List Oper} {bs : List Nat} {segs : List (Nat × Nat × Nat)} {tail : Bool}
  {d : Tmp} {ty : TypeId} {pos : String} {after : Array Edge} {op : Op} {v : Value} {S S' S0 : List Nat} {ms : List Nat} {Q : Ex -> Fr -> U -> Prop}
theorem aE.box {τ : Ty} {e : TypeId} {u : Value} {x : τ.den} (bZ : nK h) (hS : ∀ b ∈ S, b < h.next) (hx : aE h S τ u x) : mI (h.push (.row e u.cells.toList true false)) S τ (.pointer (some ⟨h.next, 0, none⟩)) x := by
  have hN : dA h S (h.push (.row e u.cells.toList true false)) S := (eV.push h _).nx bZ; refine ⟨h.next, 0, e, u.cells.toList, true, false, rfl, fun hm => ?_, by rw [U.bQ, if_pos rfl], by rw [Array.length_toList, hx.sX]; omega, ?_⟩
  . have := hS _ hm; omega
  rw [List.drop_zero, List.take_of_length_le (by rw [Array.length_toList, hx.sX]; exact Nat.le_refl _)]; exact hx.2.nx hN
section
variable {fr : Fr} {id xT : Nat} {b : Code} {I : Nat -> FL -> U -> Prop} {k : Nat}
end
theorem cG.v8 : ∀ {τ : Ty} {cs : List Value} {x : τ.den}, cs.all eD = true -> cG h S τ cs x -> cG h' S' τ cs x := by
  intro τ
  induction τ with
  | int k => exact fun _ hx => hx
  | bool => exact fun _ hx => hx
  | str => exact fun _ hx => hx
  | aO k => exact fun _ hx => hx
  | unit => exact fun _ hx => hx
  | pair a b wH wI =>
    intro cs x ha hx; rw [<- List.take_append_drop a.size cs, List.all_append] at ha; obtain ⟨h1, h2⟩ := aQ ha
    exact ⟨wH h1 hx.1, wI h2 hx.2⟩
  | sl e ih =>
    rintro cs x ha ⟨v, rfl, h2⟩; rcases h2 with h2 | ⟨b, o, mk, rfl, _⟩
    . exact ⟨v, rfl, .inl h2⟩
    cases ha
  | fn => exact fun _ hx => hx
  | kS => exact fun _ hx => hx
  | mp a b _ _ =>
    rintro cs x ha ⟨v, rfl, h2⟩; rcases h2 with h2 | ⟨b, es, c, rfl, _⟩
    . exact ⟨v, rfl, .inl h2⟩
    cases ha
theorem aE.v8 {τ : Ty} {v : Value} {x : τ.den} (hv : aE h S τ v x) (ha : oX v = true) : aE h' S' τ v x := by
  refine ⟨hv.1, hv.2.v8 ?_⟩
  cases v with
  | agg cs => exact ha
  | _ => simpa [Value.cells, oX] using ha
end Go.Fs
namespace Go.Fs
variable {P : Program} {orc : FuncId -> List Value -> U -> Option (Value × U)} {aY : Option Nat} {h h' h0 h1 h2 hs : U} {ops : Array Oper} {n i mem b : Nat} {fl : FL} {K : FL -> U -> Prop} {l : List Oper} {bs : List Nat} {segs : List (Nat × Nat × Nat)} {tail : Bool}
  {d : Tmp} {ty : TypeId} {pos : String} {after : Array Edge} {op : Op} {v : Value} {S S' S0 : List Nat}
def l8 (hs : U) (segs : List (Nat × Nat × Nat)) : Prop := ∀ s ∈ segs, hs.next <= s.2.1
theorem l8.nil : l8 hs [] := fun _ h => by cases h
theorem l8.cons {lo hi : Nat} (h1 : hs.next <= lo) (h2 : l8 hs segs) : l8 hs ((i, lo, hi) :: segs) := fun s hm => by
  rcases List.mem_cons.1 hm with rfl | hm
  . exact h1
  exact h2 s hm
theorem qB {p : Nat × bC -> Bool} {b : Nat} (hp : ∀ o, p (b, o) = true) : ∀ l : List (Nat × bC), look (l.filter p) b = look l b
  | [] => rfl
  | (k, o) :: r => by
    rw [List.filter_cons]; by_cases hk : k = b
    . subst hk; rw [if_pos (hp o)]; simp [look]
    split
    . simp only [look, eE hk, cond_false, qB hp r]
    simp only [look, eE hk, cond_false, qB hp r]
theorem OI {m lo b : Nat} (hb : b < lo) : ∀ (segs : List (Nat × Nat × Nat)) (aA : List (Nat × bC)), (∀ s ∈ segs, lo <= s.2.1) -> look (mask m segs aA) b = look aA b
  | [], _, _ => rfl
  | (k, l, hi) :: segs, aA, hs => by
    simp only [mask]; rw [OI hb segs _ fun s hm => hs s (List.mem_cons_of_mem _ hm)]; split
    . rfl
    refine qB (fun o => ?_) aA; have := hs _ List.mem_cons_self; unfold outside; simp only [Bool.not_eq_true', Bool.and_eq_false_iff, decide_eq_false_iff_not]
    left; simp only at this; omega
theorem wK {m b : Nat} {o : bC} : ∀ (segs : List (Nat × Nat × Nat)) (aA : List (Nat × bC)), look (mask m segs aA) b = some o -> look aA b = some o
  | [], _, h => h
  | (k, l, hi) :: segs, aA, h => by
    simp only [mask] at h; have := wK segs _ h; split at this
    . exact this
    exact (pC (outside l hi) (fun b => !(decide (l <= b) && decide (b < hi))) (fun _ _ => rfl) aA b o this).1
def msk (m : Nat) (segs : List (Nat × Nat × Nat)) (h : U) : U := { next := h.next, low := h.next, aA := mask m segs h.aA }
theorem XF {m : Nat} (hA : eV hs h) (hsg : l8 hs segs) : eV hs (msk m segs h) where
  next := hA.next
  get := fun b hb => (OI hb segs h.aA hsg).trans (hA.get b hb)
  ok := fun bZ b o hg => hA.ok bZ b o (wK segs h.aA hg)
  low := fun e h1 h2 => Nat.le_trans h2 hA.next
theorem sY (a : Nat) : Nat.ble a a = true := by rw [Nat.ble_eq]; exact Nat.le_refl _
theorem KO (a : Nat) : Nat.blt a a = false := by
  cases hx : Nat.blt a a with
  | false => rfl
  | true => have := jA hx; omega
theorem l9 {a b : Nat} (hl : b <= a) : Nat.blt a b = false := by
  cases hx : Nat.blt a b with
  | false => rfl
  | true => have := jA hx; omega
theorem r3 {M : U} (bZ : nK h) (hM : ∀ b o, M.get b = some o -> h.get b = some o) (hMn : M.next = h.next) (hA : eV M h') (afK : nK M) :
    eV h { next := h'.next, low := h.low, aA := bI h.next h'.next h'.aA ++ h.aA } /\ ∀ S, dA h' S { next := h'.next, low := h.low, aA := bI h.next h'.next h'.aA ++ h.aA } S := by
  have hold : ∀ b, b < h.next -> look (bI h.next h'.next h'.aA ++ h.aA) b = look h.aA b := fun b hb => by
    rw [jO]
    cases hl : look (bI h.next h'.next h'.aA) b with
    | none => rfl
    | some o => have := (fA _ _ _ hl).1; omega
  have jB : ∀ b o, h.next <= b -> look h'.aA b = some o -> look (bI h.next h'.next h'.aA ++ h.aA) b = some o := fun b o hb hl => by
    rw [jO]; have bO : b < h'.next := hA.ok afK b o hl; rw [FB _ _ hb bO, hl]; rfl
  have gU : h.next <= h'.next := by have := hA.next; omega
  refine ⟨⟨gU, hold, fun _ b o hg => ?_, fun e h1 _ => h1⟩, fun S b o hg hS => ⟨?_, hS⟩⟩
  . by_cases hb : b < h.next
    . exact Nat.lt_of_lt_of_le hb gU
    have gD : look (bI h.next h'.next h'.aA ++ h.aA) b = some o := hg; rw [jO] at gD
    cases hl : look (bI h.next h'.next h'.aA) b with
    | some o' => exact (fA _ _ _ hl).1.2
    | none => rw [hl] at gD; exact absurd (bZ b o gD) hb
  by_cases hb : b < h.next
  . have h3 : M.get b = some o := by rw [<- hA.get b (by omega)]; exact hg
    exact (hold b hb).trans (hM b o h3)
  exact jB b o (by omega) hg
end Go.Fs
namespace Go.Fs
variable {P : Program} {orc : FuncId -> List Value -> U -> Option (Value × U)} {aY : Option Nat} {h h' h0 h1 h2 hs : U} {ops : Array Oper} {n i mem b : Nat} {fl : FL} {K : FL -> U -> Prop} {l : List Oper} {bs : List Nat} {segs : List (Nat × Nat × Nat)} {tail : Bool}
  {d : Tmp} {ty : TypeId} {pos : String} {after : Array Edge} {op : Op} {v : Value} {S S' S0 : List Nat} {ms : List Nat} {Q : Ex -> Fr -> U -> Prop} {c : Code}
theorem wrap64 {n : Int} (h0 : -9223372036854775808 <= n) (h1 : n <= 9223372036854775807) : IntKind.i64.wrap n = n := by
  unfold IntKind.wrap; simp only [IntKind.bits, IntKind.signed, Bool.true_and]
  have e : (2 ^ 64 : Int) = 18446744073709551616 := by decide
  have e' : (2 ^ (64 - 1) : Int) = 9223372036854775808 := by decide
  simp only [e, e', decide_eq_true_eq, ge_iff_le]; split <;> omega
variable {T T' : TypeId} {x y : Operand} {p q : Int}
end Go.Fs
namespace Go.Fs
variable {P : Program} {orc : FuncId -> List Value -> U -> Option (Value × U)} {aY : Option Nat} {h h' h0 h1 h2 hs : U} {ops : Array Oper} {n i mem b : Nat} {fl : FL} {K : FL -> U -> Prop} {l : List Oper} {bs : List Nat} {segs : List (Nat × Nat × Nat)} {tail : Bool}
  {d : Tmp} {ty : TypeId} {pos : String} {after : Array Edge} {op : Op} {v : Value} {S S' S0 : List Nat} {ms : List Nat} {Q : Ex -> Fr -> U -> Prop} {c : Code}
def vA (h : U) (lo : Nat) (p : Value) (cs : List Value) : Prop := ∃ b e, p = .pointer (some ⟨b, 0, none⟩) /\ lo <= b /\ h.get b = some (.row e cs true false)
theorem vA.ld1 {lo : Nat} {p u : Value} {e : TypeId} {cs : List Value} {k : Nat} {τ : Ty} (hb : vA h lo p cs) (hT : fU P e τ) (ha : τ.agg = false) (hk : cs[k]? = some u) : dD P e (oN p k) h = some u := by
  obtain ⟨b, e', rfl, h2, h3⟩ := hb; obtain ⟨i, hi, hs⟩ := hT.info; obtain ⟨d, hd, fW⟩ := hT.agg; have h4 : h.get b = some (.row e' cs true false) := h3; simp only [dD, oN, h4, hd, hi, fW, ha, Nat.zero_add, hk]; rfl
theorem vA.ld0 {lo : Nat} {p u : Value} {e : TypeId} {cs : List Value} {τ : Ty} (hb : vA h lo p cs) (hT : fU P e τ) (ha : τ.agg = false) (hk : cs[0]? = some u) : dD P e p h = some u := by
  have := hb.ld1 (k := 0) hT ha hk; obtain ⟨b, e', rfl, h2, h3⟩ := hb; exact this
theorem vA.IH {lo : Nat} {p : Value} {e : TypeId} {cs : List Value} {τ : Ty} (hb : vA h lo p cs) (hT : fU P e τ) (ha : τ.agg = true) (hk : cs.length = τ.size) : dD P e p h = some (.agg cs.toArray) := by
  obtain ⟨b, e', rfl, h2, h3⟩ := hb; obtain ⟨i, hi, hs⟩ := hT.info; obtain ⟨d, hd, fW⟩ := hT.agg; have h4 : h.get b = some (.row e' cs true false) := h3; simp only [dD, h4, hd, hi, fW, ha, hs, if_true]; rw [if_pos (by omega), List.drop_zero, <- hk, List.take_length]
theorem vA.fa {lo : Nat} {p : Value} {cs : List Value} {s : TypeId} {f k : Nat} (hp : vA h lo p cs) (hb : eI P s f k = true) : aD P (Instr.fieldAt s p f) = some (oN p k) := by
  obtain ⟨b', e', rfl, h2, h3⟩ := hp; unfold eI at hb; split at hb
  . rename_i fs hfs; split at hb
    . rename_i fd hfd; obtain ⟨h6, h7⟩ := aQ hb; split at h7
      . rename_i i hi; have h8 := jA h7; have h9 := bV h6; unfold Instr.fieldAt; simp only [aC, aK hfs, Option.bind_some, hfd]; show (aD P (Instr.sureAddr _)).bind _ = _; simp only [Instr.sureAddr, aL, Option.bind_some, aC, fieldPlace, iD hi]; rw [if_neg (by omega)]; simp only [aL, Option.bind_some, q5, h9, oN]
      cases h7
    cases hb
  cases hb
end Go.Fs
namespace Go.Fs
variable {P : Program} {h h' : U} {fl : FL} {S : List Nat}
theorem KP {T : TypeId} {parts : Array (Nat × Value)} {fields : Array Field} {places : Array (Nat × Nat)} {z : Value} (hu : P.underlying T = some (.struct fields)) (hz : aD P (zeroValue T) = some z)
    (hp : aD P (fields.mapM fun f => do pure (f.offset, <- sizeOf f.type)) = some places) {cs : Array Value} (hf : Instr.fill (places[·]?) z.cells parts.toList = some cs) : aD P (Instr.build T parts) = some (.agg cs) := by
  unfold Instr.build; rw [aC, hz]; simp only [Option.bind_some]; rw [aC, aK hu]; simp only [Option.bind_some]; rw [aC, hp]; simp only [Option.bind_some, hf]; rfl
def One : List Value -> Prop
  | [] => True
  | v :: vs => (v.cells = #[v] /\ aN v = true) /\ One vs
end Go.Fs
namespace Go.Fs
variable {P : Program} {orc : FuncId -> List Value -> U -> Option (Value × U)} {aY : Option Nat} {h h' h0 h1 h2 hs : U} {ops : Array Oper} {n i mem b : Nat} {fl : FL} {K : FL -> U -> Prop} {l : List Oper} {bs : List Nat} {segs : List (Nat × Nat × Nat)} {tail : Bool}
  {d : Tmp} {ty : TypeId} {pos : String} {after : Array Edge} {op : Op} {v : Value} {S S' S0 : List Nat} {ms : List Nat} {Q : Ex -> Fr -> U -> Prop} {c : Code}
theorem GZ {cs us : List Value} (hl : us.length = cs.length) : bF cs 0 us = us := by
  unfold bF; rw [List.take_zero, List.nil_append, Nat.zero_add, hl, List.drop_length, List.append_nil]
theorem KQ {τ : Ty} {rs us : List Value} {xs : List τ.den} {x : τ.den} {j : Nat} (he : bM h S τ rs xs) (hj : j < xs.length) (hx : cG h S τ us x) : bM h S τ (bF rs (j * τ.size) us) (xs.set j x) := by
  have FF := hx.len; have qC := he.1; have AO : (j + 1) * τ.size <= xs.length * τ.size := Nat.mul_le_mul_right _ hj; rw [Nat.add_mul, Nat.one_mul] at AO
  have sS : (rs.take (j * τ.size)).length = j * τ.size := by rw [List.length_take]; omega
  refine ⟨?_, fun i hi => ?_⟩
  . unfold bF; rw [List.length_append, List.length_append, sS, List.length_drop, List.length_set]; omega
  rw [List.length_set] at hi; have hold := he.2 i hi; unfold bF; rw [List.append_assoc]; by_cases h1 : i < j
  . have h2 : (i + 1) * τ.size <= j * τ.size := Nat.mul_le_mul_right _ h1; rw [Nat.add_mul, Nat.one_mul] at h2; rw [List.getElem_set_ne (by omega), List.drop_append_of_le_length (by omega), List.take_append_of_le_length (by rw [List.length_drop]; omega), List.drop_take, List.take_take, Nat.min_eq_left (by omega)]; exact hold
  by_cases h2 : i = j
  . subst h2
    have e1 : (rs.take (i * τ.size) ++ (us ++ rs.drop (i * τ.size + us.length))).drop (i * τ.size) = us ++ rs.drop (i * τ.size + us.length) := by
      have := List.drop_left' (l₂ := us ++ rs.drop (i * τ.size + us.length)) sS; exact this
    rw [e1, List.getElem_set_self, List.take_left' FF]; exact hx
  have h3 : (j + 1) * τ.size <= i * τ.size := Nat.mul_le_mul_right _ (by omega); rw [Nat.add_mul, Nat.one_mul] at h3
  have e1 : (rs.take (j * τ.size) ++ (us ++ rs.drop (j * τ.size + us.length))).drop (i * τ.size) = rs.drop (i * τ.size) := by
    rw [List.drop_append, List.drop_eq_nil_of_le (by omega), List.nil_append, sS, List.drop_append, List.drop_eq_nil_of_le (by omega), List.nil_append, List.drop_drop]; congr 1; omega
  rw [e1, List.getElem_set_ne (by omega)]; exact hold
theorem rI.own {lo : Nat} {e : TypeId} {m : Bool} {τ : Ty} {v : Value} {xs : List τ.den} (hg : rI h S lo e m τ v xs) (h0 : 0 < xs.length) : ∃ b rs, b ∈ S /\ lo <= b /\ v = .slice (some ⟨b, 0, none⟩) xs.length 0 /\ h.get b = some (.row e rs true m) /\ bM h S τ rs xs := by
  rcases hg with ⟨rfl, rfl⟩ | hg
  . simp at h0
  exact hg
theorem rI.ix {lo : Nat} {T e : TypeId} {m : Bool} {τ : Ty} {v : Value} {xs : List τ.den} (hg : rI h S lo e m τ v xs) (hT : fO P T e τ) {j : Nat} (hj : j < xs.length) : aD P (Instr.indexAt T v (.int .i64 (j : Nat))) = some (fS v τ.size j) := by
  obtain ⟨b, rs, _, _, rfl, _, _⟩ := hg.own (by omega); obtain ⟨i, z, DJ, dR, _⟩ := hT.sl.info; unfold Instr.indexAt
  have h6 : (0 : Int) <= (j : Int) /\ (j : Int) < (xs.length : Nat) := by omega
  simp only [aC, asIntOf, aL, Option.bind_some, aK hT.sl.sl, if_pos h6, iD DJ, dR, q5, Int.toNat_natCast, fS]
theorem rI.ld {lo : Nat} {e : TypeId} {m : Bool} {τ : Ty} {v : Value} {xs : List τ.den} (hg : rI h S lo e m τ v xs) (hT : fU P e τ) {j : Nat} (hj : j < xs.length) : dD P e (fS v τ.size j) h = some (pH h τ (fS v τ.size j)) /\ aE h S τ (pH h τ (fS v τ.size j)) xs[j] := by
  obtain ⟨b, rs, _, _, rfl, h4, h5⟩ := hg.own (by omega); have AO : (j + 1) * τ.size <= xs.length * τ.size := Nat.mul_le_mul_right _ hj; rw [Nat.add_mul, Nat.one_mul] at AO; have qC := h5.1; obtain ⟨i, hi, hs⟩ := hT.info; obtain ⟨d, hd, ha⟩ := hT.agg; have hx := h5.2 j hj; simp only [dD, pH, fS, h4, hd, hi, ha, hs, Nat.zero_add]
  cases hb : τ.agg with
  | true =>
    simp only [if_true, show j * τ.size + τ.size <= rs.length by omega]
    exact ⟨trivial, by simpa [fZ] using hb.symm, by simpa [Value.cells] using hx⟩
  | false =>
    have h1 := Ty.qA hb; rw [h1] at hx AO qC ⊢
    have ho : j * 1 < rs.length := by omega
    rw [take_one ho] at hx; obtain ⟨u, hu, hv⟩ := hx.one hb; simp only [List.cons.injEq, and_true] at hu; simp only [Bool.false_eq_true, if_false, List.getD_eq_getElem?_getD, List.getElem?_eq_getElem ho, Option.getD_some]; exact ⟨trivial, by rw [hu]; exact hv⟩
theorem k9.cut {T e : TypeId} {τ : Ty} (hT : fO P T e τ) {v : Value} {xs : List τ.den} (hv : k9 h S τ v xs) {a b : Int} (h0 : 0 <= a /\ a <= b /\ b <= (xs.length : Nat)) :
    ∃ w, (∀ nn ll, bS P T v (some (.int .i64 a)) (some (.int .i64 b)) none { next := nn, low := ll, aA := h.aA } = some w) /\ k9 h S τ w ((xs.take b.toNat).drop a.toNat) := by
  obtain ⟨i, z, DJ, dR, _⟩ := hT.sl.info; obtain ⟨a', rfl⟩ := Int.eq_ofNat_of_zero_le h0.1; obtain ⟨b', rfl⟩ := Int.eq_ofNat_of_zero_le (show 0 <= b by omega)
  have hb : b' <= xs.length := by omega
  have hab : a' <= b' := by omega
  simp only [Int.toNat_natCast]; rcases hv with ⟨rfl, rfl⟩ | ⟨bl, o, mk, rfl, h2⟩
  . have : a' = 0 /\ b' = 0 := by simp at hb; omega
    obtain ⟨rfl, rfl⟩ := this; refine ⟨.slice none 0 0, fun nn ll => ?_, .inl ⟨rfl, rfl⟩⟩; simp [bS, hT.sl.sl, cR, DJ]
  have e1 : Nat.ble a' b' = true := by rw [Nat.ble_eq]; exact hab
  have e2 : Nat.ble b' xs.length = true := by rw [Nat.ble_eq]; exact hb
  have hl : ((xs.take b').drop a').length = b' - a' := by simp; omega
  by_cases amN : a' < b' \/ a' = 0
  . refine ⟨.slice (some ⟨bl, o + a' * τ.size, none⟩) (b' - a') (bif Nat.beq mk 1 then (bif Nat.beq b' xs.length then 1 else 2) else l5 e bl a' mk h), fun nn ll => ?_, ?_⟩
    . have mB : l5 e bl a' mk { next := nn, low := ll, aA := h.aA } = l5 e bl a' mk h := rfl
      have oO : (Nat.blt a' b' || Nat.beq a' 0) = true := by
        rcases amN with h3 | rfl
        . have : Nat.blt a' b' = true := by show Nat.ble (a' + 1) b' = true; rw [Nat.ble_eq]; exact h3
          rw [this]; rfl
        simp
      simp only [bS, hT.sl.sl, DJ, cR, Int.natCast_nonneg, if_true, Int.toNat_natCast, e1, e2, Bool.and_self, cond_true, cutAt, oO, dR, mB]
    refine .inr ⟨bl, o + a' * τ.size, _, by rw [hl], ?_⟩; by_cases hz : a' = b'
    . left; exact List.eq_nil_of_length_eq_zero (by omega)
    right; rcases h2 with rfl | ⟨h2, e', rs, own, more, h3, h4, h5⟩
    . simp at hb; omega
    have X3 : b' * τ.size <= xs.length * τ.size := Nat.mul_le_mul_right _ hb
    have aoY : a' * τ.size + (b' - a') * τ.size = b' * τ.size := by rw [<- Nat.add_mul]; congr 1; omega
    refine ⟨h2, e', rs, own, more, h3, by rw [hl]; omega, fun i hi => ?_⟩; rw [hl] at hi; have := h5 (a' + i) (by omega); rw [List.getElem_drop, List.getElem_take]
    rwa [Nat.add_mul, <- Nat.add_assoc] at this
  have amO : a' = b' := by omega
  subst amO; refine ⟨.slice (some ⟨0, 0, none⟩) 0 2, fun nn ll => ?_, .inr ⟨0, 0, 2, by rw [hl]; simp, .inl (List.eq_nil_of_length_eq_zero (by omega))⟩⟩
  have oO : (Nat.blt a' a' || Nat.beq a' 0) = false := by
    rw [KO, eE (by omega)]; rfl
  simp only [bS, hT.sl.sl, DJ, cR, Int.natCast_nonneg, if_true, Int.toNat_natCast, e1, e2, Bool.and_self, cond_true, cutAt, oO, cond_false]
end Go.Fs
namespace Go.Fs
variable {P : Program} {fl : FL}
theorem n9 : aD P program = some P := rfl
end Go.Fs
namespace Go.Fs
variable {P : Program} {orc : FuncId -> List Value -> U -> Option (Value × U)} {h h' h0 : U} {fl : FL} {op : Op} {v : Value} {S S' S0 : List Nat} {ops : Array Oper} {n : Nat} {K : FL -> U -> Prop} {l : List Oper} {d : Tmp} {ty : TypeId} {pos : String} {after : Array Edge}
theorem apart {p q : List Nat} {m : Nat} (hp : ∀ b ∈ p, m <= b) (hq : ∀ b ∈ q, b < m) : ∀ b ∈ p, b ∉ q := fun b h1 h2 => by
  have := hp b h1; have := hq b h2; omega
theorem TG {T e : TypeId} {τ : Ty} (hT : fO P T e τ) (H : U) : bS P T (.slice none 0 0) none (some (.int .i64 0)) none H = some (.slice none 0 0) := by
  obtain ⟨i, z, mJ, _⟩ := hT.sl.info; simp [bS, hT.sl.sl, cR, mJ]
theorem TH {T e : TypeId} {τ : Ty} (hT : fO P T e τ) (H : U) (b n : Nat) : bS P T (.slice (some ⟨b, 0, none⟩) n 0) none (some (.int .i64 0)) none H = some (.slice (some ⟨b, 0, none⟩) 0 0) := by
  obtain ⟨i, z, mJ, _⟩ := hT.sl.info
  have e1 : Nat.ble 0 n = true := by rw [Nat.ble_eq]; exact Nat.zero_le _
  have e2 : Nat.ble 0 0 = true := rfl; have e3 : Nat.beq 0 1 = false := rfl; simp only [bS, hT.sl.sl, cR, mJ]; simp [e1, e2, e3, cutAt, l5]
theorem oC (z : Value) (n : Nat) : (bR z n).length = n * z.cells.size := by simp [bR]
theorem XG {z : Value} (hz : z.cells.toList.all aN = true) (h0 : 0 < z.cells.size) (n : Nat) : (bR z n).all aN = true := by
  rw [List.all_eq_true]; intro x hx; simp only [bR, List.mem_map, List.mem_range] at hx; obtain ⟨k, _, rfl⟩ := hx; have hk : k % z.cells.size < z.cells.size := Nat.mod_lt _ h0; rw [getElem!_pos z.cells _ hk]; exact List.all_eq_true.1 hz _ (by rw [<- Array.getElem_toList (h := by simpa using hk)]; exact List.getElem_mem _)
theorem DL {cs : List Value} (hc : cs.all eD = true) : cs.all aN = true := by
  rw [List.all_eq_true] at hc ⊢; intro x hx; have := hc x hx; cases x <;> first | rfl | simp_all [eD, aN]
end Go.Fs
namespace Go.Fs
variable {P : Program} {orc : FuncId -> List Value -> U -> Option (Value × U)} {h h' h0 : U} {fl : FL} {op : Op} {v : Value} {S S' S0 : List Nat} {ops : Array Oper} {n i mem : Nat} {K : FL -> U -> Prop} {l : List Oper} {d : Tmp} {ty : TypeId} {pos : String} {after : Array Edge} {bs : List Nat} {segs : List (Nat × Nat × Nat)} {tail : Bool}
theorem sZ {n : Int} (h : 0 <= n /\ n < 18446744073709551616) : IntKind.u64.wrap n = n := by
  unfold IntKind.wrap; simp only [IntKind.bits, IntKind.signed, Bool.false_and]
  have e : (2 ^ 64 : Int) = 18446744073709551616 := by decide
  simp only [e]; have := Int.emod_eq_of_lt h.1 h.2; simp [this]
end Go.Fs
namespace Go.Fs
def Ty.iA : Ty -> Bool
  | .sl _ => false
  | .mp _ _ => false
  | .fn => false
  | .kS => false
  | .pair a b => a.iA && b.iA
  | _ => true
def Ty.lS : (τ : Ty) -> τ.den -> List Value
  | .int k, n => [.int k n]
  | .bool, b => [.bool b]
  | .str, s => [.string s]
  | .aO k, b => [.float k b]
  | .unit, _ => []
  | .sl _, _ => []
  | .mp _ _, _ => []
  | .fn, _ => []
  | .kS, _ => []
  | .pair a b, x => a.lS x.1 ++ b.lS x.2
theorem H0 {h : U} {S : List Nat} : ∀ {τ : Ty} {cs : List Value} {x : τ.den}, cG h S τ cs x -> τ.iA = true -> cs = τ.lS x := by
  intro τ
  induction τ with
  | int k => intro cs x hx _; exact hx
  | bool => intro cs x hx _; exact hx
  | str => intro cs x hx _; exact hx
  | aO k => intro cs x hx _; exact hx
  | unit => intro cs x hx _; exact hx
  | sl e ih => intro cs x _ hf; cases hf
  | fn => intro cs x _ hf; cases hf
  | kS => intro cs x _ hf; cases hf
  | mp a b _ _ => intro cs x _ hf; cases hf
  | pair a b wH wI =>
    intro cs x hx hf
    have h1 : a.iA = true /\ b.iA = true := by simpa [Ty.iA] using hf
    have e1 := wH hx.1 h1.1; have e2 := wI hx.2 h1.2; show cs = a.lS x.1 ++ b.lS x.2; rw [<- e1, <- e2, List.take_append_drop]
end Go.Fs
namespace Go.Fs
variable {P : Program} {h h' h0 h1 h2 : U} {S S' S0 B G : List Nat}
inductive PV where
  | v (τ : Ty) (x : τ.den)
  | p (τ : Ty) (x : τ.den)
  | raw (u : Value)
  | lA (f : FuncId) (a c : List PV)
  | oD (l : List PV)
  | gd (b : Bool) (v : PV)
  | agg (l : List PV)
mutual
def aH (h : U) (S : List Nat) : PV -> Value -> Prop
  | .v τ x, u => aE h S τ u x
  | .p τ x, u => mI h S τ u x
  | .raw w, u => u = w
  | .lA f a c, u => ∃ va vc : List Value, u = .func (.func f) va.toArray vc.toArray /\ bA h S a va /\ bA h S c vc
  | .oD l, u => ∃ vs : List Value, u = .tuple vs.toArray /\ bA h S l vs
  | .gd b v, u => (b = true -> aH h S v u) /\ (b = false -> u = undef)
  | .agg l, u => ∃ vs : List Value, u = .agg vs.toArray /\ bA h S l vs
def bA (h : U) (S : List Nat) : List PV -> List Value -> Prop
  | [], us => us = []
  | p :: ps, us => ∃ u r, us = u :: r /\ aH h S p u /\ bA h S ps r
end
def qD (h : U) (S : List Nat) (h' : U) (S' : List Nat) : Prop := ∀ b o, h.get b = some o -> o ≠ .iP -> b ∉ S -> h'.get b = some o /\ b ∉ S'
theorem dA.r (hN : dA h S h' S') : qD h S h' S' := fun b _ hg _ hb => hN b _ hg hb
theorem cG.mK (hN : qD h S h' S') : ∀ {τ : Ty} {cs : List Value} {x : τ.den}, cG h S τ cs x -> cG h' S' τ cs x := by
  intro τ
  induction τ with
  | int k => exact fun hx => hx
  | bool => exact fun hx => hx
  | str => exact fun hx => hx
  | aO k => exact fun hx => hx
  | unit => exact fun hx => hx
  | pair a b wH wI => exact fun hx => ⟨wH hx.1, wI hx.2⟩
  | sl e ih =>
    rintro cs x ⟨v, h1, h2⟩; refine ⟨v, h1, ?_⟩; rcases h2 with h2 | ⟨b, o, mk, h2, h3⟩
    . exact .inl h2
    refine .inr ⟨b, o, mk, h2, ?_⟩; rcases h3 with h3 | ⟨h3, e', rs, own, more, h4, h5, h6⟩
    . exact .inl h3
    obtain ⟨h7, h8⟩ := hN b _ h4 (by simp) h3
    exact .inr ⟨h8, e', rs, own, more, h7, h5, fun i hi => ih (h6 i hi)⟩
  | fn => exact fun hx => hx
  | kS => exact fun hx => hx
  | mp a b wH wI =>
    rintro cs x ⟨v, h1, h2⟩; refine ⟨v, h1, ?_⟩; rcases h2 with h2 | ⟨b, es, c, h2, h3, h4, h5, h6⟩
    . exact .inl h2
    obtain ⟨h7, h8⟩ := hN b _ h4 (by simp) h3; exact .inr ⟨b, es, c, h2, h8, h7, h5, fun i hi hj => ⟨⟨(h6 i hi hj).1.1, wH (h6 i hi hj).1.2⟩, ⟨(h6 i hi hj).2.1, wI (h6 i hi hj).2.2⟩⟩⟩
theorem mI.mK (hN : qD h S h' S') {τ : Ty} {p : Value} {x : τ.den} (hp : mI h S τ p x) : mI h' S' τ p x := by
  obtain ⟨b, o, e, rs, own, more, h1, h2, h3, h4, h5⟩ := hp; obtain ⟨h6, h7⟩ := hN b _ h3 (by simp) h2; exact ⟨b, o, e, rs, own, more, h1, h7, h6, h4, h5.mK hN⟩
mutual
theorem aH.mK (hN : qD h S h' S') : ∀ {pv : PV} {u : Value}, aH h S pv u -> aH h' S' pv u
  | .v τ x, u, hx => ⟨hx.1, cG.mK hN hx.2⟩
  | .p τ x, u, hx => mI.mK hN hx
  | .raw w, u, hx => hx
  | .lA f a c, u, ⟨va, vc, h1, h2, h3⟩ => ⟨va, vc, h1, bA.mK hN h2, bA.mK hN h3⟩
  | .oD l, u, ⟨vs, h1, h2⟩ => ⟨vs, h1, bA.mK hN h2⟩
  | .gd b v, u, ⟨h1, h2⟩ => ⟨fun e => aH.mK hN (h1 e), h2⟩
  | .agg l, u, ⟨vs, h1, h2⟩ => ⟨vs, h1, bA.mK hN h2⟩
theorem bA.mK (hN : qD h S h' S') : ∀ {l : List PV} {us : List Value}, bA h S l us -> bA h' S' l us
  | [], us, hx => hx
  | p :: ps, us, ⟨u, r, h1, h2, h3⟩ => ⟨u, r, h1, aH.mK hN h2, bA.mK hN h3⟩
end
theorem aH.nx (hN : dA h S h' S') {pv : PV} {u : Value} (hx : aH h S pv u) : aH h' S' pv u := hx.mK hN.r
theorem bA.nx (hN : dA h S h' S') {l : List PV} {us : List Value} (hx : bA h S l us) : bA h' S' l us := hx.mK hN.r
theorem bA.len : ∀ {l : List PV} {us : List Value}, bA h S l us -> us.length = l.length
  | [], us, hx => by rw [show us = [] from hx]; rfl
  | p :: ps, us, ⟨u, r, h1, _, h3⟩ => by rw [h1, List.length_cons, List.length_cons, bA.len h3]
theorem bA.append : ∀ {l l' : List PV} {us uN : List Value}, bA h S l us -> bA h S l' uN -> bA h S (l ++ l') (us ++ uN)
  | [], l', us, uN, hx, hy => by rw [show us = [] from hx]; exact hy
  | p :: ps, l', us, uN, ⟨u, r, h1, h2, h3⟩, hy => ⟨u, r ++ uN, by rw [h1]; rfl, h2, bA.append h3 hy⟩
def PV.iJ : PV -> Bool
  | .v τ _ => τ.iA
  | .raw u => oX u
  | _ => false
def PV.flat : PV -> Bool
  | .oD l => l.all PV.iJ
  | q => q.iJ
theorem sG : ∀ (τ : Ty) (x : τ.den), (τ.lS x).all eD = true
  | .int _, _ => rfl
  | .bool, _ => rfl
  | .str, _ => rfl
  | .aO _, _ => rfl
  | .unit, _ => rfl
  | .sl _, _ => rfl
  | .mp _ _, _ => rfl
  | .fn, _ => rfl
  | .kS, _ => rfl
  | .pair a b, x => by
    show (a.lS x.1 ++ b.lS x.2).all eD = true; rw [List.all_append, sG a, sG b]; rfl
theorem FG {τ : Ty} {u : Value} {x : τ.den} (hf : τ.iA = true) (hx : aE h S τ u x) : oX u = true := by
  have hc := H0 hx.2 hf
  cases ha : fZ u with
  | true =>
    cases u with
    | agg cs =>
      show cs.toList.all eD = true; have : cs.toList = τ.lS x := hc
      rw [this]; exact sG τ x
    | _ => cases ha
  | false =>
    rw [cells_one ha] at hc; have h1 := sG τ x; rw [<- hc] at h1
    have h2 : eD u = true := by simpa using h1
    cases u with
    | agg cs => cases ha
    | _ => exact h2
theorem aH.iJ : ∀ {pv : PV} {u : Value}, pv.iJ = true -> aH h S pv u -> oX u = true /\ ∀ h' S', aH h' S' pv u
  | .v τ x, u, hf, hx => ⟨FG hf hx, fun h' S' => aE.v8 (τ := τ) hx (FG hf hx)⟩
  | .raw w, u, hf, hx => ⟨by rw [show u = w from hx]; exact hf, fun _ _ => hx⟩
  | .p _ _, _, hf, _ => by cases hf
  | .lA _ _ _, _, hf, _ => by cases hf
  | .oD _, _, hf, _ => by cases hf
  | .gd _ _, _, hf, _ => by cases hf
theorem bA.iJ : ∀ {l : List PV} {us : List Value}, l.all PV.iJ = true -> bA h S l us -> us.all oX = true /\ ∀ h' S', bA h' S' l us
  | [], us, _, hx => ⟨by rw [show us = [] from hx]; rfl, fun _ _ => hx⟩
  | p :: ps, us, hf, ⟨u, r, h1, h2, h3⟩ => by
    rw [List.all_cons] at hf; obtain ⟨f1, f2⟩ := aQ hf; obtain ⟨a1, a2⟩ := h2.iJ f1; obtain ⟨b1, b2⟩ := bA.iJ f2 h3; exact ⟨by rw [h1, List.all_cons, a1, b1]; rfl, fun h' S' => ⟨u, r, h1, a2 h' S', b2 h' S'⟩⟩
theorem KR {u : Value} (hu : oX u = true) : af u = true := by
  cases u with
  | tuple vs => cases hu
  | _ => exact hu
theorem aH.flat {pv : PV} {u : Value} (hf : pv.flat = true) (hx : aH h S pv u) : af u = true /\ ∀ h' S', aH h' S' pv u := by
  cases pv with
  | oD l =>
    obtain ⟨vs, h1, h2⟩ := hx; obtain ⟨a1, a2⟩ := bA.iJ (l := l) hf h2; refine ⟨?_, fun h' S' => ⟨vs, h1, a2 h' S'⟩⟩; rw [h1]; show vs.toArray.toList.all oX = true
    exact a1
  | v τ x => obtain ⟨a1, a2⟩ := aH.iJ (pv := .v τ x) hf hx; exact ⟨KR a1, a2⟩
  | p τ x => cases hf
  | raw w => obtain ⟨a1, a2⟩ := aH.iJ (pv := .raw w) hf hx; exact ⟨KR a1, a2⟩
  | lA f a c => cases hf
  | gd b v => cases hf
  | agg l => cases hf
structure cI (h h' : U) (B : List Nat) : Prop where
  next : h.next <= h'.next
  get : ∀ b, b < h.next -> b ∉ B -> h'.get b = h.get b
  ok : nK h -> nK h'
  low : ∀ e, e <= h.low -> e <= h.next -> (∀ b ∈ B, e <= b) -> e <= h'.low
  chg : ∀ b, b < h.next -> h'.get b = h.get b \/ h'.low <= b
  tA : h'.low <= h.low
theorem cI.refl (h : U) (B : List Nat) : cI h h B := ⟨Nat.le_refl _, fun _ _ _ => rfl, fun x => x, fun _ x _ _ => x, fun _ _ => .inl rfl, Nat.le_refl _⟩
theorem cI.trans {B' : List Nat} (a : cI h h1 B) (b : cI h1 h2 B') (hB : ∀ i ∈ B', i ∈ B \/ h.next <= i) : cI h h2 B where
  next := Nat.le_trans a.next b.next
  get := fun i hi hn => by
    have := a.next; rw [b.get i (by omega) (fun hm => by rcases hB i hm with h3 | h3; exact hn h3; omega), a.get i hi hn]
  ok := fun x => b.ok (a.ok x)
  low := fun e h3 h4 h5 => b.low e (a.low e h3 h4 h5) (Nat.le_trans h4 a.next) fun i hi => by
    rcases hB i hi with h6 | h6
    . exact h5 i h6
    omega
  chg := fun i hi => by
    have := a.next; have := b.tA; rcases b.chg i (by omega) with h3 | h3
    . rcases a.chg i hi with h4 | h4
      . exact .inl (h3.trans h4)
      exact .inr (by omega)
    exact .inr h3
  tA := Nat.le_trans b.tA a.tA
theorem cI.aa4 {B' : List Nat} (a : cI h h1 B) (hB : ∀ i ∈ B, i ∈ B') : cI h h1 B' where
  next := a.next
  get := fun i hi hn => a.get i hi fun hm => hn (hB i hm)
  ok := a.ok
  low := fun e h3 h4 h5 => a.low e h3 h4 fun i hi => h5 i (hB i hi)
  chg := a.chg
  tA := a.tA
theorem cI.after (a : cI h h1 []) : eV h h1 := ⟨a.next, fun b hb => a.get b hb (by simp), a.ok, fun e h3 h4 => a.low e h3 h4 (by simp)⟩
theorem cI.push (h : U) (o : bC) (B : List Nat) : cI h (h.push o) B where
  next := Nat.le_succ _
  get := fun b hb _ => by rw [U.bQ, if_neg (by omega)]
  ok := (eV.push h o).ok
  low := fun e h3 _ _ => h3
  chg := fun b hb => .inl (by rw [U.bQ, if_neg (by omega)])
  tA := Nat.le_refl _
theorem cI.set {b : Nat} {o o' : bC} (hg : h.get b = some o) (hb : b ∈ B) : cI h (h.set b o') B where
  next := Nat.le_refl _
  get := fun i _ hi => by rw [U.cX hg, if_neg (fun e => hi (by subst e; exact hb))]
  ok := fun x i oi hi => by
    rw [U.cX hg] at hi; split at hi
    . rename_i e; rw [e]; exact x b o hg
    exact x i oi hi
  low := fun e h3 _ h5 => Nat.le_min.2 ⟨h3, h5 b hb⟩
  chg := fun i hi => by
    by_cases e : i = b
    . exact .inr (by subst e; exact Nat.min_le_right _ _)
    exact .inl (by rw [U.cX hg, if_neg e])
  tA := Nat.min_le_left _ _
theorem cI.drop {b : Nat} (hb : b ∈ B) : cI h (h.drop b) B where
  next := Nat.le_refl _
  get := fun i _ hi => by rw [U.cK, if_neg (fun e => hi (by subst e; exact hb))]
  ok := fun x i oi hi => by
    rw [U.cK] at hi; split at hi
    . cases hi
    exact x i oi hi
  low := fun e h3 _ h5 => Nat.le_min.2 ⟨h3, h5 b hb⟩
  chg := fun i hi => by
    by_cases e : i = b
    . exact .inr (by subst e; exact Nat.min_le_right _ _)
    exact .inl (by rw [U.cK, if_neg e])
  tA := Nat.min_le_left _ _
theorem cI.goes (a : cI h h' B) (bZ : nK h) (hB : ∀ b ∈ B, b ∈ S) (hS : ∀ b ∈ S', b ∈ S \/ h.next <= b) : dA h S h' S' := fun b o hg hb => by
  have bO := bZ b o hg; refine ⟨by rw [a.get b bO (fun hm => hb (hB b hm))]; exact hg, fun hm => ?_⟩; rcases hS b hm with h3 | h3
  . exact hb h3
  omega
inductive Cell where
  | row (e : TypeId) (τ : Ty) (xs : List τ.den)
  | var (cs : List PV)
  | cap (e : TypeId) (n : Nat) (τ : Ty) (xs : List τ.den)
  | mp (κ ν : Ty) (n5 : List (κ.den × ν.den))
  | it (s : ByteArray) (pos : Nat)
  | loop (st : LoopState) (jump : Option Code) (n : Nat) (fl : List (Nat × PV)) (ps : Array Tmp) (assign body : Code)
  | NC (e : TypeId) (n : Nat) (cs : List PV)
abbrev aR := List (Value × Cell)
def dX : Value -> List Nat
  | .slice (some a) _ _ => [a.block]
  | .pointer (some a) => [a.block]
  | .map (some b) => [b]
  | .func (.yield l) _ _ => [l]
  | _ => []
abbrev VL := List (Nat × PV)
def kT : VL -> Nat -> Option PV
  | [], _ => none
  | (k, v) :: r, i => bif Nat.beq k i then some v else kT r i
def eQ (h : U) (S : List Nat) (t : Tr) (fl : VL) : Prop := ∀ k v, kT fl k = some v -> aH h S v (t.get k)
theorem eQ.nx {t : Tr} {fl : VL} (hs : eQ h S t fl) (hN : dA h S h' S') : eQ h' S' t fl := fun k v hk => (hs k v hk).nx hN
theorem eQ.mK {t : Tr} {fl : VL} (hs : eQ h S t fl) (hN : qD h S h' S') : eQ h' S' t fl := fun k v hk => (hs k v hk).mK hN
def own (σ : aR) : List Nat := σ.flatMap fun c => dX c.1
def cU (h : U) (S : List Nat) (w : Value) : Cell -> Prop
  | .row e τ xs => (w = .slice none 0 0 /\ xs = []) \/ ∃ b rs m, w = .slice (some ⟨b, 0, none⟩) xs.length 0 /\ b ∈ S /\ h.get b = some (.row e rs true m) /\ bM h S τ rs xs
  | .var cs => ∃ b e vs, w = .pointer (some ⟨b, 0, none⟩) /\ b ∈ S /\ h.get b = some (.row e vs true false) /\ bA h S cs vs /\ vs.all aN = true
  | .cap e n τ xs => ∃ b rs m, w = .slice (some ⟨b, 0, none⟩) xs.length 0 /\ b ∈ S /\ h.get b = some (.row e rs true m) /\ rs.length = n * τ.size /\ xs.length <= n /\ bM h S τ (rs.take (xs.length * τ.size)) xs
  | .mp κ ν n5 => ∃ b es clock, w = .map (some b) /\ b ∈ S /\ h.get b = some (.oI es clock) /\ es.length = n5.length /\ ∀ i (hi : i < n5.length) (hj : i < es.length), aE h S κ es[i].key n5[i].1 /\ aE h S ν es[i].val n5[i].2
  | .it s pos => ∃ b, w = .pointer (some ⟨b, 0, none⟩) /\ b ∈ S /\ h.get b = some (.iter s pos)
  | .loop st jump n fl ps assign body => ∃ l tmps d, w = .func (.yield l) #[] #[] /\ l ∈ S /\ h.get l = some (.dM st jump tmps n ps assign body d) /\ eQ h S tmps fl
  | .NC e n cs => (w = .slice none 0 0 /\ n = 0 /\ cs = []) \/ ∃ b rs m, w = .slice (some ⟨b, 0, none⟩) n 0 /\ b ∈ S /\ h.get b = some (.row e rs true m) /\ bA h S cs rs /\ rs.all aN = true /\ (n = 0 -> m = false)
theorem cU.aV {w : Value} : ∀ {c : Cell}, cU h S w c -> (∀ b ∈ dX w, h'.get b = h.get b) -> dA h S h' S' -> (∀ b ∈ dX w, b ∈ S') -> cU h' S' w c
  | .row e τ xs, hc, hg, hN, hs => by
    rcases hc with hc | ⟨b, rs, m, rfl, h2, h3, h4⟩
    . exact .inl hc
    exact .inr ⟨b, rs, m, rfl, hs b (by simp [dX]), by rw [hg b (by simp [dX])]; exact h3, h4.nx hN⟩
  | .var cs, ⟨b, e, vs, h1, h2, h3, h4, h5⟩, hg, hN, hs => by
    subst h1
    exact ⟨b, e, vs, rfl, hs b (by simp [dX]), by rw [hg b (by simp [dX])]; exact h3, h4.nx hN, h5⟩
  | .cap e n τ xs, ⟨b, rs, m, h1, h2, h3, h4, h5, h6⟩, hg, hN, hs => by
    subst h1
    exact ⟨b, rs, m, rfl, hs b (by simp [dX]), by rw [hg b (by simp [dX])]; exact h3, h4, h5, h6.nx hN⟩
  | .mp κ ν n5, ⟨b, es, c, h1, h2, h3, h4, h5⟩, hg, hN, hs => by
    subst h1
    exact ⟨b, es, c, rfl, hs b (by simp [dX]), by rw [hg b (by simp [dX])]; exact h3, h4, fun i hi hj => ⟨(h5 i hi hj).1.nx hN, (h5 i hi hj).2.nx hN⟩⟩
  | .it s pos, ⟨b, h1, h2, h3⟩, hg, hN, hs => by
    subst h1
    exact ⟨b, rfl, hs b (by simp [dX]), by rw [hg b (by simp [dX])]; exact h3⟩
  | .loop st jump n fl ps assign body, ⟨l, tmps, d, h1, h2, h3, h4⟩, hg, hN, hs => by
    subst h1
    exact ⟨l, tmps, d, rfl, hs l (by simp [dX]), by rw [hg l (by simp [dX])]; exact h3, h4.nx hN⟩
  | .NC e n cs, hc, hg, hN, hs => by
    rcases hc with hc | ⟨b, rs, m, rfl, h2, h3, h4, h5⟩
    . exact .inl hc
    exact .inr ⟨b, rs, m, rfl, hs b (by simp [dX]), by rw [hg b (by simp [dX])]; exact h3, h4.nx hN, h5⟩
theorem cU.isObj {w : Value} : ∀ {c : Cell}, cU h S w c -> ∀ b ∈ dX w, ∃ o, h.get b = some o /\ o ≠ .iP
  | .row e τ xs, hc, b, hb => by
    rcases hc with ⟨rfl, _⟩ | ⟨b', rs, m, rfl, h2, h3, h4⟩
    . cases hb
    obtain rfl : b = b' := by simpa [dX] using hb
    exact ⟨_, h3, by simp⟩
  | .var cs, ⟨b', e, vs, h1, h2, h3, h4, h5⟩, b, hb => by
    subst h1
    obtain rfl : b = b' := by simpa [dX] using hb
    exact ⟨_, h3, by simp⟩
  | .cap e n τ xs, ⟨b', rs, m, h1, h2, h3, h4, h5, h6⟩, b, hb => by
    subst h1
    obtain rfl : b = b' := by simpa [dX] using hb
    exact ⟨_, h3, by simp⟩
  | .mp κ ν n5, ⟨b', es, c, h1, h2, h3, h4, h5⟩, b, hb => by
    subst h1
    obtain rfl : b = b' := by simpa [dX] using hb
    exact ⟨_, h3, by simp⟩
  | .it s pos, ⟨b', h1, h2, h3⟩, b, hb => by
    subst h1
    obtain rfl : b = b' := by simpa [dX] using hb
    exact ⟨_, h3, by simp⟩
  | .loop st jump n fl ps assign body, ⟨l, tmps, d, h1, h2, h3, h4⟩, b, hb => by
    subst h1
    obtain rfl : b = l := by simpa [dX] using hb
    exact ⟨_, h3, by simp⟩
  | .NC e n cs, hc, b, hb => by
    rcases hc with ⟨rfl, _⟩ | ⟨b', rs, m, rfl, h2, h3, h4⟩
    . cases hb
    obtain rfl : b = b' := by simpa [dX] using hb
    exact ⟨_, h3, by simp⟩
theorem eQ.set {t : Tr} {fl : VL} (hs : eQ h S t fl) {d : Nat} {v : PV} {u : Value} (hu : aH h S v u) (hd : d < 4000) : eQ h S (t.set depth d u) ((d, v) :: fl) := by
  intro k w hk; rw [zS t d u k hd]; simp only [kT] at hk
  cases hb : Nat.beq d k with
  | true => rw [hb] at hk; simp only [cond_true, Option.some.injEq] at hk; subst hk; rw [if_pos (bV hb).symm]; exact hu
  | false => rw [hb] at hk; simp only [cond_false] at hk; rw [if_neg (Ne.symm (gC hb))]; exact hs k w hk
theorem eQ.cons {t : Tr} {fl : VL} (hs : eQ h S t fl) {d : Nat} {v : PV} (hu : aH h S v (t.get d)) : eQ h S t ((d, v) :: fl) := by
  intro k w hk; simp only [kT] at hk
  cases hb : Nat.beq d k with
  | true => rw [hb] at hk; simp only [cond_true, Option.some.injEq] at hk; subst hk; rw [<- bV hb]; exact hu
  | false => rw [hb] at hk; exact hs k w hk
theorem eQ.sub {t : Tr} {fl : VL} (hs : eQ h S t fl) (eS : VL) (hf : ∀ p ∈ eS, kT fl p.1 = some p.2) : eQ h S t eS := by
  intro k v hk
  have : (k, v) ∈ eS := by
    clear hf
    induction eS with
    | nil => cases hk
    | cons p r ih =>
      obtain ⟨i, u⟩ := p; simp only [kT] at hk
      cases hb : Nat.beq i k with
      | true => rw [hb] at hk; simp only [cond_true, Option.some.injEq] at hk; rw [bV hb, hk]; exact List.mem_cons_self
      | false => rw [hb] at hk; exact List.mem_cons_of_mem _ (ih hk)
  exact hs k v (hf _ this)
def QH : Value -> Option PV
  | .int k n => some (.v (.int k) n)
  | .bool b => some (.v .bool b)
  | .string s => some (.v .str s)
  | .float k b => some (.v (.aO k) b)
  | c => if af c then some (.raw c) else none
def aS (fl : VL) : Operand -> Option PV
  | .tmp i => kT fl i
  | .const c => QH c
  | .global _ => none
  | .func f => some (.lA f [] [])
theorem KS {c : Value} {v : PV} (hc : QH c = some v) : af c = true /\ ∀ h S, aH h S v c := by
  cases c with
  | int k n => obtain rfl := Option.some.inj hc; exact ⟨rfl, fun _ _ => aE.ofInt _ _⟩
  | bool b => obtain rfl := Option.some.inj hc; exact ⟨rfl, fun _ _ => aE.ofBool _⟩
  | string s => obtain rfl := Option.some.inj hc; exact ⟨rfl, fun _ _ => aE.ofStr _⟩
  | float k b => obtain rfl := Option.some.inj hc; exact ⟨rfl, fun _ _ => aE.uM _ _⟩
  | _ =>
    simp only [QH] at hc; split at hc
    . rename_i ha; obtain rfl := Option.some.inj hc; exact ⟨ha, fun _ _ => rfl⟩
    cases hc
theorem dL {fl : VL} {t : Tr} (hs : eQ h S t fl) {x : Operand} {v : PV} (hx : aS fl x = some v) : aH h S v (aB t x) := by
  cases x with
  | tmp i => exact hs i v hx
  | const c =>
    obtain ⟨h1, h2⟩ := KS hx; show aH h S v (if af c then c else j9)
    rw [if_pos h1]; exact h2 h S
  | global g => cases hx
  | func f => obtain rfl := Option.some.inj hx; exact ⟨[], [], rfl, rfl, rfl⟩
def kI (fl : VL) : List Operand -> Option (List PV)
  | [] => some []
  | x :: r => match aS fl x, kI fl r with
    | some v, some vs => some (v :: vs)
    | _, _ => none
theorem r4 {fl : VL} {t : Tr} (hs : eQ h S t fl) : ∀ {l : List Operand} {vs : List PV}, kI fl l = some vs -> bA h S vs (l.map (aB t))
  | [], vs, hx => by obtain rfl := Option.some.inj hx; rfl
  | x :: r, vs, hx => by
    simp only [kI] at hx; split at hx
    . rename_i v KG hv w9; obtain rfl := Option.some.inj hx; exact ⟨_, _, rfl, dL hs hv, r4 hs w9⟩
    cases hx
structure Iv (h0 : U) (G S0 : List Nat) (h : U) (σ : aR) (t : Tr) (ms : List Nat) (fl : VL) : Prop where
  ok : nK h
  s0 : ∀ b ∈ S0, b < h0.next
  iH : cI h0 h G
  cells : ∀ c ∈ σ, cU h (own σ ++ S0) c.1 c.2
  new : ∀ b ∈ own σ, (b ∈ G \/ h0.next <= b) /\ b ∉ S0
  apart : (own σ).Nodup
  mark : ∀ d ∈ ms, h0.next <= d /\ h.get d = some .iP
  marks : ms.Nodup
  aJ : eQ h (own σ ++ S0) t fl
variable {σ σ' : aR} {t t' : Tr} {ms : List Nat} {fl : VL}
theorem QI (hc : ∀ c ∈ σ, cU h S c.1 c.2) (bZ : nK h) : ∀ b ∈ own σ, b < h.next := fun b hb => by
  obtain ⟨c, SJ, hb⟩ := List.mem_flatMap.1 hb; obtain ⟨o, hg, _⟩ := (hc c SJ).isObj b hb; exact bZ b _ hg
theorem Iv.goes (I : Iv h0 G S0 h σ t ms fl) (hB : ∀ b ∈ B, b ∈ own σ) (ha : cI h h' B) (hn : ∀ b ∈ own σ', b ∈ own σ \/ h.next <= b) : dA h (own σ ++ S0) h' (own σ' ++ S0) :=
  ha.goes I.ok (fun b hb => List.mem_append_left _ (hB b hb)) fun b hb => by
    rcases List.mem_append.1 hb with hb | hb
    . rcases hn b hb with h3 | h3
      . exact .inl (List.mem_append_left _ h3)
      exact .inr h3
    exact .inl (List.mem_append_right _ hb)
theorem Iv.step (I : Iv h0 G S0 h σ t ms fl) (hB : ∀ b ∈ B, b ∈ own σ) (ha : cI h h' B) (hn : ∀ b ∈ own σ', b ∈ own σ \/ h.next <= b) (hd : (own σ').Nodup) (hc : ∀ c ∈ σ', cU h' (own σ' ++ S0) c.1 c.2) : Iv h0 G S0 h' σ' t ms fl where
  ok := ha.ok I.ok
  s0 := I.s0
  iH := I.iH.trans ha fun b hb => (I.new b (hB b hb)).1
  cells := hc
  new := fun b hb => by
    have h1 := I.iH.next; rcases hn b hb with h3 | h3
    . exact I.new b h3
    exact ⟨.inr (by omega), fun hm => by have := I.s0 b hm; omega⟩
  apart := hd
  mark := fun d hdm => by
    obtain ⟨h1, h2⟩ := I.mark d hdm; refine ⟨h1, ?_⟩; rw [ha.get d (I.ok d _ h2) (fun hm => ?_)]
    . exact h2
    obtain ⟨c, SJ, hb⟩ := List.mem_flatMap.1 (hB d hm); obtain ⟨o, hg, cA⟩ := (I.cells c SJ).isObj d hb; rw [hg] at h2; exact absurd (Option.some.inj h2) cA
  marks := I.marks
  aJ := I.aJ.nx (I.goes hB ha hn)
theorem Iv.calm (I : Iv h0 G S0 h σ t ms fl) (ha : cI h h' []) : Iv h0 G S0 h' σ t ms fl :=
  I.step (B := []) (fun b hb => by cases hb) ha (fun b hb => .inl hb) I.apart fun c hc => (I.cells c hc).aV
    (fun b hb => ha.get b (by obtain ⟨o, hg, _⟩ := (I.cells c hc).isObj b hb; exact I.ok b _ hg) (by simp)) (I.goes (fun b hb => by cases hb) ha fun b hb => .inl hb) fun b hb => List.mem_append_left _ (List.mem_flatMap.2 ⟨c, hc, hb⟩)
theorem Iv.set (I : Iv h0 G S0 h σ t ms fl) {d : Nat} {v : PV} {u : Value} (hu : aH h (own σ ++ S0) v u) (hd : d < 4000) : Iv h0 G S0 h σ (t.set depth d u) ms ((d, v) :: fl) := { I with aJ := I.aJ.set hu hd }
theorem Iv.sub (I : Iv h0 G S0 h σ t ms fl) (eS : VL) (hf : ∀ p ∈ eS, kT fl p.1 = some p.2) : Iv h0 G S0 h σ t ms eS := { I with aJ := I.aJ.sub eS hf }
end Go.Fs
namespace Go.Fs
variable {P : Program} {orc : FuncId -> List Value -> U -> Option (Value × U)} {aY : Option Nat} {h h' h0 h1 h2 : U} {S S' S0 B G : List Nat} {σ σ' : aR} {t t' : Tr} {ms : List Nat} {fl : VL} {ops : Array Oper} {n : Nat} {l : List Oper}
section
variable (P orc)
def VC (aY : Option Nat) (c : Code) (n : Nat) (fl : VL) (σ : aR) (Q : Ex -> VL -> aR -> Prop) : Prop :=
  ∀ (h0 : U) (G S0 : List Nat) (t : Tr) (h : U) (ms : List Nat), Iv h0 G S0 h σ t ms fl -> gX P orc aY c ⟨t, n, ms⟩ h fun e fr h' => fr.n = n /\ ∃ eS σ', Iv h0 G S0 h' σ' fr.t fr.marks eS /\ Q e eS σ'
def J (ops : Array Oper) (n : Nat) (l : List Oper) (fl : VL) (σ : aR) (K : VL -> aR -> Prop) : Prop :=
  ∀ (h0 : U) (G S0 : List Nat) (t : Tr) (h : U) (ms : List Nat), Iv h0 G S0 h σ t ms fl -> lZ P orc ops n l t h fun t' h' => ∃ eS σ', Iv h0 G S0 h' σ' t' ms eS /\ K eS σ'
def KT (aY : Option Nat) (n : Nat) (b : Code) (Q : Ex -> VL -> aR -> Prop) : Ex -> VL -> aR -> Prop
  | .normal, fl, σ => VC P orc aY b n fl σ Q
  | .exit i, fl, σ => Q (.exit i) fl σ
  | .ret, fl, σ => Q .ret fl σ
end
def OJ (id : Nat) (Q : Ex -> VL -> aR -> Prop) : Ex -> VL -> aR -> Prop
  | .exit i, fl, σ => bif Nat.beq i id then Q .normal fl σ else Q (.exit i) fl σ
  | .normal, fl, σ => Q .normal fl σ
  | .ret, fl, σ => Q .ret fl σ
def TI (fl : VL) : VL -> Prop
  | [] => True
  | (k, v) :: r => kT fl k = some v /\ TI fl r
theorem zT {fl : VL} : ∀ {eS : VL}, TI fl eS -> ∀ p ∈ eS, kT fl p.1 = some p.2
  | [], _, _, hp => by cases hp
  | (k, v) :: r, h, p, hp => by
    rcases List.mem_cons.1 hp with rfl | hp
    . exact h.1
    exact zT h.2 p hp
def akW (I : Nat -> VL -> aR -> Prop) (k : Nat) (Q : Ex -> VL -> aR -> Prop) : Ex -> VL -> aR -> Prop
  | .normal, fl, σ => ∃ k' eS, k' < k /\ TI fl eS /\ I k' eS σ
  | .exit i, fl, σ => Q (.exit i) fl σ
  | .ret, fl, σ => Q .ret fl σ
variable {Q : Ex -> VL -> aR -> Prop} {K : VL -> aR -> Prop}
theorem VC.seq {a b : Code} (hx : VC P orc aY a n fl σ (KT P orc aY n b Q)) : VC P orc aY (.seq a b) n fl σ Q := fun h0 G S0 t h ms I => by
  refine gX.seq ((hx h0 G S0 t h ms I).mono fun e fr h' hq => ?_); obtain ⟨hn, eS, σ', I', q⟩ := hq
  cases e with
  | normal =>
    obtain ⟨t', n', ms'⟩ := fr; obtain rfl : n' = n := hn
    exact q h0 G S0 t' h' ms' I'
  | exit i => exact ⟨hn, eS, σ', I', q⟩
  | ret => exact ⟨hn, eS, σ', I', q⟩
theorem VC.block {id : Nat} {b : Code} (hx : VC P orc aY b n fl σ (OJ id Q)) : VC P orc aY (.block id b) n fl σ Q := fun h0 G S0 t h ms I => by
  refine gX.block ((hx h0 G S0 t h ms I).mono fun e fr h' hq => ?_); obtain ⟨hn, eS, σ', I', q⟩ := hq
  cases e with
  | normal => exact ⟨hn, eS, σ', I', q⟩
  | ret => exact ⟨hn, eS, σ', I', q⟩
  | exit i =>
    simp only [OJ] at q; simp only [inBlock]; by_cases hi : i = id
    . rw [if_pos hi]; subst hi; rw [Nat.beq_refl] at q; exact ⟨hn, eS, σ', I', q⟩
    rw [if_neg hi]; rw [eE hi] at q; exact ⟨hn, eS, σ', I', q⟩
theorem VC.scope {b : Code} (hx : VC P orc aY b n fl σ Q) : VC P orc aY (.scope b) n fl σ Q := fun h0 G S0 t h ms I => gX.scope (hx h0 G S0 t h ms I)
theorem VC.skip (hq : Q .normal fl σ) : VC P orc aY .skip n fl σ Q := fun _ _ _ _ _ _ I => gX.skip ⟨rfl, fl, σ, I, hq⟩
theorem VC.label {i : Nat} (hq : Q .normal fl σ) : VC P orc aY (.label i) n fl σ Q := fun _ _ _ _ _ _ I => gX.label ⟨rfl, fl, σ, I, hq⟩
theorem VC.exit {i : Nat} (hq : Q (.exit i) fl σ) : VC P orc aY (.exit i) n fl σ Q := fun _ _ _ _ _ _ I => gX.exit ⟨rfl, fl, σ, I, hq⟩
theorem VC.ret (hq : Q .ret fl σ) : VC P orc aY .ret n fl σ Q := fun _ _ _ _ _ _ I => gX.ret ⟨rfl, fl, σ, I, hq⟩
theorem VC.cond {x : Operand} {a b : Code} {c : Bool} (hc : aS fl x = some (.v .bool c)) (hx : VC P orc aY (if c then a else b) n fl σ Q) : VC P orc aY (.cond x a b) n fl σ Q := fun h0 G S0 t h ms I =>
  gX.cond (dL I.aJ hc : aH _ _ (.v .bool c) _).bool (hx h0 G S0 t h ms I)
theorem VC.eR {x : Operand} {a b : Code} {c : Bool} (hc : aS fl x = some (.v .bool c)) (ht : c = true -> VC P orc aY a n fl σ Q) (hf : c = false -> VC P orc aY b n fl σ Q) : VC P orc aY (.cond x a b) n fl σ Q := by
  refine VC.cond hc ?_
  cases c with
  | true => exact ht rfl
  | false => exact hf rfl
theorem VC.aX {x : Operand} {a b : Code} {p : Prop} {inst : Decidable p} (hc : aS fl x = some (.v .bool (@decide p inst))) (ht : p -> VC P orc aY a n fl σ Q) (hf : ¬ p -> VC P orc aY b n fl σ Q) : VC P orc aY (.cond x a b) n fl σ Q :=
  VC.eR hc (fun h => ht (of_decide_eq_true h)) fun h => hf (of_decide_eq_false h)
theorem VC.uO {x : Operand} {a b : Code} (hc : aS fl x = some (.v .bool true)) (hx : VC P orc aY a n fl σ Q) : VC P orc aY (.cond x a b) n fl σ Q := VC.cond hc hx
theorem VC.uP {x : Operand} {a b : Code} (hc : aS fl x = some (.v .bool false)) (hx : VC P orc aY b n fl σ Q) : VC P orc aY (.cond x a b) n fl σ Q := VC.cond hc hx
theorem VC.aV {c : Code} (eS : VL) (hs : TI fl eS) (hx : VC P orc aY c n eS σ Q) : VC P orc aY c n fl σ Q := fun h0 G S0 t h ms I => hx h0 G S0 t h ms (I.sub eS (zT hs))
theorem VC.loop {c : Code} {I : Nat -> VL -> aR -> Prop} (hs : ∀ k fl σ, I k fl σ -> VC P orc aY c n fl σ (akW I k Q)) : ∀ k fl σ, I k fl σ -> VC P orc aY (.loop c) n fl σ Q := by
  intro k
  induction k using Nat.strongRecOn with
  | ind k ih =>
    intro fl σ hI h0 G S0 t h ms Iv; refine gX.loop ((hs k fl σ hI h0 G S0 t h ms Iv).mono fun e fr h' hq => ?_); obtain ⟨hn, eS, σ', I', q⟩ := hq
    cases e with
    | normal =>
      obtain ⟨t', n', ms'⟩ := fr; obtain rfl : n' = n := hn; obtain ⟨k', fl2, hk, gL, hI2⟩ := q
      exact ih k' hk fl2 σ' hI2 h0 G S0 t' h' ms' (I'.sub fl2 (zT gL))
    | exit i => exact ⟨hn, eS, σ', I', q⟩
    | ret => exact ⟨hn, eS, σ', I', q⟩
theorem VC.text {id : Nat} {ops : Array Oper} (hx : J P orc ops n ops.toList fl σ fun eS σ' => Q .normal eS σ') : VC P orc aY (.region id ops false) n fl σ Q := fun h0 G S0 t h ms I =>
  gX.text (by
    obtain ⟨m, t', h', h1, eS, σ', h2, h3⟩ := hx h0 G S0 t h ms I
    exact ⟨m, t', h', h1, rfl, eS, σ', h2, h3⟩)
theorem J.nil (hk : K fl σ) : J P orc ops n [] fl σ K := fun _ _ _ _ _ _ I => lZ.nil ⟨fl, σ, I, hk⟩
theorem FH (hp : σ.Perm σ') : (own σ).Perm (own σ') := hp.flatMap_right _
theorem Iv.perm (I : Iv h0 G S0 h σ t ms fl) (hp : σ.Perm σ') : Iv h0 G S0 h σ' t ms fl := by
  refine I.step (B := []) (fun b hb => by cases hb) (cI.refl h []) (fun b hb => .inl ((FH hp).mem_iff.2 hb)) ((FH hp).nodup_iff.1 I.apart) fun c hc => ?_
  have hN : dA h (own σ ++ S0) h (own σ' ++ S0) := dA.less fun b hb => by
    rcases List.mem_append.1 hb with hb | hb
    . exact List.mem_append_left _ ((FH hp).mem_iff.2 hb)
    exact List.mem_append_right _ hb
  exact (I.cells c (hp.mem_iff.2 hc)).aV (fun _ _ => rfl) hN fun b hb => List.mem_append_left _ (List.mem_flatMap.2 ⟨c, hc, hb⟩)
theorem J.perm (hp : σ.Perm σ') (hx : J P orc ops n l fl σ' K) : J P orc ops n l fl σ K := fun h0 G S0 t h ms I => hx h0 G S0 t h ms (I.perm hp)
theorem VC.perm {c : Code} (hp : σ.Perm σ') (hx : VC P orc aY c n fl σ' Q) : VC P orc aY c n fl σ Q := fun h0 G S0 t h ms I => hx h0 G S0 t h ms (I.perm hp)
end Go.Fs
namespace Go.Fs
variable {P : Program} {orc : FuncId -> List Value -> U -> Option (Value × U)} {aY : Option Nat} {h h' h0 h1 h2 : U} {S S' S0 B G : List Nat} {σ σ' : aR} {t t' : Tr} {ms : List Nat} {fl : VL} {ops : Array Oper} {n : Nat} {l : List Oper} {K : VL -> aR -> Prop} {Q : Ex -> VL -> aR -> Prop}
  {d : Tmp} {ty : TypeId} {pos : String} {after : Array Edge} {op : Op} {v : PV} {g : Option (Nat × Bool)}
structure Lc (S0 : List Nat) (h : U) (σ : aR) (t : Tr) (fl : VL) : Prop where
  ok : nK h
  s0 : ∀ b ∈ S0, b < h.next
  cells : ∀ c ∈ σ, cU h (own σ ++ S0) c.1 c.2
  sep : ∀ b ∈ own σ, b ∉ S0
  apart : (own σ).Nodup
  aJ : eQ h (own σ ++ S0) t fl
theorem Iv.lc (I : Iv h0 G S0 h σ t ms fl) : Lc S0 h σ t fl := ⟨I.ok, fun b hb => Nat.lt_of_lt_of_le (I.s0 b hb) I.iH.next, I.cells, fun b hb => (I.new b hb).2, I.apart, I.aJ⟩
theorem Lc.aA (L : Lc S0 h σ t fl) (hg : ∀ b, h'.get b = h.get b) (hn : h'.next = h.next) : Lc S0 h' σ t fl :=
  ⟨fun b o hb => by rw [hn]; exact L.ok b o (by rw [<- hg]; exact hb), fun b hb => by rw [hn]; exact L.s0 b hb, fun c hc => (L.cells c hc).aV (fun b _ => hg b) (dA.aA hg) fun b hb => List.mem_append_left _ (List.mem_flatMap.2 ⟨c, hc, hb⟩), L.sep, L.apart, L.aJ.nx (dA.aA hg)⟩
theorem Lc.lt (L : Lc S0 h σ t fl) : ∀ b ∈ own σ ++ S0, b < h.next := fun b hb => by
  rcases List.mem_append.1 hb with hb | hb
  . exact QI L.cells L.ok b hb
  exact L.s0 b hb
def yO (h : U) (S : List Nat) (t : Tr) (fl : VL) (op : Op) : Prop := ∀ x ∈ op.operands.toList, ∀ pv, aS fl x = some pv -> aH h S pv (aB t x)
theorem eQ.tB (hs : eQ h S t fl) : yO h S t fl op := fun _ _ _ hx => dL hs hx
def aI (P : Program) (fl : VL) (σ : aR) (op : Op) (v : PV) : Prop := calm op = true /\ ∀ (h : U) (S : List Nat) (t : Tr), yO h S t fl op -> (∀ c ∈ σ, cU h S c.1 c.2) ->
  ∃ u, aH h S v u /\ ∀ (d : Option Tmp) (ty : TypeId) (pos : String) (after : Array Edge) (g : Option (Nat × Bool)) (H : U), gG P ⟨d, op, ty, pos, after, g⟩ (aB t) H = some (u, H)
def cJ (P : Program) (fl : VL) (σ : aR) (op : Op) (v : PV) : Prop := calm op = false /\ ∀ (h : U) (S : List Nat) (t : Tr), yO h S t fl op -> (∀ c ∈ σ, cU h S c.1 c.2) ->
  ∃ u, aH h S v u /\ ∀ H : U, (∀ b o, h.get b = some o -> H.get b = some o) -> ∀ (d : Option Tmp) (ty : TypeId) (pos : String) (after : Array Edge) (g : Option (Nat × Bool)), gG P ⟨d, op, ty, pos, after, g⟩ (aB t) H = some (u, H)
structure Made (S0 : List Nat) (h h' : U) (σ σ' : aR) : Prop where
  iH : cI h h' (own σ)
  new : ∀ b ∈ own σ', b ∈ own σ \/ h.next <= b
  apart : (own σ').Nodup
  cells : ∀ c ∈ σ', cU h' (own σ' ++ S0) c.1 c.2
theorem Iv.made (I : Iv h0 G S0 h σ t ms fl) (m : Made S0 h h' σ σ') : Iv h0 G S0 h' σ' t ms fl := I.step (fun _ hb => hb) m.iH m.new m.apart m.cells
def cT (P : Program) (fl : VL) (σ : aR) (op : Op) (T : PV -> aR -> Prop) : Prop := calm op = false /\ ∀ (S0 : List Nat) (h : U) (t : Tr), Lc S0 h σ t fl ->
  ∃ u h' v σ', T v σ' /\ Made S0 h h' σ σ' /\ aH h' (own σ' ++ S0) v u /\ ∀ (d : Option Tmp) (ty : TypeId) (pos : String) (after : Array Edge) (g : Option (Nat × Bool)), gG P ⟨d, op, ty, pos, after, g⟩ (aB t) h = some (u, h')
def KU : Value -> Bool
  | .tuple ⟨[]⟩ => true
  | _ => false
def cV (ops : Array Oper) (fl : VL) : Option (Nat × Bool) -> Option Bool
  | none => some true
  | some (j, w) => match (ops[j]?).bind (·.dst) with
    | none => some false
    | some d => match kT fl d with
      | some (.v .bool b) => some (b == w)
      | some (.raw u) => bif KU u then some false else none
      | _ => none
theorem cC (hs : eQ h S t fl) {o : Oper} {r : Bool} (hw : cV ops fl o.guard = some r) : bL ops t o = some r := by
  unfold cV at hw; unfold bL; split at hw
  . rename_i hg; rw [hg]; exact hw
  rename_i j w hg; rw [hg]; split at hw
  . rename_i hd; simp only [hd]; exact hw
  rename_i d hd; simp only [hd]; split at hw
  . rename_i b hb; have := (hs d _ hb : aH h S (.v .bool b) _).bool; rw [this]; exact hw
  . rename_i u hb; have h1 : t.get d = u := hs d _ hb; rw [h1]
    cases hu : KU u with
    | false => rw [hu] at hw; cases hw
    | true =>
      rw [hu] at hw; obtain rfl := Option.some.inj hw; unfold KU at hu; split at hu
      . rfl
      cases hu
  cases hw
theorem fits (hn : (Nat.blt d n && Nat.ble n 4000) = true) : Nat.blt d n = true /\ d < 4000 := by
  obtain ⟨h1, h2⟩ := aQ hn; exact ⟨h1, Nat.lt_of_lt_of_le (jA h1) (fY h2)⟩
theorem bU (hn : Nat.blt d n = true) (t : Tr) (u : Value) : put n t (some d) u = some (t.set depth d u) := by rw [afD, hn]; rfl
theorem J.c (hs : aI P fl σ op v) (hk : J P orc ops n l ((d, v) :: fl) σ K) (hw : cV ops fl g = some true := by rfl) (hn : (Nat.blt d n && Nat.ble n 4000) = true := by rfl) : J P orc ops n (⟨some d, op, ty, pos, after, g⟩ :: l) fl σ K := fun h0 G S0 t h ms I => by
  obtain ⟨u, h1, h2⟩ := hs.2 h _ t I.aJ.tB I.cells; obtain ⟨n1, n2⟩ := fits hn; exact lZ.op (cC I.aJ hw) (h2 _ _ _ _ _ h) (bU n1 t u) (hk h0 G S0 _ h ms (I.set h1 n2))
theorem J.r (hs : cJ P fl σ op v) (hk : J P orc ops n l ((d, v) :: fl) σ K) (hw : cV ops fl g = some true := by rfl) (hn : (Nat.blt d n && Nat.ble n 4000) = true := by rfl) : J P orc ops n (⟨some d, op, ty, pos, after, g⟩ :: l) fl σ K := fun h0 G S0 t h ms I => by
  obtain ⟨u, h1, h2⟩ := hs.2 h _ t I.aJ.tB I.cells; obtain ⟨n1, n2⟩ := fits hn; exact lZ.op (cC I.aJ hw) (h2 h (fun _ _ x => x) _ _ _ _ _) (bU n1 t u) (hk h0 G S0 _ h ms (I.set h1 n2))
theorem J.mk {T : PV -> aR -> Prop} (hs : cT P fl σ op T) (hk : ∀ v σ', T v σ' -> J P orc ops n l ((d, v) :: fl) σ' K) (hw : cV ops fl g = some true := by rfl) (hn : (Nat.blt d n && Nat.ble n 4000) = true := by rfl) : J P orc ops n (⟨some d, op, ty, pos, after, g⟩ :: l) fl σ K := fun h0 G S0 t h ms I => by
  obtain ⟨u, h', v, σ', h1, h2, h3, h4⟩ := hs.2 S0 h t I.lc; obtain ⟨n1, n2⟩ := fits hn; exact lZ.op (cC I.aJ hw) (h4 _ _ _ _ _) (bU n1 t u) (hk v σ' h1 h0 G S0 _ h' ms ((I.made h2).set h3 n2))
theorem J.DM {T : PV -> aR -> Prop} (hs : cT P fl σ op T) (hk : ∀ v σ', T v σ' -> J P orc ops n l fl σ' K) (hw : cV ops fl g = some true := by rfl) : J P orc ops n (⟨none, op, ty, pos, after, g⟩ :: l) fl σ K := fun h0 G S0 t h ms I => by
  obtain ⟨u, h', v, σ', h1, h2, h3, h4⟩ := hs.2 S0 h t I.lc; exact lZ.op (cC I.aJ hw) (h4 _ _ _ _ _) rfl (hk v σ' h1 h0 G S0 _ h' ms (I.made h2))
theorem J.skip (hk : J P orc ops n l ((d, .raw undef) :: fl) σ K) (hw : cV ops fl g = some false := by rfl) (hn : (Nat.blt d n && Nat.ble n 4000) = true := by rfl) : J P orc ops n (⟨some d, op, ty, pos, after, g⟩ :: l) fl σ K := fun h0 G S0 t h ms I => by
  obtain ⟨n1, n2⟩ := fits hn; exact lZ.skip (cC I.aJ hw) (bU n1 t undef) (hk h0 G S0 _ h ms (I.set (show aH _ _ (.raw undef) undef from rfl) n2))
theorem J.iB {x : Tmp} {r : Bool} (hc : kT fl x = some (.v .bool r)) (ht : r = true -> J P orc ops n l ((x, .v .bool true) :: fl) σ K) (hf : r = false -> J P orc ops n l ((x, .v .bool false) :: fl) σ K) : J P orc ops n l fl σ K := fun h0 G S0 t h ms I => by
  have hx : Iv h0 G S0 h σ t ms ((x, .v .bool r) :: fl) := { I with aJ := I.aJ.cons (I.aJ x _ hc) }
  cases r with
  | true => exact ht rfl h0 G S0 t h ms hx
  | false => exact hf rfl h0 G S0 t h ms hx
theorem J.bJ {x : Tmp} {p : Prop} {inst : Decidable p} (hc : kT fl x = some (.v .bool (@decide p inst))) (ht : p -> J P orc ops n l ((x, .v .bool true) :: fl) σ K) (hf : ¬ p -> J P orc ops n l ((x, .v .bool false) :: fl) σ K) : J P orc ops n l fl σ K :=
  J.iB hc (fun h => ht (of_decide_eq_true h)) fun h => hf (of_decide_eq_false h)
theorem Iv.cell0 (I : Iv h0 G S0 h σ t ms fl) (e : TypeId) (τ : Ty) : Iv h0 G S0 h ((.slice none 0 0, .row e τ []) :: σ) t ms fl := by
  have ho : own ((.slice none 0 0, .row e τ []) :: σ) = own σ := rfl; refine I.step (B := []) (fun b hb => by cases hb) (cI.refl h []) (fun b hb => .inl hb) I.apart fun c hc => ?_; rcases List.mem_cons.1 hc with rfl | hc
  . exact .inl ⟨rfl, rfl⟩
  exact I.cells c hc
theorem VC.cell0 {c : Code} (e : TypeId) (τ : Ty) (hx : VC P orc aY c n fl ((.slice none 0 0, .row e τ []) :: σ) Q) : VC P orc aY c n fl σ Q := fun h0 G S0 t h ms I => hx h0 G S0 t h ms (I.cell0 e τ)
theorem Iv.forget {c : Value × Cell} (I : Iv h0 G S0 h (c :: σ) t ms fl) : Iv h0 G S0 h σ t ms fl := by
  have ho : own (c :: σ) = dX c.1 ++ own σ := rfl
  have gL : ∀ b ∈ own σ, b ∈ own (c :: σ) := fun b hb => by rw [ho]; exact List.mem_append_right _ hb
  refine I.step (B := []) (fun b hb => by cases hb) (cI.refl h []) (fun b hb => .inl (gL b hb)) ?_ fun d hd => ?_
  . have := I.apart; rw [ho] at this; exact (List.nodup_append.1 this).2.1
  refine (I.cells d (List.mem_cons_of_mem _ hd)).aV (fun _ _ => rfl) (dA.less fun b hb => ?_) fun b hb => List.mem_append_left _ (List.mem_flatMap.2 ⟨d, hd, hb⟩); rcases List.mem_append.1 hb with hb | hb
  . exact List.mem_append_left _ (gL b hb)
  exact List.mem_append_right _ hb
def j5 : (τ : Ty) -> τ.den -> List PV
  | .pair a b, x => j5 a x.1 ++ j5 b x.2
  | .unit, _ => []
  | .int k, n => [.v (.int k) n]
  | .bool, b => [.v .bool b]
  | .str, s => [.v .str s]
  | .aO k, b => [.v (.aO k) b]
  | .sl e, xs => [.v (.sl e) xs]
  | .mp a b, xs => [.v (.mp a b) xs]
  | .fn, f => [.v .fn f]
  | .kS, f => [.v .kS f]
theorem bA.split : ∀ {l l' : List PV} {us : List Value}, bA h S (l ++ l') us -> ∃ a b, us = a ++ b /\ bA h S l a /\ bA h S l' b
  | [], l', us, hx => ⟨[], us, rfl, rfl, hx⟩
  | p :: ps, l', us, ⟨u, r, h1, h2, h3⟩ => by
    obtain ⟨a, b, rfl, h5, h6⟩ := bA.split h3; exact ⟨u :: a, b, by rw [h1]; rfl, ⟨u, a, rfl, h2, h5⟩, h6⟩
theorem oP {τ : Ty} {x : τ.den} {us : List Value} (ha : τ.agg = false) (hx : bA h S [.v τ x] us) : cG h S τ us x := by
  obtain ⟨u, r, rfl, h2, rfl⟩ := hx; exact aE.last ha h2
theorem oQ : ∀ {τ : Ty} {x : τ.den} {us : List Value}, bA h S (j5 τ x) us -> cG h S τ us x
  | .pair a b, x, us, hx => by
    obtain ⟨u1, u2, rfl, h1, h2⟩ := bA.split hx; have e1 := oQ h1; have e2 := oQ h2; have hl := e1.len
    exact ⟨by rw [List.take_left' hl]; exact e1, by rw [List.drop_left' hl]; exact e2⟩
  | .unit, x, us, hx => hx
  | .int k, x, us, hx => oP rfl hx
  | .bool, x, us, hx => oP rfl hx
  | .str, x, us, hx => oP rfl hx
  | .aO k, x, us, hx => oP rfl hx
  | .sl e, x, us, hx => oP rfl hx
  | .mp a b, x, us, hx => oP rfl hx
  | .fn, x, us, hx => oP rfl hx
  | .kS, x, us, hx => oP rfl hx
theorem mL : ∀ {τ : Ty} {x : τ.den} {us : List Value}, cG h S τ us x -> bA h S (j5 τ x) us
  | .pair a b, x, us, hx => by
    have e1 := mL hx.1; have e2 := mL hx.2; have := e1.append e2
    rwa [List.take_append_drop] at this
  | .unit, x, us, hx => hx
  | .int k, x, us, hx => let ⟨u, h1, h2⟩ := hx.one rfl; ⟨u, [], h1, h2, rfl⟩
  | .bool, x, us, hx => let ⟨u, h1, h2⟩ := hx.one rfl; ⟨u, [], h1, h2, rfl⟩
  | .str, x, us, hx => let ⟨u, h1, h2⟩ := hx.one rfl; ⟨u, [], h1, h2, rfl⟩
  | .aO k, x, us, hx => let ⟨u, h1, h2⟩ := hx.one rfl; ⟨u, [], h1, h2, rfl⟩
  | .sl e, x, us, hx => let ⟨u, h1, h2⟩ := hx.one rfl; ⟨u, [], h1, h2, rfl⟩
  | .mp a b, x, us, hx => let ⟨u, h1, h2⟩ := hx.one rfl; ⟨u, [], h1, h2, rfl⟩
  | .fn, x, us, hx => let ⟨u, h1, h2⟩ := hx.one rfl; ⟨u, [], h1, h2, rfl⟩
  | .kS, x, us, hx => let ⟨u, h1, h2⟩ := hx.one rfl; ⟨u, [], h1, h2, rfl⟩
mutual
/-- What is told of a slot, with own cells told asl data. -/
inductive Co (σ : aR) : PV -> PV -> Prop where
  | same {p : PV} : Co σ p p
  | row {w : Value} {e : TypeId} {τ : Ty} {xs : List τ.den} (hm : (w, Cell.row e τ xs) ∈ σ) : Co σ (.raw w) (.v (.sl τ) xs)
  | nil {τ : Ty} : Co σ (.raw (.slice none 0 0)) (.v (.sl τ) [])
  | cap {w : Value} {e : TypeId} {n : Nat} {τ : Ty} {xs : List τ.den} (hm : (w, Cell.cap e n τ xs) ∈ σ) : Co σ (.raw w) (.v (.sl τ) xs)
  | amP {κ ν : Ty} : Co σ (.raw (.map none)) (.v (.mp κ ν) [])
  | mp {w : Value} {κ ν : Ty} {n5 : List (κ.den × ν.den)} (hm : (w, Cell.mp κ ν n5) ∈ σ) : Co σ (.raw w) (.v (.mp κ ν) n5)
  | var {p : Value} {cs : List PV} {τ : Ty} {x : τ.den} (hm : (p, Cell.var cs) ∈ σ) (hc : uQ σ cs (j5 τ x)) : Co σ (.raw p) (.p τ x)
  | lA {f : FuncId} {a a' c c' : List PV} (ha : uQ σ a a') (hc : uQ σ c c') : Co σ (.lA f a c) (.lA f a' c')
  | oD {l l' : List PV} (hl : uQ σ l l') : Co σ (.oD l) (.oD l')
  | sem {p p' : PV} (hs : ∀ (h : U) (S0 : List Nat) (u : Value), (∀ c ∈ σ, cU h (own σ ++ S0) c.1 c.2) -> (∀ b ∈ own σ, b ∉ S0) -> aH h (own σ ++ S0) p u -> aH h S0 p' u) : Co σ p p'
  | NC {w : Value} {e : TypeId} {n : Nat} {cs : List PV} {τ : Ty} {xs : List τ.den} (hm : (w, Cell.NC e n cs) ∈ σ) (hn : n = xs.length) (hc : uQ σ cs (xs.flatMap (j5 τ))) : Co σ (.raw w) (.v (.sl τ) xs)
inductive uQ (σ : aR) : List PV -> List PV -> Prop where
  | nil : uQ σ [] []
  | cons {p p' : PV} {l l' : List PV} (hp : Co σ p p') (hl : uQ σ l l') : uQ σ (p :: l) (p' :: l')
end
theorem uQ.refl : ∀ {l : List PV}, uQ σ l l
  | [] => .nil
  | _ :: _ => .cons .same uQ.refl
theorem abW {w : Value} {e : TypeId} {τ : Ty} {xs : List τ.den} (hc : cU h (S ++ S0) w (.row e τ xs)) (hs : ∀ b ∈ dX w, b ∉ S0) : k9 h S0 τ w xs := by
  rcases hc with ⟨rfl, rfl⟩ | ⟨b, rs, m, rfl, h2, h3, h4⟩
  . exact .inl ⟨rfl, rfl⟩
  exact (h4.nx (dA.less fun c hc => List.mem_append_right _ hc)).slv h3 (hs b (by simp [dX]))
theorem abX {w : Value} {e : TypeId} {n : Nat} {τ : Ty} {xs : List τ.den} (hc : cU h (S ++ S0) w (.cap e n τ xs)) (hs : ∀ b ∈ dX w, b ∉ S0) : k9 h S0 τ w xs := by
  obtain ⟨b, rs, m, rfl, h2, h4, h5, h6, h7⟩ := hc; have hb : b ∉ S0 := hs b (by simp [dX]); have hle : xs.length * τ.size <= n * τ.size := Nat.mul_le_mul_right _ h6; refine .inr ⟨b, 0, 0, rfl, .inr ⟨hb, e, rs, true, m, h4, by omega, fun i hi => ?_⟩⟩; have h8 := (h7.nx (dA.less (S' := S0) fun c hc => List.mem_append_right _ hc)).2 i hi; have h9 : (i + 1) * τ.size <= xs.length * τ.size := Nat.mul_le_mul_right _ hi; rw [Nat.add_mul, Nat.one_mul] at h9; rw [List.drop_take, List.take_take, Nat.min_eq_left (by omega)] at h8; rw [Nat.zero_add]; exact h8
theorem afL {w : Value} {κ ν : Ty} {n5 : List (κ.den × ν.den)} (hc : cU h (S ++ S0) w (.mp κ ν n5)) (hs : ∀ b ∈ dX w, b ∉ S0) : MpV h S0 κ ν w n5 := by
  obtain ⟨b, es, c, rfl, h2, h3, h4, h5⟩ := hc; have hN : dA h (S ++ S0) h S0 := dA.less fun c hc => List.mem_append_right _ hc; exact .inr ⟨b, es, c, rfl, hs b (by simp [dX]), h3, h4, fun i hi hj => ⟨(h5 i hi hj).1.nx hN, (h5 i hi hj).2.nx hN⟩⟩
theorem DN {τ : Ty} : ∀ {xs : List τ.den} {rs : List Value}, bA h S (xs.flatMap (j5 τ)) rs -> bM h S τ rs xs
  | [], rs, hx => by
    obtain rfl : rs = [] := hx
    exact ⟨by simp, fun i hi => absurd hi (by simp)⟩
  | x :: xs, rs, hx => by
    rw [List.flatMap_cons] at hx; obtain ⟨a, b, rfl, h1, h2⟩ := bA.split hx; have e1 := oQ h1; have e2 := DN (xs := xs) h2; have hl := e1.len; refine ⟨by rw [List.length_append, hl, e2.1, List.length_cons, Nat.add_mul, Nat.one_mul, Nat.add_comm], fun i hi => ?_⟩
    cases i with
    | zero =>
      rw [Nat.zero_mul, List.drop_zero, List.take_left' hl]
      exact e1
    | succ i =>
      have h3 := e2.2 i (by simpa using hi); rw [show (i + 1) * τ.size = a.length + i * τ.size by rw [hl, Nat.add_mul, Nat.one_mul, Nat.add_comm], List.drop_append, List.drop_eq_nil_of_le (by omega), List.nil_append, Nat.add_sub_cancel_left]; exact h3
mutual
theorem Co.ok (hc : ∀ c ∈ σ, cU h (own σ ++ S0) c.1 c.2) (hs : ∀ b ∈ own σ, b ∉ S0) : ∀ {p p' : PV} {u : Value}, Co σ p p' -> aH h (own σ ++ S0) p u -> aH h S0 p' u
  | _, _, u, .same, hu => hu.nx (dA.less fun b hb => List.mem_append_right _ hb)
  | _, _, u, .row hm, hu => by
    obtain rfl := hu
    exact (abW (hc _ hm) fun b hb => hs b (List.mem_flatMap.2 ⟨_, hm, hb⟩)).rep
  | _, _, u, .nil, hu => by obtain rfl := hu; exact k9.nil.rep
  | _, _, u, .amP, hu => by obtain rfl := hu; exact MpV.rep (.inl ⟨rfl, rfl⟩)
  | _, _, u, .cap hm, hu => by
    obtain rfl := hu
    exact (abX (hc _ hm) fun b hb => hs b (List.mem_flatMap.2 ⟨_, hm, hb⟩)).rep
  | _, _, u, .mp hm, hu => by
    obtain rfl := hu
    exact (afL (hc _ hm) fun b hb => hs b (List.mem_flatMap.2 ⟨_, hm, hb⟩)).rep
  | _, _, u, .var hm hl, hu => by
    obtain rfl := hu; obtain ⟨b, e, vs, h1, h2, h3, h4, h5⟩ := hc _ hm; have hr := oQ (uQ.ok hc hs hl h4); have hlen := hr.len; refine ⟨b, 0, e, vs, true, false, h1, hs b (List.mem_flatMap.2 ⟨_, hm, by rw [show u = _ from h1]; simp [dX]⟩), h3, by omega, ?_⟩; rw [List.drop_zero, List.take_of_length_le (by omega)]
    exact hr
  | _, _, u, .lA ha FE, ⟨va, vc, h1, h2, h3⟩ => ⟨va, vc, h1, uQ.ok hc hs ha h2, uQ.ok hc hs FE h3⟩
  | _, _, u, .oD hl, ⟨vs, h1, h2⟩ => ⟨vs, h1, uQ.ok hc hs hl h2⟩
  | _, _, u, .sem hq, hu => hq _ _ _ hc hs hu
  | _, _, u, .NC hm hn hl, hu => by
    obtain rfl := hu; have X3 := fun b hb => hs b (List.mem_flatMap.2 ⟨_, hm, hb⟩); rcases hc _ hm with ⟨h1, h2, h3⟩ | ⟨b, rs, m, h1, h2, h3, h4, h5⟩
    . have hx := List.length_eq_zero_iff.1 (hn.symm.trans h2); subst hx; have qX : u = _ := h1; rw [qX]; exact k9.nil.rep
    have hr := DN (uQ.ok hc hs hl h4); have qX : u = _ := h1; subst qX; rw [hn]; exact (hr.slv h3 (X3 b (by simp [dX]))).rep
theorem uQ.ok (hc : ∀ c ∈ σ, cU h (own σ ++ S0) c.1 c.2) (hs : ∀ b ∈ own σ, b ∉ S0) : ∀ {l l' : List PV} {us : List Value}, uQ σ l l' -> bA h (own σ ++ S0) l us -> bA h S0 l' us
  | _, _, us, .nil, hu => hu
  | _, _, us, .cons hp hl, ⟨u, r, h1, h2, h3⟩ => ⟨u, r, h1, Co.ok hc hs hp h2, uQ.ok hc hs hl h3⟩
end
inductive TJ (fl : VL) (c : Value × Cell) : VL -> Prop where
  | nil : TJ fl c []
  | cons {k : Nat} {p p' : PV} {r : VL} (hk : kT fl k = some p) (hc : Co [c] p p') (hr : TJ fl c r) : TJ fl c ((k, p') :: r)
theorem Iv.shut {c : Value × Cell} {nw : VL} (I : Iv h0 G S0 h (c :: σ) t ms fl) (hs : TJ fl c nw) : Iv h0 G S0 h σ t ms (nw ++ fl) := by
  have I' := I.forget; have ho : own (c :: σ) = dX c.1 ++ own σ := rfl
  have XH : own [c] = dX c.1 := by show dX c.1 ++ [] = _; rw [List.append_nil]
  have vB : eQ h (own σ ++ S0) t (nw ++ fl) := by
    clear I'
    induction hs with
    | nil => exact I.forget.aJ
    | cons hk hc hr ih =>
      refine ih.cons (Co.ok (σ := [c]) (S0 := own σ ++ S0) (fun d hd => ?_) (fun b hb => ?_) hc ?_)
      . obtain rfl := List.mem_singleton.1 hd; have := I.cells d List.mem_cons_self; rw [XH, <- List.append_assoc, <- ho]; exact this
      . rw [XH] at hb; have h1 := I.apart; rw [ho] at h1; intro hm; rcases List.mem_append.1 hm with hm | hm
        . exact (List.nodup_append.1 h1).2.2 b hb b hm rfl
        exact (I.new b (by rw [ho]; exact List.mem_append_left _ hb)).2 hm
      rw [XH, <- List.append_assoc, <- ho]; exact I.aJ _ _ hk
  exact { I' with aJ := vB }
theorem J.shut {c : Value × Cell} (nw : VL) (hs : TJ fl c nw) (hx : J P orc ops n l (nw ++ fl) σ K) : J P orc ops n l fl (c :: σ) K := fun h0 G S0 t h ms I => hx h0 G S0 t h ms (I.shut hs)
end Go.Fs
namespace Go.Fs
variable {P : Program} {orc : FuncId -> List Value -> U -> Option (Value × U)} {aY : Option Nat} {h h' h0 h1 h2 : U} {S S' S0 B G : List Nat} {σ σ' : aR} {t t' : Tr} {ms : List Nat} {fl : VL} {ops : Array Oper} {n : Nat} {l : List Oper} {K : VL -> aR -> Prop} {Q : Ex -> VL -> aR -> Prop}
  {d : Tmp} {ty : TypeId} {pos : String} {after : Array Edge} {op : Op} {v : PV} {g : Option (Nat × Bool)}
section
variable (P orc)
def VF (f : FuncId) (args : List PV) (r : PV) : Prop := ∀ (h : U) (S : List Nat) (us : List Value), nK h -> (∀ b ∈ S, b < h.next) -> bA h S args us -> qW P orc f us h fun u h' => cI h h' [] /\ aH h' S r u /\ (r.flat = true -> h' = h)
def qE (F : PV) (args : List PV) (r : PV) : Prop := ∃ f a c, F = .lA f a c /\ VF P orc f (a ++ args ++ c) r
end
theorem VF.call {f : FuncId} {args : List PV} {r : PV} (hf : VF P orc f args r) : qE P orc (.lA f [] []) args r := ⟨f, [], [], rfl, by simpa using hf⟩
theorem VF.lA {f : FuncId} {a args c : List PV} {r : PV} (hf : VF P orc f (a ++ (args ++ c)) r) : qE P orc (.lA f a c) args r := ⟨f, a, c, rfl, by rw [List.append_assoc]; exact hf⟩
theorem qE.ev {F : PV} {args : List PV} {r : PV} (hc : qE P orc F args r) {u : Value} {us : List Value} (bZ : nK h) (hS : ∀ b ∈ S, b < h.next) (hF : aH h S F u) (ha : bA h S args us) :
    ∃ f a c, u = .func (.func f) a c /\ qW P orc f (a.toList ++ us ++ c.toList) h fun u h' => cI h h' [] /\ aH h' S r u /\ (r.flat = true -> h' = h) := by
  obtain ⟨f, a, c, rfl, hv⟩ := hc; obtain ⟨va, vc, rfl, h1, h2⟩ := hF; exact ⟨f, va.toArray, vc.toArray, rfl, hv h S _ bZ hS ((h1.append ha).append h2)⟩
theorem J.call {f : Operand} {args : Array Operand} {mC : Array TypeId} {F r : PV} {asl : List PV} (hf : aS fl f = some F) (ha : kI fl args.toList = some asl) (hc : qE P orc F asl r) (hk : J P orc ops n l ((d, r) :: fl) σ K)
    (hw : cV ops fl g = some true := by rfl) (hn : (Nat.blt d n && Nat.ble n 4000) = true := by rfl) : J P orc ops n (⟨some d, .call { callee := .value f, args := args, argTypes := mC }, ty, pos, after, g⟩ :: l) fl σ K := fun h0 G S0 t h ms I => by
  obtain ⟨n1, n2⟩ := fits hn; obtain ⟨ND, a, c, h1, h2⟩ := hc.ev I.ok (Lc.lt I.lc) (dL I.aJ hf) (r4 I.aJ ha); refine lZ.call (cC I.aJ hw) rfl rfl h1 (h2.mono fun u h' hq => ?_); obtain ⟨q1, q2, _⟩ := hq; exact ⟨_, bU n1 t u, hk h0 G S0 _ h' ms ((I.calm q1).set q2 n2)⟩
def pI : Nat -> List PV -> VL
  | _, [] => []
  | i, v :: r => (i, v) :: pI (i + 1) r
theorem oR : ∀ {l : List PV} {us : List Value} {i : Nat} {t : Tr}, bA h S l us -> i + us.length <= 4000 -> eQ h S (iI t i us) (pI i l)
  | [], us, i, t, hx, _ => fun k v hk => by cases hk
  | p :: ps, us, i, t, ⟨u, r, h1, h2, h3⟩, hl => by
    subst h1; rw [List.length_cons] at hl; show eQ h S (iI (t.set depth i u) (i + 1) r) ((i, p) :: pI (i + 1) ps); refine (oR h3 (by omega)).cons ?_; rw [F8 r (t.set depth i u) (i + 1) (by omega), if_pos (by omega), zS t i u i (by omega), if_pos rfl]; exact h2
theorem amQ {us : List Value} (h : us.all eD = true) : us.all oX = true := List.all_eq_true.2 fun u hu => by
  have h1 := List.all_eq_true.1 h u hu; cases u <;> first | exact h1 | cases h1
mutual
theorem aH.H3 : ∀ {pv : PV} {u : Value}, oX u = true -> aH h S pv u -> aH h' S' pv u
  | .v τ x, u, ha, hx => aE.v8 (τ := τ) hx ha
  | .raw w, u, _, hx => hx
  | .p τ x, u, ha, hx => by
    obtain ⟨b, o, e, rs, own, more, rfl, _⟩ := hx
    cases ha
  | .lA f a c, u, ha, hx => by
    obtain ⟨va, vc, rfl, _⟩ := hx
    cases ha
  | .oD l, u, ha, hx => by
    obtain ⟨vs, rfl, _⟩ := hx
    cases ha
  | .gd b v, u, ha, hx => ⟨fun e => aH.H3 ha (hx.1 e), hx.2⟩
  | .agg l, u, ha, hx => by
    obtain ⟨vs, rfl, h2⟩ := hx; exact ⟨vs, rfl, bA.H3 (amQ ha) h2⟩
theorem bA.H3 : ∀ {l : List PV} {us : List Value}, us.all oX = true -> bA h S l us -> bA h' S' l us
  | [], us, _, hx => hx
  | p :: ps, us, ha, ⟨u, r, h1, h2, h3⟩ => by
    subst h1; rw [List.all_cons] at ha; obtain ⟨a1, a2⟩ := aQ ha; exact ⟨u, r, rfl, aH.H3 a1 h2, bA.H3 a2 h3⟩
end
theorem KV {vs : Array Value} {τ : Ty} {x : τ.den} (hx : aE h S τ (.tuple vs) x) : False := by
  have h1 := hx.1; have h2 := hx.2
  cases IG : τ.agg with
  | true => rw [IG] at h1; cases h1
  | false =>
    cases τ with
    | sl e => obtain ⟨v, h3, h4⟩ := h2; simp [Value.cells] at h3; subst h3; rcases h4 with ⟨h4, _⟩ | ⟨_, _, _, h4, _⟩ <;> cases h4
    | pair a b => cases IG
    | unit => cases IG
    | mp a b => obtain ⟨v, h3, h4⟩ := h2; simp [Value.cells] at h3; subst h3; rcases h4 with ⟨h4, _⟩ | ⟨_, _, _, h4, _⟩ <;> cases h4
    | fn => cases x <;> simp [cG, Value.cells, fnV] at h2
    | kS => cases x <;> simp [cG, Value.cells, aa3] at h2
    | int k => simp [cG, Value.cells] at h2
    | bool => simp [cG, Value.cells] at h2
    | str => simp [cG, Value.cells] at h2
    | aO k => simp [cG, Value.cells] at h2
theorem aH.FI : ∀ {pv : PV} {u : Value}, af u = true -> aH h S pv u -> aH h' S' pv u
  | .oD l, u, ha, hx => by
    obtain ⟨vs, rfl, h2⟩ := hx
    exact ⟨vs, rfl, h2.H3 ha⟩
  | .v τ x, u, ha, hx => by
    cases u with
    | tuple vs => exact (KV hx).elim
    | _ => exact aH.H3 (pv := .v τ x) ha hx
  | .p τ x, u, ha, hx => by
    obtain ⟨b, o, e, rs, own, more, rfl, _⟩ := hx
    cases ha
  | .raw w, u, ha, hx => hx
  | .lA f a c, u, ha, hx => by
    obtain ⟨va, vc, rfl, _⟩ := hx
    cases ha
  | .gd b v, u, ha, hx => ⟨fun e => aH.FI ha (hx.1 e), hx.2⟩
  | .agg l, u, ha, hx => by
    have h1 := hx; obtain ⟨vs, rfl, _⟩ := hx; exact aH.H3 (pv := .agg l) ha h1
theorem sH : ∀ {ms : List Nat} {h : U}, ms.Nodup -> (∀ d ∈ ms, h.get d = some .iP) -> ∃ h2, iV ms h = some h2 /\ cI h h2 ms /\ (∀ b, b ∉ ms -> h2.get b = h.get b)
  | [], h, _, _ => ⟨h, rfl, cI.refl _ _, fun _ _ => rfl⟩
  | d :: ms, h, hn, hd => by
    obtain ⟨KD, s7⟩ := List.nodup_cons.1 hn
    have hg : ∀ i ∈ ms, (h.drop d).get i = some .iP := fun i hi => by
      rw [U.cK, if_neg (fun e => KD (by subst e; exact hi))]; exact hd i (List.mem_cons_of_mem _ hi)
    obtain ⟨h2, e1, e2, e3⟩ := sH s7 hg; refine ⟨h2, ?_, (cI.drop List.mem_cons_self).trans e2 fun i hi => .inl (List.mem_cons_of_mem _ hi), fun b hb => ?_⟩
    . simp only [iV, hd d List.mem_cons_self]; exact e1
    rw [List.mem_cons, not_or] at hb; rw [e3 b hb.2, U.cK, if_neg hb.1]
inductive tC (P : Program) (fl : VL) (σ : aR) : ResultVar -> PV -> Prop where
  | tmp {i : Nat} {p p' : PV} (hi : kT fl i = some p) (hc : Co σ p p') : tC P fl σ (.tmp i) p'
  | cell {a : Nat} {ty : TypeId} {p : Value} {cs : List PV} {τ : Ty} {x : τ.den} (ha : kT fl a = some (.raw p)) (hm : (p, Cell.var cs) ∈ σ) (hT : fU P ty τ) (hc : uQ σ cs (j5 τ x)) : tC P fl σ (.cell a ty) (.v τ x)
inductive H4 (P : Program) (fl : VL) (σ : aR) : List ResultVar -> List PV -> Prop where
  | nil : H4 P fl σ [] []
  | cons {r : ResultVar} {p : PV} {rs : List ResultVar} {ps : List PV} (hr : tC P fl σ r p) (hs : H4 P fl σ rs ps) : H4 P fl σ (r :: rs) (p :: ps)
def OK : List PV -> PV
  | [p] => p
  | l => .oD l
def aW (P : Program) (fn : Func) (r : PV) : Ex -> VL -> aR -> Prop := fun e fl σ => e.goes = true /\ ∃ ps, H4 P fl σ fn.results.toList ps /\ OK ps = r
theorem tC.ok (L : Lc S0 h σ t fl) (hg : ∀ b o, h.get b = some o -> o ≠ .iP -> h2.get b = some o) (hN : qD h S0 h2 S0) {r : ResultVar} {p : PV} (he : tC P fl σ r p) : ∃ u, sD P t h2 r = some u /\ aH h2 S0 p u := by
  cases he with
  | tmp hi hc => exact ⟨_, rfl, (hc.ok L.cells L.sep (L.aJ _ _ hi)).mK hN⟩
  | @cell a ty p cs τ x ha hm hT hc =>
    have hp : t.get a = p := L.aJ _ _ ha; have hr : aH h S0 (.p τ x) p := Co.ok L.cells L.sep (.var hm hc) (show aH h _ (.raw p) p from rfl); have kG := (hr.mK hN : mI h2 S0 τ p x); obtain ⟨e1, e2⟩ := kG.afI hT; exact ⟨_, by show dD P ty (t.get a) h2 = _; rw [hp]; exact e1, e2⟩
theorem H4.ok (L : Lc S0 h σ t fl) (hg : ∀ b o, h.get b = some o -> o ≠ .iP -> h2.get b = some o) (hN : qD h S0 h2 S0) : ∀ {rs : List ResultVar} {ps : List PV}, H4 P fl σ rs ps -> ∃ us, fX P t h2 rs = some us /\ bA h2 S0 ps us
  | _, _, .nil => ⟨[], rfl, rfl⟩
  | _, _, .cons hr hs => by
    obtain ⟨u, e1, e2⟩ := hr.ok L hg hN; obtain ⟨us, e3, e4⟩ := H4.ok L hg hN hs; exact ⟨u :: us, by simp only [fX, e1, e3], u, us, rfl, e2, e4⟩
theorem KW : ∀ {ps : List PV} {us : List Value}, bA h S ps us -> aH h S (OK ps) (gS us)
  | [], us, hx => ⟨[], by rw [show us = [] from hx]; rfl, rfl⟩
  | [p], us, ⟨u, r, h1, h2, h3⟩ => by
    obtain rfl : r = [] := h3
    subst h1; exact h2
  | p :: q :: ps, us, hx => by
    obtain ⟨u, r, h1, h2, u2, r2, h3, h4, h5⟩ := hx; subst h1 h3; exact ⟨_, rfl, u, _, rfl, h2, u2, _, rfl, h4, h5⟩
theorem VF.enter {f : FuncId} {args : List PV} {fn : Func} {c : Code} {r : PV} (kF : P.funcs[f]? = some fn) (hc : fn.body = some c) (ho : ∀ us h, orc f us h = none) (hn : (Nat.blt 4000 fn.ntmps || Nat.blt fn.ntmps args.length) = false)
    (hb : VC P orc none c fn.ntmps (pI 0 args) [] (aW P fn r)) : VF P orc f args r := fun h S us bZ hS ha => by
  have hl := ha.len
  have s7 : Nat.blt 4000 fn.ntmps = false /\ Nat.blt fn.ntmps args.length = false := by simpa using hn
  have n3 := iG s7.1; have n4 := iG s7.2; have pY : bA (entry h) S args us := bA.nx (h := h) (h' := entry h) (dA.aA fun _ => rfl) ha
  have I0 : Iv (entry h) [] S (entry h) [] (iI .leaf 0 us) [] (pI 0 args) := {
    ok := bZ
    s0 := hS
    iH := cI.refl _ _
    cells := fun c hc => by cases hc
    new := fun b hb => by cases hb
    apart := List.nodup_nil
    mark := fun d hd => by cases hd
    marks := List.nodup_nil
    aJ := oR pY (by omega) }
  refine qW.enter kF hc (ho us h) (by rw [hl]; exact hn) ((hb (entry h) [] S _ (entry h) [] I0).mono fun e fr h1 hq => ?_); obtain ⟨_, eS, σ', I, he, ps, FJ, rfl⟩ := hq; obtain ⟨h2, d1, d2, d3⟩ := sH I.marks fun d hd => (I.mark d hd).2
  have iK : ∀ b o, h1.get b = some o -> o ≠ .iP -> h2.get b = some o := fun b o hg cA => by
    rw [d3 b (fun hm => cA (by have := (I.mark b hm).2; rw [hg] at this; exact Option.some.inj this))]; exact hg
  have a2 : cI (entry h) h2 [] := I.iH.trans d2 fun i hi => .inr (I.mark i hi).1; have hN : qD h1 S h2 S := fun b _ hg cA uI => ⟨iK b _ hg cA, uI⟩; obtain ⟨uN, e1, e2⟩ := FJ.ok I.lc iK hN; have nF := KW e2; have dW : h.next <= h2.low := a2.low h.next (Nat.le_refl _) (Nat.le_refl _) (by simp); refine ⟨he, h2, uN, d1, e1, ?_⟩; unfold leftOf
  have amR : Nat.ble h.next h2.low = true := by rw [Nat.ble_eq]; exact dW
  cases pV : af (gS uN) with
  | true =>
    rw [amR]
    exact ⟨cI.refl _ _, nF.FI pV, fun _ => rfl⟩
  | false =>
    refine ⟨⟨a2.next, fun b hb _ => a2.get b hb (by simp), fun x => a2.ok x, fun e h3 h4 _ => Nat.le_min.2 ⟨h3, Nat.le_trans h4 dW⟩, fun b hb => .inl (a2.get b hb (by simp)), Nat.min_le_left _ _⟩, aH.nx (h := h2) (h' := { next := h2.next, low := min h.low h2.low, aA := h2.aA }) (fun _ _ a b => ⟨a, b⟩) nF, fun hf => ?_⟩; rw [(nF.flat hf).1] at pV; cases pV
end Go.Fs
namespace Go.Fs
variable {P : Program} {orc : FuncId -> List Value -> U -> Option (Value × U)} {aY : Option Nat} {h h' h0 h1 h2 hs : U} {S S' S0 B G : List Nat} {σ σ' : aR} {t t' : Tr} {ms : List Nat} {fl : VL} {ops : Array Oper} {n i mem : Nat} {l : List Oper} {K : VL -> aR -> Prop} {Q : Ex -> VL -> aR -> Prop}
  {d : Tmp} {ty : TypeId} {pos : String} {after : Array Edge} {op : Op} {v : PV} {g : Option (Nat × Bool)} {bs nw : List Nat} {segs : List (Nat × Nat × Nat)} {tail so : Bool}
def mM : List Nat -> Nat -> Bool
  | [], _ => false
  | k :: r, i => bif Nat.beq k i then true else mM r i
def fE (old : Bool) (d : Nat) (nw : List Nat) : List Nat := bif old then nw.filter (fun k => !Nat.beq k d) else d :: nw
def AY (nw : List Nat) : Operand -> Bool
  | .tmp i => !mM nw i
  | _ => true
theorem nV {d k : Nat} (hk : k ≠ d) : ∀ {nw : List Nat}, mM (nw.filter fun k => !Nat.beq k d) k = mM nw k
  | [] => rfl
  | a :: r => by
    rw [List.filter_cons]; by_cases ha : a = d
    . subst ha; rw [Nat.beq_refl]; simp only [Bool.not_true, Bool.false_eq_true, if_false, mM]; rw [eE (Ne.symm hk)]; exact nV hk
    rw [eE ha]; simp only [Bool.not_false, if_true, mM]; rw [nV hk]
def Old (S0 : List Nat) (h : U) (σ : aR) (t : Tr) (fl : VL) (nw : List Nat) (so : Bool) (segs : List (Nat × Nat × Nat)) : Prop := ∃ hs, nK hs /\ eV hs h /\ l8 hs segs /\ (∀ b ∈ S0, b < hs.next) /\
  (∀ k pv, kT fl k = some pv -> mM nw k = false -> aH hs (own σ ++ S0) pv (t.get k)) /\ (so = true -> ∀ c ∈ σ, cU hs (own σ ++ S0) c.1 c.2)
section
variable (P orc)
def VD (ops : Array Oper) (n : Nat) (l : List Oper) (i : Nat) (fl : VL) (nw : List Nat) (σ : aR) (so : Bool) (bs : List Nat) (mem : Nat) (tail : Bool) (K : VL -> aR -> Prop) : Prop :=
  ∀ (h0 : U) (G S0 : List Nat) (t : Tr) (h : U) (ms : List Nat) (segs : List (Nat × Nat × Nat)), Iv h0 G S0 h σ t ms fl -> (tail = false -> Old S0 h σ t fl nw so segs) ->
    rV P orc ops n l i ⟨t, h, bs, segs, mem, tail⟩ fun s => ∃ eS σ', Iv h0 G S0 s.h σ' s.t ms eS /\ K eS σ'
end
theorem VC.drawn {id : Nat} {ops : Array Oper} (hx : VD P orc ops n ops.toList 0 fl [] σ true [] 0 false fun eS σ' => Q .normal eS σ') (hl : B7 ops = false := by kernel_rfl) : VC P orc aY (.region id ops true) n fl σ Q := fun h0 G S0 t h ms I => by
  refine gX.draw hl ?_; obtain ⟨m, s', h1, eS, σ', h2, h3⟩ := hx h0 G S0 t h ms [] I fun _ => ⟨h, I.ok, eV.refl h, l8.nil, I.lc.s0, fun k pv hk _ => I.aJ k pv hk, fun _ => I.cells⟩; exact ⟨m, s', h1, rfl, eS, σ', h2, h3⟩
theorem VD.nil (hk : K fl σ) : VD P orc ops n [] i fl nw σ so bs mem tail K := fun _ _ _ _ _ _ _ I _ => rV.nil ⟨fl, σ, I, hk⟩
theorem Old.set {u : Value} {old : Bool} (ho : Old S0 h σ t fl nw so segs) (hd : d < 4000) (hu : old = true -> ∀ hs, nK hs -> eV hs h -> (∀ b ∈ S0, b < hs.next) -> (∀ k pv, kT fl k = some pv -> mM nw k = false -> aH hs (own σ ++ S0) pv (t.get k)) -> (so = true -> ∀ c ∈ σ, cU hs (own σ ++ S0) c.1 c.2) -> aH hs (own σ ++ S0) v u) :
    Old S0 h σ (t.set depth d u) ((d, v) :: fl) (fE old d nw) so segs := by
  obtain ⟨hs, h1, h2, h3, h4, h5, h6⟩ := ho; refine ⟨hs, h1, h2, h3, h4, fun k pv hk hn => ?_, h6⟩; rw [zS t d u k hd]; simp only [kT] at hk
  cases hb : Nat.beq d k with
  | true =>
    rw [hb] at hk; simp only [cond_true, Option.some.injEq] at hk; subst hk; rw [if_pos (bV hb).symm]
    cases old with
    | true => exact hu rfl hs h1 h2 h4 h5 h6
    | false =>
      simp only [fE, cond_false, mM, hb, cond_true] at hn
      cases hn
  | false =>
    rw [hb] at hk; simp only [cond_false] at hk; have cA := gC hb; rw [if_neg (Ne.symm cA)]; refine h5 k pv hk ?_
    cases old with
    | true => rw [fE, cond_true, nV (Ne.symm cA)] at hn; exact hn
    | false => simpa only [fE, cond_false, mM, hb] using hn
theorem Old.next {lo hi : Nat} (ho : Old S0 h σ t fl nw so segs) (ha : eV h h') (hl : h.next <= lo) : Old S0 h' σ t fl nw so ((i, lo, hi) :: segs) := by
  obtain ⟨hs, h1, h2, h3, h4, h5, h6⟩ := ho; exact ⟨hs, h1, h2.trans ha, l8.cons (Nat.le_trans h2.next hl) h3, h4, h5, h6⟩
theorem Old.uK {lo hi : Nat} (ho : Old S0 h σ t fl nw so segs) (hl : h.next <= lo) : Old S0 h σ t fl nw so ((i, lo, hi) :: segs) := ho.next (eV.refl h) hl
theorem qF {fl : VL} (h5 : ∀ k pv, kT fl k = some pv -> mM nw k = false -> aH hs S pv (t.get k)) {x : Operand} {pv : PV} (hx : aS fl x = some pv) (ho : AY nw x = true) : aH hs S pv (aB t x) := by
  cases x with
  | tmp k => exact h5 k pv hx (by simpa [AY] using ho)
  | const c =>
    obtain ⟨h1, h2⟩ := KS hx; show aH hs S pv (if af c then c else j9)
    rw [if_pos h1]; exact h2 _ _
  | global g => cases hx
  | func f => obtain rfl := Option.some.inj hx; exact ⟨[], [], rfl, rfl, rfl⟩
def FK (nw : List Nat) (op : Op) : Bool := op.operands.toList.all (AY nw)
theorem zU {fl : VL} (h5 : ∀ k pv, kT fl k = some pv -> mM nw k = false -> aH hs S pv (t.get k)) (ho : FK nw op = true) : yO hs S t fl op := fun x hx pv hp => qF h5 hp (List.all_eq_true.1 ho x hx)
theorem VD.c {b : Nat} (hc : aI P fl [] op v) (hk : VD P orc ops n l (i + 1) ((d, v) :: fl) (fE (FK nw op || v.iJ) d nw) σ so (bs ++ [b]) mem tail K)
    (hb : aM bs ⟨some d, op, ty, pos, after, g⟩ = b := by rfl) (hw : cV ops fl g = some true := by rfl) (hn : (Nat.blt d n && Nat.ble n 4000) = true := by rfl) :
    VD P orc ops n (⟨some d, op, ty, pos, after, g⟩ :: l) i fl nw σ so bs mem tail K := fun h0 G S0 t h ms segs I ho => by
  obtain ⟨n1, n2⟩ := fits hn; obtain ⟨u, e1, e2⟩ := hc.2 h (own σ ++ S0) t I.aJ.tB (fun _ hc => by cases hc); refine rV.op (s' := ⟨t.set depth d u, h, bs ++ [b], segs, mem, tail⟩) ?_ (hk h0 G S0 _ h ms segs (I.set e1 n2) fun ht => (ho ht).set n2 fun hold hs a1 a2 a3 a4 a5 => ?_)
  . unfold gJ; have xV : bL ops t ⟨some d, op, ty, pos, after, g⟩ = some true := cC I.aJ hw; simp only [xV, hc.1, if_true, e2, Nat.beq_refl, cond_true, bU n1, Option.map_some, hb]
  rcases Bool.or_eq_true_iff.1 hold with hold | hold
  . obtain ⟨u', f1, f2⟩ := hc.2 hs (own σ ++ S0) t (zU a4 hold) (fun _ hc => by cases hc)
    have : u' = u := by
      have g1 := e2 none 0 "" #[] none h; rw [f2 none 0 "" #[] none h] at g1; simpa using g1
    rw [<- this]; exact f1
  exact (aH.iJ hold e1).2 _ _
theorem r5 (I : Iv h0 G S0 h σ t ms fl) {o : Oper} {b : Nat} (hb : aM bs o = b) (ho : tail = false -> Old S0 h σ t fl nw so segs) :
    ∃ M, p5 o ⟨t, h, bs, segs, mem, tail⟩ = M /\ nK M /\ M.next = h.next /\ M.low = h.next /\ (∀ b o, M.get b = some o -> h.get b = some o) /\ (Nat.beq (mem &&& b) mem = true -> M = entry h) /\ (tail = false -> ∃ hs, nK hs /\ eV hs h /\ eV hs M /\ l8 hs segs /\ (∀ b ∈ S0, b < hs.next) /\
      (∀ k pv, kT fl k = some pv -> mM nw k = false -> aH hs (own σ ++ S0) pv (t.get k)) /\ (so = true -> ∀ c ∈ σ, cU hs (own σ ++ S0) c.1 c.2)) := by
  have hM4 : ∀ b o', (p5 o ⟨t, h, bs, segs, mem, tail⟩).get b = some o' -> h.get b = some o' := by
    unfold p5; simp only [hb]
    cases Nat.beq (mem &&& b) mem with
    | true => exact fun b o hg => hg
    | false => exact fun b o hg => wK segs h.aA hg
  refine ⟨_, rfl, fun b o' hg => I.ok b o' (hM4 b o' hg), rfl, rfl, hM4, fun gR => ?_, fun ht => ?_⟩
  . unfold p5 entry; simp only [hb, gR, cond_true]
  obtain ⟨hs, h1, h2, h3, h4, h5, h6⟩ := ho ht; refine ⟨hs, h1, h2, ?_, h3, h4, h5, h6⟩; unfold p5; simp only [hb]
  cases Nat.beq (mem &&& b) mem with
  | true => exact ⟨h2.next, h2.get, h2.ok, fun e h1 h3 => Nat.le_trans h3 h2.next⟩
  | false => exact XF h2 h3
theorem KX {b : Nat} {o : Oper} {u : Value} {M : U} (hM : p5 o ⟨t, h, bs, segs, mem, tail⟩ = M) (hMn : M.next = h.next) (hMl : M.low = h.next) (hb : aM bs o = b) (hd : o.dst = some d) (sP : calm o.op = false) (hw : bL ops t o = some true) (lO : (tail && !Nat.beq (mem &&& b) mem) = false)
    (bT : gG P o (aB t) M = some (u, M)) (n1 : Nat.blt d n = true) : gJ (gG P) ops n o i ⟨t, h, bs, segs, mem, tail⟩ = some ⟨t.set depth d u, h, bs ++ [b], (i, h.next, h.next) :: segs, mem ||| 2 ^ i, tail⟩ := by
  unfold gJ
  have hM' : ({ next := h.next, low := h.next, aA := bif Nat.beq (mem &&& b) mem then h.aA else mask b segs h.aA } : U) = M := by
    rw [<- hM]; unfold p5; simp only [hb]
  simp only [hw, sP, Bool.false_eq_true, if_false, hb, lO, cond_false, hM', bT]; simp only [hMn, hMl, KO, sY, cond_false, hd, bU n1, cond_true, T9, List.nil_append]
theorem VD.r {b : Nat} (cs : aR) (hc : cJ P fl cs op v) (iZ : cs = [] \/ (so = true /\ cs = σ)) (hk : VD P orc ops n l (i + 1) ((d, v) :: fl) (fE true d nw) σ so (bs ++ [b]) (mem ||| 2 ^ i) false K)
    (hb : aM bs ⟨some d, op, ty, pos, after, g⟩ = b := by rfl) (hold : FK nw op = true := by rfl) (hw : cV ops fl g = some true := by rfl) (hn : (Nat.blt d n && Nat.ble n 4000) = true := by rfl) :
    VD P orc ops n (⟨some d, op, ty, pos, after, g⟩ :: l) i fl nw σ so bs mem false K := fun h0 G S0 t h ms segs I ho => by
  obtain ⟨n1, n2⟩ := fits hn; obtain ⟨M, m1, m2, m3, m4, m5, m6, m7⟩ := r5 (mem := mem) I hb ho; obtain ⟨hs, a1, a2, a3, a4, a5, a6, a7⟩ := m7 rfl
  have pZ : ∀ c ∈ cs, cU hs (own σ ++ S0) c.1 c.2 := by
    rcases iZ with rfl | ⟨hso, iZ⟩
    . intro c hc; cases hc
    rw [iZ]; exact a7 hso
  obtain ⟨u, e1, e2⟩ := hc.2 hs (own σ ++ S0) t (zU a6 hold) pZ; have bT := e2 M (fun b o hg => by rw [a3.get b (a1 b o hg)]; exact hg) (some d) ty pos after g; have nF : aH h (own σ ++ S0) v u := e1.nx (a2.nx a1); refine rV.op (KX m1 m3 m4 hb rfl hc.1 (cC I.aJ hw) rfl bT n1) (hk h0 G S0 _ h ms _ (I.set nF n2) fun _ => ?_); refine Old.uK ?_ (Nat.le_refl _); refine Old.set (old := true) ⟨hs, a1, a2, a4, a5, a6, a7⟩ n2 fun _ wL b1 b2 b3 b4 b5 => ?_
  have ai2 : ∀ c ∈ cs, cU wL (own σ ++ S0) c.1 c.2 := by
    rcases iZ with rfl | ⟨hso, iZ⟩
    . intro c hc; cases hc
    rw [iZ]; exact b5 hso
  obtain ⟨u', f1, f2⟩ := hc.2 wL (own σ ++ S0) t (zU b4 hold) ai2; have g1 := e2 h (fun b o hg => by rw [a2.get b (a1 b o hg)]; exact hg) (some d) ty pos after g; rw [f2 h (fun b o hg => by rw [b2.get b (b1 b o hg)]; exact hg) (some d) ty pos after g] at g1
  have : u' = u := by simpa using g1
  rw [<- this]; exact f1
theorem VD.ro {b : Nat} (hc : cJ P fl σ op v) (hk : VD P orc ops n l (i + 1) ((d, v) :: fl) (fE v.iJ d nw) σ so (bs ++ [b]) (mem ||| 2 ^ i) tail K)
    (hb : aM bs ⟨some d, op, ty, pos, after, g⟩ = b := by rfl) (gR : Nat.beq (mem &&& b) mem = true := by rfl) (hw : cV ops fl g = some true := by rfl) (hn : (Nat.blt d n && Nat.ble n 4000) = true := by rfl) :
    VD P orc ops n (⟨some d, op, ty, pos, after, g⟩ :: l) i fl nw σ so bs mem tail K := fun h0 G S0 t h ms segs I ho => by
  obtain ⟨n1, n2⟩ := fits hn; obtain ⟨M, m1, m2, m3, m4, m5, m6, m7⟩ := r5 (mem := mem) I hb ho; have hMe := m6 gR; obtain ⟨u, e1, e2⟩ := hc.2 h (own σ ++ S0) t I.aJ.tB I.cells; have bT := e2 M (fun b o hg => by rw [hMe]; exact hg) (some d) ty pos after g; refine rV.op (KX m1 m3 m4 hb rfl hc.1 (cC I.aJ hw) (by rw [gR]; simp) bT n1) (hk h0 G S0 _ h ms _ (I.set e1 n2) fun ht => ?_); exact Old.uK ((ho ht).set n2 fun hf _ _ _ _ _ _ => (aH.iJ hf e1).2 _ _) (Nat.le_refl _)
theorem VD.skip {b : Nat} (hk : VD P orc ops n l (i + 1) ((d, .raw undef) :: fl) (fE true d nw) σ so (bs ++ [b]) mem tail K)
    (hb : aM bs ⟨some d, op, ty, pos, after, g⟩ = b := by rfl) (hw : cV ops fl g = some false := by rfl) (hn : (Nat.blt d n && Nat.ble n 4000) = true := by rfl) :
    VD P orc ops n (⟨some d, op, ty, pos, after, g⟩ :: l) i fl nw σ so bs mem tail K := fun h0 G S0 t h ms segs I ho => by
  obtain ⟨n1, n2⟩ := fits hn; have xV : bL ops t ⟨some d, op, ty, pos, after, g⟩ = some false := cC I.aJ hw; refine rV.op (s' := ⟨t.set depth d undef, h, bs ++ [b], segs, mem, tail⟩) ?_ (hk h0 G S0 _ h ms segs (I.set (show aH _ _ (.raw undef) undef from rfl) n2) fun ht => (ho ht).set n2 fun _ _ _ _ _ _ _ => (show aH _ _ (.raw undef) undef from rfl)); unfold gJ; simp only [xV, bU n1, Option.map_some, hb]
theorem VD.iB {x : Tmp} {r : Bool} (hc : kT fl x = some (.v .bool r)) (ht : r = true -> VD P orc ops n l i ((x, .v .bool true) :: fl) (fE true x nw) σ so bs mem tail K) (hf : r = false -> VD P orc ops n l i ((x, .v .bool false) :: fl) (fE true x nw) σ so bs mem tail K) :
    VD P orc ops n l i fl nw σ so bs mem tail K := fun h0 G S0 t h ms segs I ho => by
  have hx : Iv h0 G S0 h σ t ms ((x, .v .bool r) :: fl) := { I with aJ := I.aJ.cons (I.aJ x _ hc) }
  have hO : tail = false -> Old S0 h σ t ((x, .v .bool r) :: fl) (fE true x nw) so segs := fun e => by
    obtain ⟨hs, h1, h2, h3, h4, h5, h6⟩ := ho e; refine ⟨hs, h1, h2, h3, h4, fun k pv hk hn => ?_, h6⟩; simp only [kT] at hk
    cases hb : Nat.beq x k with
    | true =>
      rw [hb] at hk; simp only [cond_true, Option.some.injEq] at hk; subst hk; rw [<- bV hb]
      exact (aH.iJ (pv := .v .bool r) rfl (I.aJ x _ hc)).2 _ _
    | false =>
      rw [hb] at hk; simp only [cond_false] at hk; refine h5 k pv hk ?_; rw [fE, cond_true, nV (Ne.symm (gC hb))] at hn; exact hn
  cases r with
  | true => exact ht rfl h0 G S0 t h ms segs hx hO
  | false => exact hf rfl h0 G S0 t h ms segs hx hO
theorem VD.bJ {x : Tmp} {p : Prop} {inst : Decidable p} (hc : kT fl x = some (.v .bool (@decide p inst))) (ht : p -> VD P orc ops n l i ((x, .v .bool true) :: fl) (fE true x nw) σ so bs mem tail K) (hf : ¬ p -> VD P orc ops n l i ((x, .v .bool false) :: fl) (fE true x nw) σ so bs mem tail K) :
    VD P orc ops n l i fl nw σ so bs mem tail K := VD.iB hc (fun h => ht (of_decide_eq_true h)) fun h => hf (of_decide_eq_false h)
theorem VD.call {b : Nat} {f : Operand} {args : Array Operand} {mC : Array TypeId} {F r : PV} {asl : List PV} (hf : aS fl f = some F) (ha : kI fl args.toList = some asl) (hc : qE P orc F asl r) (hk : VD P orc ops n l (i + 1) ((d, r) :: fl) (fE r.flat d nw) σ so (bs ++ [b]) (mem ||| 2 ^ i) false K)
    (hb : aM bs ⟨some d, .call { callee := .value f, args := args, argTypes := mC }, ty, pos, after, g⟩ = b := by rfl) (hold : (AY nw f && args.toList.all (AY nw)) = true := by rfl) (hw : cV ops fl g = some true := by rfl) (hn : (Nat.blt d n && Nat.ble n 4000) = true := by rfl) :
    VD P orc ops n (⟨some d, .call { callee := .value f, args := args, argTypes := mC }, ty, pos, after, g⟩ :: l) i fl nw σ so bs mem false K := fun h0 G S0 t h ms segs I ho => by
  obtain ⟨n1, n2⟩ := fits hn; obtain ⟨o1, o2⟩ := aQ hold; obtain ⟨M, m1, m2, m3, m4, m5, m6, m7⟩ := r5 (mem := mem) I hb ho; obtain ⟨hs, a1, a2, a3, a4, a5, a6, a7⟩ := m7 rfl; have hN : dA hs (own σ ++ S0) M (own σ ++ S0) := a3.nx a1
  have l7 : ∀ (l : List Operand) (asl : List PV), kI fl l = some asl -> l.all (AY nw) = true -> bA M (own σ ++ S0) asl (l.map (aB t)) := by
    intro l
    induction l with
    | nil => intro asl hx _; obtain rfl := Option.some.inj hx; rfl
    | cons x r ih =>
      intro asl hx hl; rw [List.all_cons] at hl; obtain ⟨l1, l2⟩ := aQ hl; simp only [kI] at hx; split at hx
      . rename_i v KG hv w9; obtain rfl := Option.some.inj hx; exact ⟨_, _, rfl, (qF a6 hv l1).nx hN, ih KG w9 l2⟩
      cases hx
  obtain ⟨ND, ca, cc, h1, h2⟩ := hc.ev m2 (fun b hb => by rw [m3]; exact Lc.lt I.lc b hb) ((qF a6 hf o1).nx hN) (l7 _ _ ha o2); refine rV.call (o := ⟨some d, .call { callee := .value f, args := args, argTypes := mC }, ty, pos, after, g⟩) (cC I.aJ hw) rfl rfl h1 rfl ?_; rw [m1]; refine h2.mono fun u h' hq => ?_; obtain ⟨q1, q2, q3⟩ := hq; have hA := q1.after; have hl : h.next <= h'.low := hA.low h.next (by omega) (by omega)
  have dW : Nat.ble h.next h'.low = true := by rw [Nat.ble_eq]; exact hl
  have gU : h.next <= h'.next := by have := hA.next; omega
  refine ⟨l9 gU, by simp only [dW, Bool.true_or], _, bU n1 t u, ?_⟩
  have hd : kB ⟨some d, .call { callee := .value f, args := args, argTypes := mC }, ty, pos, after, g⟩ i ⟨t, h, bs, segs, mem, false⟩ (t.set depth d u) h' =
      ⟨t.set depth d u, { next := h'.next, low := h.low, aA := bI h.next h'.next h'.aA ++ h.aA }, bs ++ [b], (i, h.next, h'.next) :: segs, mem ||| 2 ^ i, false⟩ := by
    unfold kB; simp only [dW, cond_true, hb]
  rw [hd]; obtain ⟨e1, e2⟩ := r3 (h' := h') I.ok m5 m3 hA m2; have eA : cI h { next := h'.next, low := h.low, aA := bI h.next h'.next h'.aA ++ h.aA } [] := ⟨e1.next, fun b hb _ => e1.get b hb, e1.ok, fun e h3 h4 _ => e1.low e h3 h4, fun b hb => .inl (e1.get b hb), Nat.le_refl _⟩; refine hk h0 G S0 _ _ ms _ ((I.calm eA).set (q2.nx (e2 _)) n2) fun _ => ?_; exact ((Old.set (old := r.flat) ⟨hs, a1, a2, a4, a5, a6, a7⟩ n2 fun hfl _ _ _ _ _ _ => (q2.flat hfl).2 _ _)).next e1 (Nat.le_refl _)
theorem VD.oE {b : Nat} {f : Operand} {args : Array Operand} {mC : Array TypeId} {F r : PV} {asl : List PV} (hf : aS fl f = some F) (ha : kI fl args.toList = some asl) (hc : qE P orc F asl r) (hk : VD P orc ops n l (i + 1) ((d, r) :: fl) (fE r.flat d nw) σ so (bs ++ [b]) (mem ||| 2 ^ i) tail K)
    (hb : aM bs ⟨some d, .call { callee := .value f, args := args, argTypes := mC }, ty, pos, after, g⟩ = b := by rfl) (gR : Nat.beq (mem &&& b) mem = true := by rfl) (hw : cV ops fl g = some true := by rfl) (hn : (Nat.blt d n && Nat.ble n 4000) = true := by rfl) :
    VD P orc ops n (⟨some d, .call { callee := .value f, args := args, argTypes := mC }, ty, pos, after, g⟩ :: l) i fl nw σ so bs mem tail K := fun h0 G S0 t h ms segs I ho => by
  obtain ⟨n1, n2⟩ := fits hn; obtain ⟨M, m1, m2, m3, m4, m5, m6, m7⟩ := r5 (mem := mem) I hb ho; obtain rfl := m6 gR; have Le := I.lc.aA (h' := entry h) (fun _ => rfl) rfl; obtain ⟨ND, ca, cc, h1, h2⟩ := hc.ev m2 Le.lt (dL Le.aJ hf) (r4 Le.aJ ha); refine rV.call (o := ⟨some d, .call { callee := .value f, args := args, argTypes := mC }, ty, pos, after, g⟩) (cC I.aJ hw) rfl rfl h1 (by simp only [hb, gR]; simp) ?_; rw [m1]; refine h2.mono fun u h' hq => ?_; obtain ⟨q1, q2, q3⟩ := hq; have hA := q1.after; have hl : h.next <= h'.low := hA.low h.next (Nat.le_refl _) (Nat.le_refl _)
  have dW : Nat.ble h.next h'.low = true := by rw [Nat.ble_eq]; exact hl
  have gU : h.next <= h'.next := hA.next; refine ⟨l9 gU, by simp only [dW, Bool.true_or], _, bU n1 t u, ?_⟩
  have hd : kB ⟨some d, .call { callee := .value f, args := args, argTypes := mC }, ty, pos, after, g⟩ i ⟨t, h, bs, segs, mem, tail⟩ (t.set depth d u) h' =
      ⟨t.set depth d u, { next := h'.next, low := h.low, aA := bI h.next h'.next h'.aA ++ h.aA }, bs ++ [b], (i, h.next, h'.next) :: segs, mem ||| 2 ^ i, tail⟩ := by
    unfold kB; simp only [dW, cond_true, hb]
  rw [hd]; obtain ⟨e1, e2⟩ := r3 (h' := h') I.ok m5 rfl hA m2; have eA : cI h { next := h'.next, low := h.low, aA := bI h.next h'.next h'.aA ++ h.aA } [] := ⟨e1.next, fun b hb _ => e1.get b hb, e1.ok, fun e h3 h4 _ => e1.low e h3 h4, fun b hb => .inl (e1.get b hb), Nat.le_refl _⟩; refine hk h0 G S0 _ _ ms _ ((I.calm eA).set (q2.nx (e2 _)) n2) fun ht => ?_; exact ((ho ht).set n2 fun hfl _ _ _ _ _ _ => (q2.flat hfl).2 _ _).next e1 (Nat.le_refl _)
end Go.Fs
namespace Go.Fs
variable {P : Program} {orc : FuncId -> List Value -> U -> Option (Value × U)} {h h' h0 : U} {fl : FL} {op : Op} {v : Value} {S S' S0 : List Nat}
theorem k9.akX {T e : TypeId} {τ : Ty} (hT : fO P T e τ) {v : Value} {xs : List τ.den} (hv : k9 h S τ v xs) {lo : Option Value} (H : U) : bS P T v lo none none H = bS P T v lo (some (.int .i64 (xs.length : Nat))) none H := by
  rcases hv with ⟨rfl, rfl⟩ | ⟨b, o, mk, rfl, _⟩
  . simp only [bS, hT.sl.sl, cR, List.length_nil]; rfl
  have h1 : cR (some (.int .i64 (xs.length : Nat))) xs.length = some xs.length := by
    simp only [cR, Int.natCast_nonneg, if_true, Int.toNat_natCast]
  simp only [bS, hT.sl.sl, h1]; rfl
theorem k9.afM {T e : TypeId} {τ : Ty} (hT : fO P T e τ) {v : Value} {xs : List τ.den} (hv : k9 h S τ v xs) {a : Int} (h0 : 0 <= a /\ a <= (xs.length : Nat)) :
    ∃ w, (∀ nn ll, bS P T v (some (.int .i64 a)) none none { next := nn, low := ll, aA := h.aA } = some w) /\ k9 h S τ w (xs.drop a.toNat) := by
  obtain ⟨w, h1, h2⟩ := hv.cut hT (a := a) (b := (xs.length : Nat)) ⟨h0.1, h0.2, Int.le_refl _⟩; refine ⟨w, fun nn ll => by rw [hv.akX hT]; exact h1 nn ll, ?_⟩
  rwa [Int.toNat_natCast, List.take_length] at h2
theorem ai3 (p q : Int) : (if q > p then q else p) = max p q := by
  rw [Int.max_def]; split <;> split <;> omega
end Go.Fs
namespace Go.Fs
variable {P : Program} {orc : FuncId -> List Value -> U -> Option (Value × U)} {aY : Option Nat} {h h' h0 h1 h2 : U} {S S' S0 B G : List Nat} {σ σ' : aR} {t t' : Tr} {ms : List Nat} {fl : VL} {ops : Array Oper} {n : Nat} {l : List Oper} {K : VL -> aR -> Prop} {Q : Ex -> VL -> aR -> Prop}
  {d : Tmp} {ty : TypeId} {pos : String} {after : Array Edge} {op : Op} {v pv : PV} {g : Option (Nat × Bool)} {x y z : Operand} {T T' e : TypeId} {τ dC : Ty}
theorem aI.move (hx : aS fl x = some pv) : aI P fl σ (.move x) pv := ⟨rfl, fun h S t hs _ => ⟨aB t x, hs x (by simp [Op.operands]) _ hx, fun _ _ _ _ _ _ => rfl⟩⟩
theorem aI.assign (hx : aS fl x = some pv) : aI P fl σ (.assign x) pv := ⟨rfl, fun h S t hs _ => ⟨aB t x, hs x (by simp [Op.operands]) _ hx, fun _ _ _ _ _ _ => rfl⟩⟩
theorem aI.cZ (hc : aS fl z = some (.v .bool true)) (hx : aS fl x = some pv) : aI P fl σ (.pick z x y) pv := ⟨rfl, fun h S t hs _ => ⟨aB t x, hs x (by simp [Op.operands]) _ hx, fun _ _ _ _ _ H => by
  have := (hs z (by simp [Op.operands]) _ hc : aH h S (.v .bool true) _).bool; show (match aB t z with | .bool true => some (aB t x, H) | .bool false => some (aB t y, H) | _ => none) = _
  rw [this]⟩⟩
theorem aI.bB (hc : aS fl z = some (.v .bool false)) (hy : aS fl y = some pv) : aI P fl σ (.pick z x y) pv := ⟨rfl, fun h S t hs _ => ⟨aB t y, hs y (by simp [Op.operands]) _ hy, fun _ _ _ _ _ H => by
  have := (hs z (by simp [Op.operands]) _ hc : aH h S (.v .bool false) _).bool; show (match aB t z with | .bool true => some (aB t x, H) | .bool false => some (aB t y, H) | _ => none) = _
  rw [this]⟩⟩
theorem aI.bin {b : BinOp} {p q : PV} (hx : aS fl x = some p) (hy : aS fl y = some q) (hv : ∀ (h : U) (S : List Nat) (a c : Value), aH h S p a -> aH h S q c -> ∃ u, aH h S v u /\ (af a && af c) = true /\ bX P (do eqGuard b T x y a c; binOp b T a c) = some u) : aI P fl σ (.binOp b T x y T') v :=
  ⟨rfl, fun h S t hs _ => by
    obtain ⟨u, h1, h2, h3⟩ := hv h S _ _ (hs x (by simp [Op.operands]) _ hx) (hs y (by simp [Op.operands]) _ hy); refine ⟨u, h1, fun _ _ _ _ _ H => ?_⟩; show (if (af (aB t x) && af (aB t y)) = true then _ else _) = _
    rw [if_pos h2, h3]; rfl⟩
theorem aI.rO {b : BinOp} {k k' : IntKind} {p q : Int} {u : Value} (hx : aS fl x = some (.v (.int k) p)) (hy : aS fl y = some (.v (.int k') q)) (hu : bX P (do eqGuard b T x y (.int k p) (.int k' q); binOp b T (.int k p) (.int k' q)) = some u) (hv : ∀ h S, aH h S v u) : aI P fl σ (.binOp b T x y T') v :=
  .bin hx hy fun h S a c ha hc => by
    obtain rfl := aE.int ha; obtain rfl := aE.int hc; exact ⟨u, hv h S, rfl, hu⟩
section
variable {p q : Int}
abbrev fit (n : Int) : Prop := -9223372036854775808 <= n /\ n <= 9223372036854775807
theorem aI.add (hx : aS fl x = some (.v (.int .i64) p)) (hy : aS fl y = some (.v (.int .i64) q)) (h0 : fit (p + q)) : aI P fl σ (.binOp .add T x y T') (.v (.int .i64) (p + q)) :=
  .rO hx hy (u := .int .i64 (IntKind.i64.wrap (p + q))) rfl fun h S => by rw [wrap64 h0.1 h0.2]; exact aE.ofInt _ _
theorem aI.sub (hx : aS fl x = some (.v (.int .i64) p)) (hy : aS fl y = some (.v (.int .i64) q)) (h0 : fit (p - q)) : aI P fl σ (.binOp .sub T x y T') (.v (.int .i64) (p - q)) :=
  .rO hx hy (u := .int .i64 (IntKind.i64.wrap (p - q))) rfl fun h S => by rw [wrap64 h0.1 h0.2]; exact aE.ofInt _ _
theorem aI.rem (hx : aS fl x = some (.v (.int .i64) p)) (hy : aS fl y = some (.v (.int .i64) q)) (hq : q ≠ 0) : aI P fl σ (.binOp .rem T x y T') (.v (.int .i64) (p.tmod q)) :=
  .rO hx hy (u := .int .i64 (p.tmod q)) (by show (aD P (Op.intDiv .rem .i64 p q)).bind _ = _; unfold Op.intDiv; rw [if_neg hq]; rfl) fun h S => aE.ofInt _ _
variable {k : IntKind}
theorem vC (b : BinOp) (r : Bool) (hr : Op.intCmp b p q = pure (.bool r)) (ha : ∀ s : Sem Value, binOp b T (.int k p) (.int k q) = s -> s = Op.intCmp b p q) (hg : eqGuard b T x y (.int k p) (.int k q) = pure ()) : bX P (do eqGuard b T x y (.int k p) (.int k q); binOp b T (.int k p) (.int k q)) = some (.bool r) := by
  rw [hg, ha _ rfl, hr]; rfl
theorem zV {b : BinOp} (hb : binOp b T (.int k p) (.int k q) = if k ≠ k then stuck "BinOp: operands of different kinds" else Op.intCmp b p q) : binOp b T (.int k p) (.int k q) = Op.intCmp b p q := by rw [hb, if_neg (by simp)]
theorem aI.lss (hx : aS fl x = some (.v (.int k) p) := by rfl) (hy : aS fl y = some (.v (.int k) q) := by rfl) : aI P fl σ (.binOp .lss T x y T') (.v .bool (decide (p < q))) :=
  .rO hx hy (u := .bool (decide (p < q))) (vC .lss _ rfl (fun s hs => by rw [<- hs]; exact zV rfl) rfl) fun h S => aE.ofBool _
theorem aI.leq (hx : aS fl x = some (.v (.int k) p) := by rfl) (hy : aS fl y = some (.v (.int k) q) := by rfl) : aI P fl σ (.binOp .leq T x y T') (.v .bool (decide (p <= q))) :=
  .rO hx hy (u := .bool (decide (p <= q))) (vC .leq _ rfl (fun s hs => by rw [<- hs]; exact zV rfl) rfl) fun h S => aE.ofBool _
theorem aI.gtr (hx : aS fl x = some (.v (.int k) p) := by rfl) (hy : aS fl y = some (.v (.int k) q) := by rfl) : aI P fl σ (.binOp .gtr T x y T') (.v .bool (decide (q < p))) :=
  .rO hx hy (u := .bool (decide (q < p))) (vC .gtr _ rfl (fun s hs => by rw [<- hs]; exact zV rfl) rfl) fun h S => aE.ofBool _
theorem aI.geq (hx : aS fl x = some (.v (.int k) p) := by rfl) (hy : aS fl y = some (.v (.int k) q) := by rfl) : aI P fl σ (.binOp .geq T x y T') (.v .bool (decide (q <= p))) :=
  .rO hx hy (u := .bool (decide (q <= p))) (vC .geq _ rfl (fun s hs => by rw [<- hs]; exact zV rfl) rfl) fun h S => aE.ofBool _
theorem aI.eql (hx : aS fl x = some (.v (.int k) p) := by rfl) (hy : aS fl y = some (.v (.int k) q) := by rfl) : aI P fl σ (.binOp .eql T x y T') (.v .bool (decide (p = q))) := by
  have e : (p == q) = decide (p = q) := by by_cases h : p = q <;> simp [h]
  exact .rO hx hy (u := .bool (p == q)) (vC .eql _ rfl (fun s hs => by rw [<- hs]; exact zV rfl) rfl) fun h S => by rw [e]; exact aE.ofBool _
theorem aI.neq (hx : aS fl x = some (.v (.int k) p) := by rfl) (hy : aS fl y = some (.v (.int k) q) := by rfl) : aI P fl σ (.binOp .neq T x y T') (.v .bool (decide (p ≠ q))) := by
  have e : (p != q) = decide (p ≠ q) := by by_cases h : p = q <;> simp [h]
  exact .rO hx hy (u := .bool (p != q)) (vC .neq _ rfl (fun s hs => by rw [<- hs]; exact zV rfl) rfl) fun h S => by rw [e]; exact aE.ofBool _
end
theorem aI.un {b : UnOp} {p : PV} (hx : aS fl x = some p) (hv : ∀ (h : U) (S : List Nat) (a : Value), aH h S p a -> ∃ u, aH h S v u /\ af a = true /\ bX P (Op.unary b a) = some u) : aI P fl σ (.unOp b T x) v :=
  ⟨rfl, fun h S t hs _ => by
    obtain ⟨u, h1, h2, h3⟩ := hv h S _ (hs x (by simp [Op.operands]) _ hx); refine ⟨u, h1, fun _ _ _ _ _ H => ?_⟩; show (if af (aB t x) = true then _ else _) = _
    rw [if_pos h2, h3]; rfl⟩
theorem aI.not {r : Bool} (hx : aS fl x = some (.v .bool r) := by rfl) : aI P fl σ (.unOp .not T x) (.v .bool (!r)) :=
  .un hx fun h S a ha => by
    obtain rfl := aE.bool ha; exact ⟨_, aE.ofBool _, rfl, rfl⟩
theorem aI.conv {p : PV} {s D : TypeId} (hx : aS fl x = some p) (hv : ∀ (h : U) (S : List Nat) (a : Value), aH h S p a -> ∃ u, aH h S v u /\ af a = true /\ bX P (convert s D a) = some u) : aI P fl σ (.convert s D x) v :=
  ⟨rfl, fun h S t hs _ => by
    obtain ⟨u, h1, h2, h3⟩ := hv h S _ (hs x (by simp [Op.operands]) _ hx); refine ⟨u, h1, fun _ _ _ _ _ H => ?_⟩; show (if af (aB t x) = true then _ else _) = _
    rw [if_pos h2, h3]; rfl⟩
def QJ (P : Program) (s D : TypeId) (k2 : IntKind) : Bool := (P.underlying s).isSome && (match P.underlying D with | some (.int k) => decide (k = k2) | _ => false)
theorem aI.wM {p : Int} {s D : TypeId} {k : IntKind} (hx : aS fl x = some (.v (.int k) p)) (k2 : IntKind) (hw : k2.wrap p = p) (hb : QJ P s D k2 = true := by kernel_rfl) : aI P fl σ (.convert s D x) (.v (.int k2) p) :=
  .conv hx fun h S a ha => by
    obtain rfl := aE.int ha; unfold QJ at hb; obtain ⟨b1, b2⟩ := aQ hb; obtain ⟨td, hs⟩ := Option.isSome_iff_exists.1 b1; split at b2
    . rename_i k3 hd; obtain rfl : k3 = k2 := of_decide_eq_true b2; refine ⟨.int k3 p, aE.ofInt _ _, rfl, ?_⟩; unfold bX convert; simp only [aC, aK hs, aK hd, Option.bind_some]; show (aD P (Conv.intToInt k3 p)).bind _ = _; simp only [Conv.intToInt, aL, Option.bind_some, hw]; rfl
    cases b2
theorem aI.func {f : FuncId} {a c : Array Operand} {us vs : List PV} (ha : kI fl a.toList = some us := by rfl) (hc : kI fl c.toList = some vs := by rfl) : aI P fl σ (.makeFunc (.func f) a c) (.lA f us vs) :=
  ⟨rfl, fun h S t hs _ => by
    have aux : ∀ (l : List Operand) (vs : List PV), (∀ x ∈ l, ∀ pv, aS fl x = some pv -> aH h S pv (aB t x)) -> kI fl l = some vs -> bA h S vs (l.map (aB t)) := by
      intro l
      induction l with
      | nil => intro vs _ hx; obtain rfl := Option.some.inj hx; rfl
      | cons x r ih =>
        intro vs hq hx; simp only [kI] at hx; split at hx
        . rename_i v KG hv w9; obtain rfl := Option.some.inj hx; exact ⟨_, _, rfl, hq x List.mem_cons_self _ hv, ih KG (fun y hy => hq y (List.mem_cons_of_mem _ hy)) w9⟩
        cases hx
    refine ⟨.func (.func f) (a.map (aB t)) (c.map (aB t)), ⟨a.toList.map (aB t), c.toList.map (aB t), by congr 1 <;> (apply Array.toList_inj.1; simp), aux _ _ (fun x hx => hs x (by simp [Op.operands]; left; simpa using hx)) ha, aux _ _ (fun x hx => hs x (by simp [Op.operands]; right; simpa using hx)) hc⟩, fun _ _ _ _ _ H => rfl⟩⟩
theorem bA.get : ∀ {l : List PV} {us : List Value} {i : Nat} {p : PV}, bA h S l us -> l[i]? = some p -> ∃ u, us[i]? = some u /\ aH h S p u
  | [], us, i, p, _, hp => by simp at hp
  | q :: qs, us, i, p, ⟨u, r, h1, h2, h3⟩, hp => by
    subst h1
    cases i with
    | zero => simp only [List.getElem?_cons_zero, Option.some.injEq] at hp; subst hp; exact ⟨u, rfl, h2⟩
    | succ i =>
      obtain ⟨w, e1, e2⟩ := bA.get (l := qs) (us := r) (i := i) h3 (by simpa using hp); exact ⟨w, by simpa using e1, e2⟩
theorem aI.extract {l : List PV} {i : Nat} (hx : aS fl x = some (.oD l) := by rfl) (hi : l[i]? = some pv := by rfl) (h2 : Nat.ble 2 l.length = true := by rfl) : aI P fl σ (.extract x i) pv :=
  ⟨rfl, fun h S t hs _ => by
    obtain ⟨us, h3, h4⟩ := hs x (by simp [Op.operands]) _ hx; obtain ⟨u, h5, h6⟩ := h4.get hi; have hlen := h4.len; refine ⟨u, h6, fun _ _ _ _ _ H => ?_⟩; show (bif tQ (aB t x) then none else (aD P (Instr.extract (aB t x) i)).map _) = _; rw [h3]
    have hj : tQ (.tuple us.toArray) = false := by
      unfold tQ; split
      . rename_i hh
        have : us = [.tuple ⟨[]⟩] := by simpa using congrArg (fun v => match v with | Value.tuple a => a.toList | _ => []) hh
        rw [this] at hlen; have := fY h2; simp at hlen; omega
      rfl
    rw [hj]; simp only [cond_false, Instr.extract]
    have : us.toArray[i]? = some u := by simpa using h5
    rw [this]
    rfl⟩
inductive Sub : (τ : Ty) -> τ.den -> Nat -> (dC : Ty) -> dC.den -> Prop where
  | o {τ : Ty} {x : τ.den} : Sub τ x 0 τ x
  | l {a b : Ty} {x : (Ty.pair a b).den} {k : Nat} {dC : Ty} {y : dC.den} (hs : Sub a x.1 k dC y) : Sub (.pair a b) x k dC y
  | r {a b : Ty} {x : (Ty.pair a b).den} {k k' : Nat} {dC : Ty} {y : dC.den} (hs : Sub b x.2 k dC y) (hk : k' = a.size + k := by rfl) : Sub (.pair a b) x k' dC y
theorem Sub.TK {τ : Ty} {x : τ.den} {k : Nat} {dC : Ty} {y : dC.den} (hs : Sub τ x k dC y) : ∀ {cs : List Value}, cG h S τ cs x -> k + dC.size <= cs.length /\ cG h S dC ((cs.drop k).take dC.size) y := by
  induction hs with
  | o =>
    intro cs hx; have := hx.len
    exact ⟨by omega, by rw [List.drop_zero, List.take_of_length_le (by omega)]; exact hx⟩
  | @l a b x k dC y hs ih =>
    intro cs hx; obtain ⟨h1, h2⟩ := ih hx.1; rw [List.length_take] at h1; refine ⟨by omega, ?_⟩; rw [List.drop_take, List.take_take, Nat.min_eq_left (by omega)] at h2
    exact h2
  | @r a b x k k' dC y hs hk ih =>
    intro cs hx; obtain ⟨h1, h2⟩ := ih hx.2; rw [List.length_drop] at h1; have hl := hx.len; have dR : (Ty.pair a b).size = a.size + b.size := rfl; subst hk; rw [List.drop_drop] at h2; refine ⟨?_, h2⟩; have := cG.len h2; rw [List.length_take, List.length_drop] at this; by_cases h0 : dC.size = 0
    . have hlb := hx.2.len; rw [List.length_drop] at hlb; omega
    omega
theorem aI.fa {s : TypeId} {f k : Nat} {dx : τ.den} {dy : dC.den} (hs : Sub τ dx k dC dy) (hb : eI P s f k = true := by kernel_rfl) (hx : aS fl x = some (.p τ dx) := by rfl) : aI P fl σ (.fieldAddr s x f) (.p dC dy) :=
  ⟨rfl, fun h S t hq _ => by
    have hp : mI h S τ (aB t x) dx := hq x (by simp [Op.operands]) _ hx; refine ⟨oN (aB t x) k, ?_, fun _ _ _ _ _ H => ?_⟩
    . obtain ⟨b', o, e', rs, own, more, h1, h2, h3, h4, h5⟩ := hp; obtain ⟨h6, h7⟩ := hs.TK h5; rw [List.length_take, List.length_drop] at h6; refine ⟨b', o + k, e', rs, own, more, by rw [h1]; rfl, h2, h3, by omega, ?_⟩; rw [List.drop_take, List.take_take, List.drop_drop, Nat.min_eq_left (by omega)] at h7; exact h7
    show (aD P (Instr.fieldAt s (aB t x) f)).map _ = _
    rw [hp.fa hb]; rfl⟩
end Go.Fs
namespace Go.Fs
variable {P : Program} {orc : FuncId -> List Value -> U -> Option (Value × U)} {aY : Option Nat} {h h' h0 h1 h2 : U} {S S' S0 B G : List Nat} {σ σ' nW : aR} {t t' : Tr} {ms : List Nat} {fl : VL} {ops : Array Oper} {n i mem : Nat} {l : List Oper} {K : VL -> aR -> Prop} {Q : Ex -> VL -> aR -> Prop}
  {d : Tmp} {ty : TypeId} {pos : String} {after : Array Edge} {op : Op} {v pv : PV} {g : Option (Nat × Bool)} {x y z : Operand} {T T' e : TypeId} {τ dC : Ty} {bs nw : List Nat} {segs : List (Nat × Nat × Nat)} {tail so : Bool} {w : Value}
theorem aI.ix {xs : List τ.den} {j : Nat} (hx : aS fl x = some (.v (.sl τ) xs)) (hy : aS fl y = some (.v (.int .i64) ((j : Nat) : Int))) (hT : fO P T e τ) (hj : j < xs.length) : aI P fl σ (.indexAddr T x y) (.p τ xs[j]) :=
  ⟨rfl, fun h S t hs _ => by
    have h1 := aE.sl (hs x (by simp [Op.operands]) _ hx : aE h S (.sl τ) (aB t x) xs); have h2 := aE.int (hs y (by simp [Op.operands]) _ hy); refine ⟨_, h1.at hj, fun _ _ _ _ _ H => ?_⟩; show (if af (aB t y) then (aD P (Instr.indexAt T (aB t x) (aB t y))).map fun v => (v, H) else none) = _
    rw [h2, h1.ix hT hj]; rfl⟩
theorem aI.ixZ {xs : List τ.den} {k : Int} (hx : aS fl x = some (.v (.sl τ) xs)) (hy : aS fl y = some (.v (.int .i64) k)) (hT : fO P T e τ) (h0 : 0 <= k) (hk : k < (xs.length : Nat)) : aI P fl σ (.indexAddr T x y) (.p τ (xs[k.toNat]'(by omega))) := by
  obtain ⟨j, rfl⟩ := Int.eq_ofNat_of_zero_le h0; exact aI.ix hx hy hT (by omega)
theorem aI.AP {xs : List τ.den} {j : Nat} (hx : aS fl x = some (.raw w)) (hy : aS fl y = some (.v (.int .i64) ((j : Nat) : Int))) (hm : (w, Cell.row e τ xs) ∈ σ) (hT : fO P T e τ) (hj : j < xs.length) : aI P fl σ (.indexAddr T x y) (.raw (fS w τ.size j)) :=
  ⟨rfl, fun h S t hs hc => by
    have h1 : aB t x = w := hs x (by simp [Op.operands]) _ hx; have h2 := aE.int (hs y (by simp [Op.operands]) _ hy); refine ⟨_, rfl, fun _ _ _ _ _ H => ?_⟩; show (if af (aB t y) then (aD P (Instr.indexAt T (aB t x) (aB t y))).map fun v => (v, H) else none) = _; rcases hc _ hm with ⟨_, rfl⟩ | ⟨b, rs, m, h3, h4, h5, h6⟩
    . simp at hj
    have hg : rI h S 0 e m τ w xs := .inr ⟨b, rs, h4, Nat.zero_le _, h3, h5, h6⟩
    rw [h1, h2, hg.ix hT hj]; rfl⟩
theorem aI.aa5 {xs : List τ.den} {k : Int} (hx : aS fl x = some (.raw w)) (hy : aS fl y = some (.v (.int .i64) k)) (hm : (w, Cell.row e τ xs) ∈ σ) (hT : fO P T e τ) (h0 : 0 <= k) (hk : k < (xs.length : Nat)) : aI P fl σ (.indexAddr T x y) (.raw (fS w τ.size k.toNat)) := by
  obtain ⟨j, rfl⟩ := Int.eq_ofNat_of_zero_le h0; exact aI.AP hx hy hm hT (by omega)
theorem aI.s9 {s : TypeId} {f k : Nat} {cs : List PV} (hm : (w, Cell.var cs) ∈ σ) (hb : eI P s f k = true := by kernel_rfl) (hx : aS fl x = some (.raw w) := by rfl) : aI P fl σ (.fieldAddr s x f) (.raw (oN w k)) :=
  ⟨rfl, fun h S t hs hc => by
    have h1 : aB t x = w := hs x (by simp [Op.operands]) _ hx; obtain ⟨b, e, vs, h3, h4, h5, _⟩ := hc _ hm; have hB : vA h 0 w vs := ⟨b, e, h3, Nat.zero_le _, h5⟩; refine ⟨_, rfl, fun _ _ _ _ _ H => ?_⟩; show (aD P (Instr.fieldAt s (aB t x) f)).map _ = _
    rw [h1, hB.fa hb]; rfl⟩
theorem cJ.ld {dx : τ.den} (hT : fU P T τ) (hx : aS fl x = some (.p τ dx) := by rfl) : cJ P fl σ (.load T x) (.v τ dx) :=
  ⟨rfl, fun h S t hs _ => by
    have hp : mI h S τ (aB t x) dx := hs x (by simp [Op.operands]) _ hx; refine ⟨_, hp.val, fun H hH _ _ _ _ _ => ?_⟩; have hp' : mI H S τ (aB t x) dx := hp.nx fun b o hg hb => ⟨hH b o hg, hb⟩
    have e1 : pH H τ (aB t x) = pH h τ (aB t x) := by
      obtain ⟨b, o, e, rs, own, more, h1, h2, h3, h4, h5⟩ := hp; rw [h1]; simp only [pH, h3, hH b _ h3]
    show (dD P T (aB t x) H).map _ = _
    rw [(hp'.afI hT).1, e1]; rfl⟩
theorem cJ.TL {xs : List τ.den} {j : Nat} (hx : aS fl x = some (.raw (fS w τ.size j))) (hm : (w, Cell.row T τ xs) ∈ σ) (hT : fU P T τ) (hj : j < xs.length) : cJ P fl σ (.load T x) (.v τ xs[j]) :=
  ⟨rfl, fun h S t hs hc => by
    have h1 : aB t x = fS w τ.size j := hs x (by simp [Op.operands]) _ hx; rcases hc _ hm with ⟨_, rfl⟩ | ⟨b, rs, m, h3, h4, h5, h6⟩
    . simp at hj
    have hg : rI h S 0 T m τ w xs := .inr ⟨b, rs, h4, Nat.zero_le _, h3, h5, h6⟩; refine ⟨_, (hg.ld hT hj).2, fun H hH _ _ _ _ _ => ?_⟩; have gD : rI H S 0 T m τ w xs := .inr ⟨b, rs, h4, Nat.zero_le _, h3, hH b _ h5, h6.nx fun b o hg hb => ⟨hH b o hg, hb⟩⟩
    have e1 : pH H τ (fS w τ.size j) = pH h τ (fS w τ.size j) := by
      rw [show w = _ from h3]; simp only [fS, pH, h5, hH b _ h5]
    show (dD P T (aB t x) H).map _ = _
    rw [h1, (gD.ld hT hj).1, e1]; rfl⟩
theorem cJ.wN {cs : List PV} {k : Nat} (hm : (w, Cell.var cs) ∈ σ) (hT : fU P T τ) (ha : τ.agg = false := by rfl) (hk : cs[k]? = some v := by rfl) (hx : aS fl x = some (.raw (oN w k)) := by rfl) : cJ P fl σ (.load T x) v :=
  ⟨rfl, fun h S t hs hc => by
    have h1 : aB t x = oN w k := hs x (by simp [Op.operands]) _ hx; obtain ⟨b, e, vs, h3, h4, h5, h6, _⟩ := hc _ hm; obtain ⟨u, h7, h8⟩ := h6.get hk; refine ⟨u, h8, fun H hH _ _ _ _ _ => ?_⟩; have hB : vA H 0 w vs := ⟨b, e, h3, Nat.zero_le _, hH b _ h5⟩; show (dD P T (aB t x) H).map _ = _
    rw [h1, hB.ld1 hT ha h7]; rfl⟩
theorem cJ.ldV {cs : List PV} (hm : (w, Cell.var cs) ∈ σ) (hT : fU P T τ) (ha : τ.agg = false := by rfl) (hk : cs[0]? = some v := by rfl) (hx : aS fl x = some (.raw w) := by rfl) : cJ P fl σ (.load T x) v :=
  ⟨rfl, fun h S t hs hc => by
    have h1 : aB t x = w := hs x (by simp [Op.operands]) _ hx; obtain ⟨b, e, vs, h3, h4, h5, h6, _⟩ := hc _ hm; obtain ⟨u, h7, h8⟩ := h6.get hk; refine ⟨u, h8, fun H hH _ _ _ _ _ => ?_⟩; have hB : vA H 0 w vs := ⟨b, e, h3, Nat.zero_le _, hH b _ h5⟩; show (dD P T (aB t x) H).map _ = _
    rw [h1, hB.ld0 hT ha h7]; rfl⟩
theorem cJ.IH {cs : List PV} {dx : τ.den} (hm : (w, Cell.var cs) ∈ σ) (hT : fU P T τ) (hc : cs = j5 τ dx := by rfl) (ha : τ.agg = true := by rfl) (hx : aS fl x = some (.raw w) := by rfl) : cJ P fl σ (.load T x) (.v τ dx) :=
  ⟨rfl, fun h S t hs FE => by
    have h1 : aB t x = w := hs x (by simp [Op.operands]) _ hx; obtain ⟨b, e, vs, h3, h4, h5, h6, _⟩ := FE _ hm; rw [hc] at h6; have h7 := oQ h6; refine ⟨.agg vs.toArray, ⟨ha.symm, by simpa [Value.cells] using h7⟩, fun H hH _ _ _ _ _ => ?_⟩; have hB : vA H 0 w vs := ⟨b, e, h3, Nat.zero_le _, hH b _ h5⟩; show (dD P T (aB t x) H).map _ = _
    rw [h1, hB.IH hT ha h7.len]; rfl⟩
theorem cJ.len {xs : List τ.den} (hT : fO P T e τ) (hx : aS fl x = some (.v (.sl τ) xs) := by rfl) : cJ P fl σ (.call { callee := .builtin .len, args := #[x], argTypes := #[T] }) (.v (.int .i64) (xs.length : Nat)) :=
  ⟨rfl, fun h S t hs _ => by
    have h1 := aE.sl (hs x (by simp [Op.operands, Call.operands]) _ hx : aE h S (.sl τ) (aB t x) xs); refine ⟨_, aE.ofInt _ _, fun H _ _ _ _ _ _ => ?_⟩; show (o8 P #[T] (aB t x) H).map _ = _
    rw [h1.len hT]; rfl⟩
theorem cJ.TM {xs : List τ.den} (hm : (w, Cell.row e τ xs) ∈ σ) (hT : fO P T e τ) (hx : aS fl x = some (.raw w) := by rfl) : cJ P fl σ (.call { callee := .builtin .len, args := #[x], argTypes := #[T] }) (.v (.int .i64) (xs.length : Nat)) :=
  ⟨rfl, fun h S t hs hc => by
    have h1 : aB t x = w := hs x (by simp [Op.operands, Call.operands]) _ hx; refine ⟨_, aE.ofInt _ _, fun H _ _ _ _ _ _ => ?_⟩; show (o8 P #[T] (aB t x) H).map _ = _; rw [h1]; rcases hc _ hm with ⟨rfl, rfl⟩ | ⟨b, rs, m, h3, h4, h5, h6⟩
    . rw [k9.len (h := h) (S := S) (τ := τ) hT k9.nil]; rfl
    have hg : rI h S 0 e m τ w xs := .inr ⟨b, rs, h4, Nat.zero_le _, h3, h5, h6⟩
    rw [hg.len hT]; rfl⟩
theorem cJ.OL (hT : fO P T e τ) (hx : aS fl x = some (.raw (.slice none 0 0)) := by rfl) : cJ P fl σ (.call { callee := .builtin .len, args := #[x], argTypes := #[T] }) (.v (.int .i64) ((0 : Nat) : Int)) :=
  ⟨rfl, fun h S t hs _ => by
    have h1 : aB t x = .slice none 0 0 := hs x (by simp [Op.operands, Call.operands]) _ hx; refine ⟨_, aE.ofInt _ _, fun H _ _ _ _ _ _ => ?_⟩; show (o8 P #[T] (aB t x) H).map _ = _
    rw [h1, k9.len (h := h) (S := S) (τ := τ) hT k9.nil]; rfl⟩
theorem cJ.TN {s : ByteArray} (hT : P.underlying T = some .string := by kernel_rfl) (hx : aS fl x = some (.v .str s) := by rfl) : cJ P fl σ (.call { callee := .builtin .len, args := #[x], argTypes := #[T] }) (.v (.int .i64) (s.size : Nat)) :=
  ⟨rfl, fun h S t hs _ => by
    have h1 := aE.str (hs x (by simp [Op.operands, Call.operands]) _ hx); refine ⟨_, aE.ofInt _ _, fun H _ _ _ _ _ _ => ?_⟩; show (o8 P #[T] (aB t x) H).map _ = _; rw [h1]
    simp [o8, hT]⟩
section
variable {p q r s : Int} {a : Array TypeId}
theorem cJ.max (hx : aS fl x = some (.v (.int .i64) p) := by rfl) (hy : aS fl y = some (.v (.int .i64) q) := by rfl) : cJ P fl σ (.call { callee := .builtin .max, args := #[x, y], argTypes := a }) (.v (.int .i64) (Max.max p q)) :=
  ⟨rfl, fun h S t hs _ => by
    have h1 := aE.int (hs x (by simp [Op.operands, Call.operands]) _ hx); have h2 := aE.int (hs y (by simp [Op.operands, Call.operands]) _ hy); refine ⟨_, aE.ofInt _ _, fun H _ d ty pos after g => ?_⟩; show (if [aB t x, aB t y].all af = true then (bX P (Builtin.max_ a ty [aB t x, aB t y].toArray)).map fun v => (v, H) else none) = _; rw [h1, h2]; have : (bX P (Builtin.max_ a ty [Value.int .i64 p, Value.int .i64 q].toArray)) = some (.int .i64 (if q > p then q else p)) := rfl
    rw [this, ai3]; rfl⟩
theorem cJ.min (hx : aS fl x = some (.v (.int .i64) p) := by rfl) (hy : aS fl y = some (.v (.int .i64) q) := by rfl) : cJ P fl σ (.call { callee := .builtin .min, args := #[x, y], argTypes := a }) (.v (.int .i64) (Min.min p q)) :=
  ⟨rfl, fun h S t hs _ => by
    have h1 := aE.int (hs x (by simp [Op.operands, Call.operands]) _ hx); have h2 := aE.int (hs y (by simp [Op.operands, Call.operands]) _ hy); refine ⟨_, aE.ofInt _ _, fun H _ d ty pos after g => ?_⟩; show (if [aB t x, aB t y].all af = true then (bX P (Builtin.min_ a ty [aB t x, aB t y].toArray)).map fun v => (v, H) else none) = _; rw [h1, h2]; have : (bX P (Builtin.min_ a ty [Value.int .i64 p, Value.int .i64 q].toArray)) = some (.int .i64 (if q < p then q else p)) := rfl; rw [this]
    have e : (if q < p then q else p) = Min.min p q := by rw [Int.min_def]; split <;> split <;> omega
    rw [e]; rfl⟩
end
theorem k9.TO {xs : List τ.den} {a b : Nat} {u : Value} {H : U} (hT : fO P T e τ) (hv : k9 h S τ u xs) (hab : a <= b) (hb : b <= xs.length) (hH : ∀ b o, h.get b = some o -> H.get b = some o) {lo hi : Option Value} (hl : cR lo 0 = some a) (hh : ∀ n, n = xs.length -> cR hi n = some b) : bS P T u lo hi none H = bS P T u lo hi none h := by
  rcases hv with ⟨rfl, rfl⟩ | ⟨bl, o, mk, rfl, h2⟩
  . simp only [bS, hT.sl.sl]
  obtain ⟨i, z, DJ, dR, _⟩ := hT.sl.info
  have e1 : Nat.ble a b = true := by rw [Nat.ble_eq]; exact hab
  have e2 : Nat.ble b xs.length = true := by rw [Nat.ble_eq]; exact hb
  have hm : l5 e bl a mk H = l5 e bl a mk h := by
    unfold l5; by_cases ha : a = 0
    . subst ha; rfl
    rcases h2 with rfl | ⟨_, e', rs, own, more, h3, _, _⟩
    . simp at hb; omega
    rw [h3, hH _ _ h3]
  simp only [bS, hT.sl.sl, DJ, hl, hh _ rfl, e1, e2, Bool.and_self, cond_true, hm]
theorem cJ.cut {xs : List τ.den} {a b : Int} {lo hi : Operand} (hx : aS fl x = some (.v (.sl τ) xs)) (hl : aS fl lo = some (.v (.int .i64) a)) (hh : aS fl hi = some (.v (.int .i64) b)) (hT : fO P T e τ) (h0 : 0 <= a /\ a <= b /\ b <= (xs.length : Nat)) : cJ P fl σ (.slice T x (some lo) (some hi) none) (.v (.sl τ) ((xs.take b.toNat).drop a.toNat)) :=
  ⟨rfl, fun h S t hs _ => by
    have h1 := aE.sl (hs x (by simp [Op.operands]) _ hx : aE h S (.sl τ) (aB t x) xs); have h2 := aE.int (hs lo (by simp [Op.operands]) _ hl); have h3 := aE.int (hs hi (by simp [Op.operands]) _ hh); obtain ⟨u, e1, e2⟩ := h1.cut hT h0; refine ⟨u, e2.rep, fun H hH _ _ _ _ _ => ?_⟩; obtain ⟨a', rfl⟩ := Int.eq_ofNat_of_zero_le h0.1; obtain ⟨b', rfl⟩ := Int.eq_ofNat_of_zero_le (show 0 <= b by omega); have e3 := e1 h.next h.low; show (bS P T (aB t x) (some (aB t lo)) (some (aB t hi)) none H).map _ = _; rw [h2, h3, h1.TO hT (a := a') (b := b') (by omega) (by omega) hH (by simp [cR]) (fun _ _ => by simp [cR])]
    rw [show h = { next := h.next, low := h.low, aA := h.aA } from rfl, e3]; rfl⟩
theorem cJ.afM {xs : List τ.den} {a : Int} {lo : Operand} (hx : aS fl x = some (.v (.sl τ) xs)) (hl : aS fl lo = some (.v (.int .i64) a)) (hT : fO P T e τ) (h0 : 0 <= a /\ a <= (xs.length : Nat)) : cJ P fl σ (.slice T x (some lo) none none) (.v (.sl τ) (xs.drop a.toNat)) :=
  ⟨rfl, fun h S t hs _ => by
    have h1 := aE.sl (hs x (by simp [Op.operands]) _ hx : aE h S (.sl τ) (aB t x) xs); have h2 := aE.int (hs lo (by simp [Op.operands]) _ hl); obtain ⟨u, e1, e2⟩ := h1.afM hT h0; refine ⟨u, e2.rep, fun H hH _ _ _ _ _ => ?_⟩; obtain ⟨a', rfl⟩ := Int.eq_ofNat_of_zero_le h0.1; have e3 := e1 h.next h.low; show (bS P T (aB t x) (some (aB t lo)) none none H).map _ = _; rw [h2, h1.TO hT (a := a') (b := xs.length) (by omega) (by omega) hH (by simp [cR]) (fun _ e => by simp [cR, e])]
    rw [show h = { next := h.next, low := h.low, aA := h.aA } from rfl, e3]; rfl⟩
theorem cJ.TO {xs : List τ.den} {b : Int} {hi : Operand} (hx : aS fl x = some (.v (.sl τ) xs)) (hh : aS fl hi = some (.v (.int .i64) b)) (hT : fO P T e τ) (h0 : 0 <= b /\ b <= (xs.length : Nat)) : cJ P fl σ (.slice T x none (some hi) none) (.v (.sl τ) (xs.take b.toNat)) :=
  ⟨rfl, fun h S t hs _ => by
    have h1 := aE.sl (hs x (by simp [Op.operands]) _ hx : aE h S (.sl τ) (aB t x) xs); have h3 := aE.int (hs hi (by simp [Op.operands]) _ hh); obtain ⟨u, e1, e2⟩ := h1.cut hT (a := 0) (b := b) ⟨Int.le_refl _, h0⟩; rw [show (0 : Int).toNat = 0 from rfl, List.drop_zero] at e2; refine ⟨u, e2.rep, fun H hH _ _ _ _ _ => ?_⟩; obtain ⟨b', rfl⟩ := Int.eq_ofNat_of_zero_le h0.1; have e3 := e1 h.next h.low
    have e4 : bS P T (aB t x) none (some (.int .i64 (b' : Nat))) none h = bS P T (aB t x) (some (.int .i64 0)) (some (.int .i64 (b' : Nat))) none h := by
      rcases h1 with ⟨hu, _⟩ | ⟨bl, o, mk, hu, _⟩ <;> rw [hu] <;> simp only [bS, hT.sl.sl, cR] <;> rfl
    show (bS P T (aB t x) none (some (aB t hi)) none H).map _ = _; rw [h3, h1.TO hT (a := 0) (b := b') (by omega) (by omega) hH (by simp [cR]) (fun _ _ => by simp [cR])]
    rw [e4, show h = { next := h.next, low := h.low, aA := h.aA } from rfl, e3]; rfl⟩
end Go.Fs
