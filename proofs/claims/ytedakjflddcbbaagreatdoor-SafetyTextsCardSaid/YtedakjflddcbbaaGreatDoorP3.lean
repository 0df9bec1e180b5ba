/- Parts of the proof: an evaluator of the model, what it is sound for, and contracts of functions. No condition. -/
import Derived.Test.YtedakjflddcbbaaGreatDoorP2
import Derived.Scope
import Derived.Lib.ItoaNum
import Derived.Lib.Join
import Derived.Sort.OwnSorted
import Derived.KernelRfl
set_option linter.all false
namespace Go
variable {P : Program}
theorem kO {b : Frame} {a : Act} {k : List Item} {cs : List Frame} {w : World} {c : Code} : step P (lone (b.atR a (.code (.scope c) :: k)) cs w) = .next (lone (b.atR a (.code c :: .inScope c :: k)) cs w) :=
  step_lone_go (by simp [stepG, stepG.exec, Frame.atR])
theorem ET {b : Frame} {a : Act} {k : List Item} {cs : List Frame} {w : World} {c : Code} : step P (lone (b.atR a (.inScope c :: k)) cs w) = .next (lone (b.atR a k) cs w) :=
  step_lone_go (by simp [stepG, stepG.exec, Frame.atR])
theorem LF {F : Fence} {n : Nat} {Q : Exit -> Act -> World -> Prop} {a : Act} {w : World} {c : Code} (h : c.wpIn F n P (Exit.noGoto Q) a w) : (Code.scope c).wpIn F n P Q a w := by
  intro b k cs hro hb hr; have h0 : (lone (b.atR a (.code (.scope c) :: k)) cs w).fenced P F := fenced_calm hb hr rfl; obtain ⟨e, RW, RX, hq, MB⟩ := h b (.inScope c :: k) cs hro hb hr
  cases e with
  | normal => exact ⟨.normal, RW, RX, hq, .head h0 kO (StepsIn.trans MB (.one (fenced_calm hb hr rfl) ET))⟩
  | exit id =>
    have hx : exitTo id (.inScope c :: k) = exitTo id k := by simp [exitTo]
    exact ⟨.exit id, RW, RX, hq, fun k' hk => .head h0 kO (MB.1 k' (by rw [hx]; exact hk)),
      fun hr' hk => let ⟨k₁, h1, h2⟩ := MB.2 hr' (by rw [hx]; exact hk); ⟨k₁, h1, .head h0 kO h2⟩⟩
  | goto l => exact hq.elim
  | ret => exact ⟨_, RW, RX, hq, .of_steps (.one h0 kO) MB⟩
  | panic ch => exact ⟨_, RW, RX, hq, .of_steps (.one h0 kO) MB⟩
  | outgrown => exact ⟨_, RW, RX, hq, .of_steps (.one h0 kO) MB⟩
end Go
namespace Go.Fs
open Go.RowKit (Below)
variable {P : Program} {ρ bN : Ren} {S S' : Nat -> Prop} {B : Nat} {w0 w w' w1 w2 : World} {h h' h1 h2 : Heap}
theorem xZ (hP : kK P) {orc : FuncId -> List Value -> Heap -> Option (Value × Heap)} (kG : bX P B w0 orc) {m : Nat} {rec : Rec} (jX : nS P B w0 m rec) : lH P B w0 (dX P orc rec) := by
  intro f args h v h' hf; unfold dX at hf; split at hf
  . rename_i r hr; simp only [Option.some.injEq] at hf; subst hf; exact .inl (kG _ _ _ _ _ hr)
  split at hf
  . rename_i r hr; simp only [Option.some.injEq] at hf; subst hf; refine .inr fun ρ S w args' rR ha => ?_; unfold DI at hr; split at hr
    . rename_i fn lB; obtain ⟨hb, hr3⟩ := aL hr; obtain ⟨H5, C7⟩ := aY hb; split at hr3
      . rename_i e h1 h2; obtain ⟨nJ, hr4⟩ := aL hr3; obtain ⟨hp, rfl⟩ := fB hr4; obtain ⟨h3, h4⟩ := pY hp w; have he : args' = args := ha.dH nJ; subst he; refine ⟨w, v, ?_, ρ, aO.same rR, .mF h4⟩; unfold callFunc
        have ao6 : (fn.name == "runtime.NumGoroutine") = false := by simpa using C7
        simp only [Sem.run_bind, run_program, Result.andThen_ok, lB, H5, ao6, Bool.false_eq_true, if_false, if_true, h1, h2]; have hm : (mark (Mark.extern f)).run P w = .ok () w := rfl; rw [hm]; simp only [Result.andThen_ok, h3, Sem.run_pure]
      cases hr3
    cases hr
  exact .inl (CK hP jX _ _ _ _ _ hf)
theorem p7.same {fr : Fr} {a : Act} (hr : HR P ρ S B w0 h w) (ht : kV ρ S fr.t fr.n a.tmps) (hm : p6 ρ S fr.marks a.defers) : p7 P B w0 ρ ρ S h w fr h w a :=
  ⟨aO.same hr, ht.mono fun _ hb => ⟨.inl hb, rfl⟩, hm.mono fun _ hb => ⟨.inl hb, rfl⟩⟩
theorem G4 (hP : kK P) {orc : FuncId -> List Value -> Heap -> Option (Value × Heap)} (kG : bX P B w0 orc) {m : Nat} {rec : Rec} (jX : nS P B w0 m rec) : nS P B w0 (m + 1) (bG P orc rec) := by
  intro aV c fr h e jF h' bD hf ρ S w a nn Q hr ht hm hs k; have iJ : lH P B w0 (dX P orc rec) := xZ hP kG jX; have oM : fT P B w0 (dW rec) := CL jX
  cases c with
  | skip =>
    simp only [bG, Option.some.injEq, Prod.mk.injEq] at hf; obtain ⟨rfl, rfl, rfl⟩ := hf
    exact wpIn_skip (k _ _ _ (p7.same hr ht hm))
  | label l =>
    simp only [bG, Option.some.injEq, Prod.mk.injEq] at hf; obtain ⟨rfl, rfl, rfl⟩ := hf
    exact wpIn_label (k _ _ _ (p7.same hr ht hm))
  | exit id =>
    simp only [bG, Option.some.injEq, Prod.mk.injEq] at hf; obtain ⟨rfl, rfl, rfl⟩ := hf
    exact wpIn_exit (k _ _ _ (p7.same hr ht hm))
  | ret =>
    simp only [bG, Option.some.injEq, Prod.mk.injEq] at hf; obtain ⟨rfl, rfl, rfl⟩ := hf
    exact wpIn_ret (k _ _ _ (p7.same hr ht hm))
  | goto l => simp only [bG] at hf; cases hf
  | refuse l => simp only [bG] at hf; cases hf
  | scope b =>
    simp only [bG] at hf; refine LF ?_; refine (jX aV b fr h e jF h' bD hf ρ S w a nn _ hr ht hm hs fun cQ w1 a1 p1 => ?_).wpIn; have hq := k _ _ _ p1
    cases e with
    | normal => exact hq
    | exit id => exact hq
    | ret => exact hq
  | seq x y =>
    simp only [bG] at hf; obtain ⟨RY, VX⟩ := aY (show (codeOk x && codeOk y) = true from bD); refine wpIn_seq ?_; split at hf
    . rename_i fr1 h1 eZ; refine (jX aV x fr h _ fr1 h1 RY eZ ρ S w a nn _ hr ht hm hs fun cQ w1 a1 p1 => ?_).wpIn; show y.wpIn (tR ρ aV) nn P Q a1 w1; rw [<- RR hs p1.bY.agree]; exact (jX aV y fr1 h1 e jF h' VX hf cQ _ w1 a1 nn Q p1.bY.hr p1.tmps p1.marks (fun l hl => .inl (hs l hl)) fun j8 w2 a2 p2 => k _ _ _ (p7.trans (fr1 := fr1) (a1 := a1) p1.bY p2)).wpIn
    rename_i cL; refine (jX aV x fr h e jF h' RY hf ρ S w a nn _ hr ht hm hs fun cQ w1 a1 p1 => ?_).wpIn; have hq := k _ _ _ p1
    cases e with
    | normal => exact (cL _ _ hf).elim
    | exit id => exact hq
    | ret => exact hq
  | cond x y z =>
    simp only [bG] at hf; obtain ⟨RY, VX⟩ := aY (show (codeOk y && codeOk z) = true from bD); have bK := ht.eval a.defers x; split at hf
    . rename_i hx; rw [hx] at bK; exact wpIn_cond_true bK.uR (jX aV y fr h e jF h' RY hf ρ S w a nn Q hr ht hm hs k).wpIn
    . rename_i hx; rw [hx] at bK; exact wpIn_cond_false bK.uR (jX aV z fr h e jF h' VX hf ρ S w a nn Q hr ht hm hs k).wpIn
    cases hf
  | block id b =>
    simp only [bG] at hf; refine wpIn_block ?_; split at hf
    . rename_i x7 fr1 h1 eZ; refine (jX aV b fr h _ fr1 h1 bD eZ ρ S w a nn _ hr ht hm hs fun cQ w1 a1 p1 => ?_).wpIn
      cases hb : Nat.beq x7 id with
      | true =>
        rw [hb] at hf; simp only [cond_true, Option.some.injEq, Prod.mk.injEq] at hf; obtain ⟨rfl, rfl, rfl⟩ := hf; have := k _ _ _ p1; simp only [RQ, Exit.inBlock, bI hb, if_true]
        exact this
      | false =>
        rw [hb] at hf; simp only [cond_false, Option.some.injEq, Prod.mk.injEq] at hf; obtain ⟨rfl, rfl, rfl⟩ := hf; have := k _ _ _ p1; simp only [RQ, Exit.inBlock, if_neg (fS hb)]; exact this
    rename_i cL; refine (jX aV b fr h e jF h' bD hf ρ S w a nn _ hr ht hm hs fun cQ w1 a1 p1 => ?_).wpIn; have hq := k _ _ _ p1
    cases e with
    | normal => exact hq
    | exit x7 => exact (cL _ _ _ hf).elim
    | ret => exact hq
  | loop b =>
    simp only [bG] at hf; show Code.roundsIn (tR ρ aV) nn P b Q (m + 1) a w; rw [roundsIn_succ]; split at hf
    . rename_i fr1 h1 eZ; refine (jX aV b fr h _ fr1 h1 bD eZ ρ S w a nn _ hr ht hm hs fun cQ w1 a1 p1 => ?_).wpIn; show Code.roundsIn (tR ρ aV) nn P b Q m a1 w1; rw [<- RR hs p1.bY.agree]; exact jX aV (.loop b) fr1 h1 e jF h' bD hf cQ _ w1 a1 nn Q p1.bY.hr p1.tmps p1.marks (fun l hl => .inl (hs l hl)) fun j8 w2 a2 p2 => k _ _ _ (p7.trans (fr1 := fr1) (a1 := a1) p1.bY p2)
    rename_i cL; refine (jX aV b fr h e jF h' bD hf ρ S w a nn _ hr ht hm hs fun cQ w1 a1 p1 => ?_).wpIn; have hq := k _ _ _ p1
    cases e with
    | normal => exact (cL _ _ hf).elim
    | exit id => exact hq
    | ret => exact hq
  | region id ops draw =>
    cases draw with
    | false =>
      simp only [bG] at hf; split at hf
      . rename_i t h1 eZ; simp only [Option.some.injEq, Prod.mk.injEq] at hf; obtain ⟨rfl, rfl, rfl⟩ := hf; refine wpIn_region ?_; exact OL (step := rC P (dX P orc rec) (dW rec)) rfl iJ oM _ _ ρ S w a fr.t h V7 hr ht eZ fun cQ w1 a1 m1 CB DQ => k _ _ _ ⟨m1, CB, by rw [DQ]; exact hm.mono fun b hb => ⟨.inl hb, m1.agree b hb⟩⟩
      cases hf
    | true =>
      simp only [bG] at hf
      cases hl : AO ops with
      | false =>
        rw [hl] at hf; simp only [cond_false] at hf; split at hf
        . rename_i s eZ; simp only [Option.some.injEq, Prod.mk.injEq] at hf; obtain ⟨rfl, rfl, rfl⟩ := hf; refine wpIn_region_draw fun t => ?_; rw [hP.mixed]; exact aaV (call := dX P orc rec) (yield := dW rec) iJ oM bD eZ (hr.drew _) ht (fun cQ w1 a1 m1 CB DQ => k _ _ _ ⟨aO.vW m1, CB, by rw [DQ]; exact hm.mono fun b hb => ⟨.inl hb, m1.agree b hb⟩⟩) t
        cases hf
      | true =>
        rw [hl] at hf; simp only [cond_true] at hf; split at hf
        . rename_i s eZ; simp only [Option.some.injEq, Prod.mk.injEq] at hf; obtain ⟨rfl, rfl, rfl⟩ := hf; refine wpIn_region_draw fun t => ?_; rw [hP.mixed]; exact VW (call := dX P orc rec) (yield := dW rec) iJ oM bD eZ (hr.drew _) ht (fun cQ w1 a1 m1 CB DQ => k _ _ _ ⟨aO.vW m1, CB, by rw [DQ]; exact hm.mono fun b hb => ⟨.inl hb, m1.agree b hb⟩⟩) t
        cases hf
  | rangeFunc g ps assign body =>
    simp only [bG] at hf; obtain ⟨RY, VX⟩ := aY (show (codeOk assign && codeOk body) = true from bD); exact ES hP jX RY VX hf hr ht hm hs k
theorem G5 (hP : kK P) {orc : FuncId -> List Value -> Heap -> Option (Value × Heap)} (kG : bX P B w0 orc) : ∀ m, nS P B w0 m (dA P orc m)
  | 0 => fun aV c fr h e jF h' _ hf => by cases hf
  | m + 1 => G4 hP kG (G5 hP kG m)
end Go.Fs
namespace Go.Fs
open Go.RowKit (Below)
variable {P : Program}
theorem adQ (hP : kK P) {B : Nat} {w0 w : World} {orc : FuncId -> List Value -> Heap -> Option (Value × Heap)} (kG : bX P B w0 orc) {ρ : Ren} {S : Nat -> Prop} {h : Heap} {f : FuncId} {args args' : List Value} {v : Value}
    (hE : Enters P f) (hr : HR P ρ S B w0 h w) (ha : LR ρ S args args') (he : oS P orc f args h fun u _ => u = v) (hv : af v = true) : Calls P f args'.toArray w fun | .returned v', w' => v' = v /\ Below B w0 w' | _, _ => False := by
  obtain ⟨m, u, h', h1, rfl⟩ := he
  have hc : CallsIn Fence.wide 0 P f args'.toArray w (wW P B w0 ρ S h w u h') := by
    rcases xZ hP kG (G5 hP kG m) f args h u h' h1 with h2 | h2
    . exact h2.2 ρ S w args' hr ha 0
    obtain ⟨w', v', h3, _⟩ := h2 ρ S w args' hr ha; rw [uG hE] at h3; simp at h3
  refine Calls.mono (callsIn_wide.1 hc) fun e w' he => ?_
  cases e with
  | returned v' =>
    obtain ⟨bN, m1, B2⟩ := he
    exact ⟨B2.dH hv, m1.hr.below⟩
  | panicked c => exact he.elim
  | outgrown => exact he.elim
end Go.Fs
namespace Go.Fs
open Go.RowKit (Below)
variable {P : Program}
def A8 : Nat -> Nat -> List UInt8
  | 0, _ => []
  | f + 1, n => bif Nat.blt n 10 then [UInt8.ofNat (48 + n)] else A8 f (n / 10) ++ [UInt8.ofNat (48 + n % 10)]
def B3 (n : Int) : List UInt8 := match n with
  | .ofNat k => A8 20 k
  | .negSucc k => 45 :: A8 20 (k + 1)
def rH (sep : List UInt8) : List (List UInt8) -> List UInt8
  | [] => []
  | [w] => w
  | w :: r => w ++ sep ++ rH sep r
def strs : List Value -> Option (List ByteArray)
  | [] => some []
  | .string s :: r => (strs r).map (s :: ·)
  | _ => none
theorem JC : ∀ (f n : Nat), n < 10 ^ (f + 1) -> A8 (f + 1) n = Lib.decDigits n
  | f, n, h => by
    unfold A8 Lib.decDigits
    cases hb : Nat.blt n 10 with
    | true => rw [dif_pos (jB hb)]; rfl
    | false =>
      have h1 : ¬ n < 10 := by have := gR hb; omega
      rw [dif_neg h1]; simp only [cond_false]
      cases f with
      | zero => simp at h; omega
      | succ f => rw [JC f (n / 10) (by rw [Nat.pow_succ] at h; omega)]
theorem MC {n : Int} (h0 : -1000000000000000000 < n) (h1 : n < 1000000000000000000) : B3 n = Lib.itoa n := by
  unfold Lib.itoa
  cases n with
  | ofNat k =>
    rw [if_neg (by simp)]; show A8 20 k = _; rw [JC 19 k (by have : (k : Int) < 1000000000000000000 := h1; have : (10 : Nat) ^ (19 + 1) = 100000000000000000000 := (by decide); omega)]
    rfl
  | negSucc k =>
    rw [if_pos (by omega)]; show 45 :: A8 20 (k + 1) = _; rw [JC 19 (k + 1) (by have h2 : -1000000000000000000 < Int.negSucc k := h0; have : (10 : Nat) ^ (19 + 1) = 100000000000000000000 := (by decide); omega)]; rfl
theorem EU (sep : List UInt8) : ∀ xs : List (List UInt8), rH sep xs = Lib.join xs sep
  | [] => rfl
  | [w] => by rw [Lib.join_one]; rfl
  | w :: v :: r => by
    rw [Lib.join_cons]; simp only [rH]; rw [EU sep (v :: r), Lib.join_cons]; simp [Lib.joinTail]
def A9 (fi fj : FuncId) : FuncId -> List Value -> Heap -> Option (Value × Heap) := fun f xs h =>
  bif Nat.beq f fi then
    match xs with
    | [.int .i64 n] => bif decide (-1000000000000000000 < n) && decide (n < 1000000000000000000) then some (.string ⟨(B3 n).toArray⟩, h) else none
    | _ => none
  else bif Nat.beq f fj then
    match xs with
    | [.slice (some ⟨b, o, none⟩) n _, .string sep] =>
      match h.get b with
      | some (.row _ cs _ _) =>
        bif Nat.ble (o + n) cs.length && Nat.ble n 1000000 then
          match strs ((cs.drop o).take n) with
          | some ss => let r := rH sep.data.toList (ss.map (·.data.toList))
            bif Nat.ble r.length 1000000000 then some (.string ⟨r.toArray⟩, h) else none
          | none => none
        else none
      | _ => none
    | _ => none
  else none
variable {B : Nat} {w0 w w' : World} {ρ : Ren} {S : Nat -> Prop} {h : Heap}
theorem RZ : ∀ (cs cs' : List Value) (ss : List ByteArray), LR ρ S cs cs' -> strs cs = some ss -> cs' = ss.map .string
  | [], cs', ss, hl, hs => by
    simp only [strs, Option.some.injEq] at hs; subst hs
    exact List.eq_nil_of_length_eq_zero hl.1.symm
  | v :: r, [], ss, hl, _ => by have := hl.1; simp at this
  | v :: r, v' :: r', ss, hl, hs => by
    unfold strs at hs; split at hs
    . rename_i he; cases he
    . rename_i s r0 he; simp only [List.cons.injEq] at he; obtain ⟨rfl, rfl⟩ := he; obtain ⟨ss0, h1, rfl⟩ := Option.map_eq_some_iff.1 hs; have hv : VR ρ S (.string s) v' := hl.2 0 (by simp); have hr : LR ρ S r r' := ⟨by have := hl.1; simpa using this, fun i hi => by have := hl.2 (i + 1) (by simp; omega); simpa using this⟩; rw [hv.mH, RZ r r' ss0 hr h1]; rfl
    cases hs
theorem S3 {fi fj : FuncId} (hz : w0.drawn = 0) (hi : Enters P fi) (hj : Enters P fj)
    (hI : ∀ (n : Int) (w : World), Below B w0 w -> -9223372036854775808 <= n -> n <= 9223372036854775807 -> Calls P fi #[.int .i64 n] w fun e w' => e = .returned (.string ⟨(Lib.itoa n).toArray⟩) /\ Below w.heap.size w w')
    (hJ : ∀ (bk o c : Nat) (xs : List ByteArray) (sep : ByteArray) (w : World), (∀ (j : Nat) x, xs[j]? = some x -> w.cell? ⟨bk, o + j, none⟩ = some (.string x)) -> bk < w.heap.size -> xs.length <= 140737488355328 -> xs.length <= c ->
      (Lib.join (xs.map (·.data.toList)) sep.data.toList).length <= 140737488355328 ->
      Calls P fj #[.slice (some ⟨bk, o, none⟩) xs.length c, .string sep] w fun e w' => e = .returned (.string ⟨(Lib.join (xs.map (·.data.toList)) sep.data.toList).toArray⟩) /\ Below w.heap.size w w') :
    bX P B w0 (A9 fi fj) := by
  intro f xs h v h' hf; unfold A9 at hf
  cases S4 : Nat.beq f fi with
  | true =>
    have := bI S4; subst this; rw [S4] at hf; simp only [cond_true] at hf; split at hf
    . rename_i n; obtain ⟨hc, cO⟩ := aL hf; obtain ⟨h0, h1⟩ := aY hc; have h0 := of_decide_eq_true h0; have h1 := of_decide_eq_true h1; simp only [Option.some.injEq, Prod.mk.injEq] at cO; obtain ⟨rfl, rfl⟩ := cO; refine ⟨hi, fun ρ S w args' hr ha nn => ?_⟩; have he : args' = [.int .i64 n] := ha.dH (by rfl); subst he; have hC : CallsIn Fence.wide nn P f #[.int .i64 n] w _ := callsIn_wide.2 (hI n w hr.below (by omega) (by omega)); refine hC.mono fun e w' nN => ?_; obtain ⟨rfl, hb⟩ := nN; exact ⟨ρ, aO.vT hr hb (by rw [hz]; exact Nat.zero_le _), by rw [MC h0 h1]; exact .lit rfl⟩
    cases hf
  | false =>
    rw [S4] at hf; simp only [cond_false] at hf; obtain ⟨hfj, cO⟩ := aL hf; have := bI hfj; subst this; clear hf; split at cO
    . rename_i b o n mk sep; split at cO
      . rename_i e cs own more hg; obtain ⟨hc, oZ⟩ := aL cO; obtain ⟨hle, hn⟩ := aY hc; have hle := dY hle; have hn := dY hn; split at oZ
        . rename_i ss hss; obtain ⟨hlen, AU⟩ := aL oZ; have hlen := dY hlen; simp only [Option.some.injEq, Prod.mk.injEq] at AU; obtain ⟨rfl, rfl⟩ := AU; refine ⟨hj, fun ρ S w args' hr ha nn => ?_⟩
          match args', ha with
          | [x', s'], ha =>
            have hx : VR ρ S (.slice (some ⟨b, o, none⟩) n mk) x' := ha.2 0 (by simp); have hs : VR ρ S (.string sep) s' := ha.2 1 (by simp); obtain ⟨A, c, rfl, hnc, _, _, hb⟩ := hx.gF; obtain rfl := hs.mH; have jI : b ≠ 0 := (hr.ids b (hr.aA b _ hg).1).2; obtain ⟨_, rfl, _⟩ := hb jI; have kZ := (hr.aA b _ hg).2
            have b7 : (ρ b).block < w.heap.size := by
              by_cases jT : iB (.row e cs own more) = true
              . exact kZ.lt jT
              have := hr.ro b _ hg (by simpa using jT); have := hr.size; omega
            have hlr : LR ρ S ((cs.drop o).take n) ((List.range n).map fun j => (w.cell? ((ρ b).at (o + j))).getD undef) := by
              refine LR.of_get? (by simp; omega) fun i v v' hv lF => ?_; rw [List.getElem?_take] at hv; split at hv
              . rename_i uD; rw [List.getElem?_drop] at hv; obtain ⟨u, h1, h2⟩ := kZ.cell (i := o + i) (by omega); simp [uD, h1] at lF; subst lF
                have : cs.getD (o + i) undef = v := by simp [List.getD, hv]
                rwa [this] at h2
              cases hv
            have heq := RZ _ _ ss hlr hss
            have zX : ss.length = n := by
              have := congrArg List.length heq; simp at this; omega
            have bO : ∀ (j : Nat) x, ss[j]? = some x -> w.cell? ⟨(ρ b).block, (ρ b).off + o + j, none⟩ = some (.string x) := fun j x B0 => by
              have R2 : j < n := by have := (List.getElem?_eq_some_iff.1 B0).1; omega
              obtain ⟨u, h1, h2⟩ := kZ.cell (i := o + j) (by omega); have h3 := congrArg (·[j]?) heq; simp [R2, B0, h1] at h3; subst h3; simpa [Loc.at, Nat.add_assoc] using h1
            rw [EU] at hlen; have hC : CallsIn Fence.wide nn P f #[.slice (some ⟨(ρ b).block, (ρ b).off + o, none⟩) ss.length c, .string sep] w _ := callsIn_wide.2 (hJ (ρ b).block ((ρ b).off + o) c ss sep w bO b7 (by omega) (by omega) (by omega)); rw [zX] at hC; refine hC.mono fun e w' nN => ?_; obtain ⟨rfl, hb⟩ := nN; exact ⟨ρ, aO.vT hr hb (by rw [hz]; exact Nat.zero_le _), by rw [EU]; exact .lit rfl⟩
        cases oZ
      cases cO
    cases cO
end Go.Fs
namespace Go.Fs
open Go.RowKit (Below)
variable {P : Program}
def YC (fi fj fa : FuncId) : FuncId -> List Value -> Heap -> Option (Value × Heap) := fun f xs h =>
  bif Nat.beq f fa then
    match xs with
    | [] => some (.bool true, h)
    | _ => none
  else A9 fi fj f xs h
theorem S5 {B : Nat} {w0 : World} {fi fj fa : FuncId} (hz : w0.drawn = 0) (hS : bX P B w0 (A9 fi fj)) (ha : Enters P fa)
    (hA : ∀ w, Below B w0 w -> Calls P fa #[] w fun | .returned v', w' => v' = .bool true /\ Below w.heap.size w w' | _, _ => False) : bX P B w0 (YC fi fj fa) := by
  intro f xs h v h' hf; unfold YC at hf
  cases hb : Nat.beq f fa with
  | true =>
    have := bI hb; subst this; rw [hb] at hf; simp only [cond_true] at hf; split at hf
    . simp only [Option.some.injEq, Prod.mk.injEq] at hf; obtain ⟨rfl, rfl⟩ := hf; refine ⟨ha, fun ρ S w args' hr har nn => ?_⟩; have he : args' = [] := List.eq_nil_of_length_eq_zero har.1.symm; subst he; have hC : CallsIn Fence.wide nn P f #[] w _ := callsIn_wide.2 (hA w hr.below); refine hC.mono fun e w' nN => ?_
      cases e with
      | returned v' =>
        obtain ⟨rfl, hb⟩ := nN
        exact ⟨ρ, aO.vT hr hb (by rw [hz]; exact Nat.zero_le _), .lit rfl⟩
      | panicked c => exact nN.elim
      | outgrown => exact nN.elim
    cases hf
  | false =>
    rw [hb] at hf; exact hS f xs h v h' hf
end Go.Fs
namespace Go.Fs
open Go.RowKit (Below)
open Go.Sort Go.Proofs
variable {P : Program}
variable {B : Nat} {w0 w w' : World} {ρ : Ren} {S : Nat -> Prop} {h : Heap}
end Go.Fs
namespace Go.Fs
open Go.RowKit (Below)
open Go.Sort Go.Proofs
variable {P : Program}
structure apY (srt : List Value -> Option (List Value)) : Prop where
  len : ∀ vs gZ, srt vs = some gZ -> gZ.length = vs.length
  ino : ∀ vs gZ, srt vs = some gZ -> vs.all eN = true
  out : ∀ vs gZ, srt vs = some gZ -> gZ.all eN = true
variable {B : Nat} {w0 w w' : World} {ρ : Ren} {S : Nat -> Prop} {h : Heap}
end Go.Fs
namespace Go.Fs
open Go.RowKit (Below)
open Go.Sort Go.Proofs
variable {P : Program}
def ints : List Value -> Option (List Int)
  | [] => some []
  | .int .i64 n :: r => (ints r).map (n :: ·)
  | _ => none
variable {B : Nat} {w0 w w' : World} {ρ : Ren} {S : Nat -> Prop} {h : Heap}
end Go.Fs
namespace Go.Fs
open Go.RowKit (Below)
open Go.Proofs
variable {P : Program}
def G6 (fc : FuncId) (tb : TypeId) (O : FuncId -> List Value -> Heap -> Option (Value × Heap)) : FuncId -> List Value -> Heap -> Option (Value × Heap) := fun f xs h =>
  bif Nat.beq f fc then
    match xs with
    | [.pointer (some ⟨b, 0, none⟩)] =>
      match h.get b with
      | some (.row e [.pointer none, u] true false) => bif Nat.beq e tb then some (.tuple #[], h.set b (.row e [.pointer (some ⟨b, 0, none⟩), u] true false)) else none
      | some (.row e [.pointer (some ⟨b', 0, none⟩), u] true false) => bif Nat.beq b' b && Nat.beq e tb then some (.tuple #[], h) else none
      | _ => none
    | _ => none
  else O f xs h
variable {B : Nat} {w0 w w' : World} {ρ : Ren} {S : Nat -> Prop} {h : Heap}
theorem aiZ {x : Value} (h : VR ρ S (.pointer none) x) : x = .pointer none := by
  cases h with
  | lit _ => rfl
theorem P6 {b o : Nat} {x : Value} (h : VR ρ S (.pointer (some ⟨b, o, none⟩)) x) : S b /\ x = .pointer (some ((ρ b).at o)) := by
  cases h with
  | lit h => cases h
  | ptr b o hs => exact ⟨hs, rfl⟩
theorem S6 {fc : FuncId} {tb : TypeId} {O : FuncId -> List Value -> Heap -> Option (Value × Heap)} (hO : bX P B w0 O) (hs : Enters P fc)
    (hF : ∀ (b : Nat) (w : World), w.cell? ⟨b, 0, none⟩ = some (.pointer none) -> w.shape? b = some (tb, 2) -> w.frozen? ⟨b, 0, none⟩ = false -> Calls P fc #[.pointer (some ⟨b, 0, none⟩)] w fun e w' => e = .returned (.tuple #[]) /\ w' = w.setCell ⟨b, 0, none⟩ (.pointer (some ⟨b, 0, none⟩)))
    (hU : ∀ (b : Nat) (w : World), w.cell? ⟨b, 0, none⟩ = some (.pointer (some ⟨b, 0, none⟩)) -> Calls P fc #[.pointer (some ⟨b, 0, none⟩)] w fun e w' => e = .returned (.tuple #[]) /\ w' = w) : bX P B w0 (G6 fc tb O) := by
  intro f xs h v h' hf; unfold G6 at hf
  cases hb : Nat.beq f fc with
  | false =>
    rw [hb] at hf
    exact hO f xs h v h' hf
  | true =>
    have := bI hb; subst this; rw [hb] at hf; simp only [cond_true] at hf; split at hf
    . rename_i b; split at hf
      . rename_i e u hg; obtain ⟨hc, cO⟩ := aL hf; clear hf; have he := bI hc; subst he; simp only [Option.some.injEq, Prod.mk.injEq] at cO; obtain ⟨rfl, rfl⟩ := cO; refine ⟨hs, fun ρ S w args' hr ha nn => ?_⟩
        match args', ha with
        | [x'], ha =>
          have hx : VR ρ S (.pointer (some ⟨b, 0, none⟩)) x' := ha.2 0 (by simp); obtain ⟨hSb, rfl⟩ := P6 hx; obtain ⟨_, cur, h1, h2, h3, h4, h5, h6, h7⟩ := hr.aA b _ hg
          have rE : (ρ b).at 0 = ⟨(ρ b).block, 0, none⟩ := by simp [Loc.at, h2]
          have hl : cur.length = 2 := (h6 rfl).symm
          match cur, hl with
          | [c0, c1], _ =>
            have k0 : c0 = .pointer none := aiZ (h7 0 (by simp)); have k1 : VR ρ S u c1 := h7 1 (by simp); subst k0; have hC : CallsIn Fence.wide nn P f #[.pointer (some ⟨(ρ b).block, 0, none⟩)] w _ := callsIn_wide.2 (hF (ρ b).block w (by simp [World.cell?, h1]) (by simp [World.shape?, h1]) (vU h1 (by rw [h3]; simp))); rw [rE]; refine hC.mono fun e' w' nN => ?_; obtain ⟨rfl, rfl⟩ := nN; refine ⟨ρ, aO.set hr hg rfl rfl rfl rfl rfl (by simp [World.setCell]) (fun k hk => by simp [World.setCell, Array.getElem?_modify, Ne.symm hk]) ?_, VR.undef⟩; refine ⟨[.pointer (some ⟨(ρ b).block, 0, none⟩), c1], ?_, h2, by rw [h3]; rfl, h4, Nat.le_refl _, fun _ => rfl, fun i hi => ?_⟩
            . simp [World.setCell, Array.getElem?_modify, h1]
            match i, hi with
            | 0, _ =>
              have := VR.ptr (ρ := ρ) (S := S) b 0 hSb; rw [rE] at this
              exact this
            | 1, _ => exact k1
      . rename_i e b' u hg; obtain ⟨hc, cO⟩ := aL hf; clear hf; obtain ⟨uS, mS⟩ := aY hc; have AS := bI uS; subst AS; simp only [Option.some.injEq, Prod.mk.injEq] at cO; obtain ⟨rfl, rfl⟩ := cO; refine ⟨hs, fun ρ S w args' hr ha nn => ?_⟩
        match args', ha with
        | [x'], ha =>
          have hx := P6 (ha.2 0 (by simp)); obtain ⟨hSb, xN⟩ := hx; have xN : x' = _ := xN; subst xN; obtain ⟨_, cur, h1, h2, h3, h4, h5, h6, h7⟩ := hr.aA _ _ hg; have hl : cur.length = 2 := (h6 rfl).symm
          match cur, hl with
          | [c0, c1], _ =>
            obtain ⟨_, k0⟩ := P6 (h7 0 (by simp)); have k0 : c0 = _ := k0; subst k0
            have rE : (ρ b').at 0 = ⟨(ρ b').block, 0, none⟩ := by simp [Loc.at, h2]
            rw [rE] at h1; have hC : CallsIn Fence.wide nn P f #[.pointer (some ⟨(ρ b').block, 0, none⟩)] w _ := callsIn_wide.2 (hU (ρ b').block w (by simp [World.cell?, h1])); show CallsIn _ _ _ _ #[.pointer (some ((ρ b').at 0))] _ _; rw [rE]; refine hC.mono fun e' w' nN => ?_; obtain ⟨rfl, rfl⟩ := nN; exact ⟨ρ, aO.same hr, VR.undef⟩
      cases hf
    cases hf
end Go.Fs
namespace Go.Fs
variable {P : Program} {h h' h0 h1 h2 : Heap} {S S' : List Nat}
inductive Ty where
  | int (k : IntKind)
  | bool
  | str
  | rV (k : FloatKind)
  | sl (e : Ty)
  | pair (a b : Ty)
  | unit
  | mp (a b : Ty)
  | fn
  | kP
@[reducible] def Ty.den : Ty -> Type
  | .int _ => Int
  | .bool => Bool
  | .str => ByteArray
  | .rV _ => Nat
  | .sl e => List e.den
  | .pair a b => a.den × b.den
  | .unit => Unit
  | .mp a b => List (a.den × b.den)
  | .fn => Option Nat
  | .kP => Option (Nat × Nat)
def Ty.size : Ty -> Nat
  | .pair a b => a.size + b.size
  | .unit => 0
  | _ => 1
def Ty.agg : Ty -> Bool
  | .pair _ _ | .unit => true
  | _ => false
def SlC (h : Heap) (S : List Nat) {α : Type} (s : Nat) (R : List Value -> α -> Prop) (v : Value) (xs : List α) : Prop :=
  (v = .slice none 0 0 /\ xs = []) \/ ∃ b o mk, v = .slice (some ⟨b, o, none⟩) xs.length mk /\
    (xs = [] \/ (b ∉ S /\ ∃ e' rs own more, h.get b = some (.row e' rs own more) /\ o + xs.length * s <= rs.length /\ ∀ i (hi : i < xs.length), R ((rs.drop (o + i * s)).take s) xs[i]))
def VY (h : Heap) (S : List Nat) {α β : Type} (K : Value -> α -> Prop) (R : Value -> β -> Prop) (v : Value) (kvs : List (α × β)) : Prop :=
  (v = .map none /\ kvs = []) \/ ∃ b es clock, v = .map (some b) /\ b ∉ S /\ h.get b = some (.nG es clock) /\ es.length = kvs.length /\ ∀ i (hi : i < kvs.length) (hj : i < es.length), K es[i].key kvs[i].1 /\ R es[i].val kvs[i].2
def gO : Value -> Bool
  | .agg _ => true
  | _ => false
def S7 : Option Nat -> Value
  | none => .nilFunc
  | some f => .func (.func f) #[] #[]
def CO : Option (Nat × Nat) -> Value
  | none => .slice none 0 0
  | some (b, n) => .slice (some ⟨b, 0, none⟩) n 0
def cR (h : Heap) (S : List Nat) : (τ : Ty) -> List Value -> τ.den -> Prop
  | .int k, cs, x => cs = [.int k x]
  | .bool, cs, x => cs = [.bool x]
  | .str, cs, x => cs = [.string x]
  | .rV k, cs, x => cs = [.float k x]
  | .sl e, cs, xs => ∃ v, cs = [v] /\ SlC h S e.size (cR h S e) v xs
  | .pair a b, cs, x => cR h S a (cs.take a.size) x.1 /\ cR h S b (cs.drop a.size) x.2
  | .unit, cs, _ => cs = []
  | .mp a b, cs, x => ∃ v, cs = [v] /\ VY h S (fun k y => gO k = a.agg /\ cR h S a k.cells.toList y) (fun u y => gO u = b.agg /\ cR h S b u.cells.toList y) v x
  | .fn, cs, f => cs = [S7 f]
  | .kP, cs, f => cs = [CO f]
def aF (h : Heap) (S : List Nat) (τ : Ty) (v : Value) (x : τ.den) : Prop := gO v = τ.agg /\ cR h S τ v.cells.toList x
theorem eJ {v : Value} (hv : gO v = false) : v.cells = #[v] := by
  cases v with
  | agg cs => cases hv
  | _ => rfl
theorem aF.int {k : IntKind} {v : Value} {x : Int} (hv : aF h S (.int k) v x) : v = .int k x := by
  obtain ⟨h1, h2⟩ := hv; rw [eJ h1] at h2; simpa [cR] using h2
theorem aF.bool {v : Value} {x : Bool} (hv : aF h S .bool v x) : v = .bool x := by
  obtain ⟨h1, h2⟩ := hv; rw [eJ h1] at h2; simpa [cR] using h2
theorem aF.str {v : Value} {x : ByteArray} (hv : aF h S .str v x) : v = .string x := by
  obtain ⟨h1, h2⟩ := hv; rw [eJ h1] at h2; simpa [cR] using h2
theorem aF.ofInt (k : IntKind) (x : Int) : aF h S (.int k) (.int k x) x := ⟨rfl, rfl⟩
theorem aF.ofBool (x : Bool) : aF h S .bool (.bool x) x := ⟨rfl, rfl⟩
theorem aF.ofStr (x : ByteArray) : aF h S .str (.string x) x := ⟨rfl, rfl⟩
theorem aF.alO (k : FloatKind) (x : Nat) : aF h S (.rV k) (.float k x) x := ⟨rfl, rfl⟩
def lW (h : Heap) (S : List Nat) (τ : Ty) (v : Value) (xs : List τ.den) : Prop := SlC h S τ.size (cR h S τ) v xs
theorem aF.sl {τ : Ty} {v : Value} {xs : List τ.den} (hv : aF h S (.sl τ) v xs) : lW h S τ v xs := by
  obtain ⟨h1, h2⟩ := hv; rw [eJ h1] at h2; obtain ⟨u, h3, h4⟩ := h2; simp only [List.cons.injEq, and_true] at h3; subst h3; exact h4
theorem lW.agg {τ : Ty} {v : Value} {xs : List τ.den} (hv : lW h S τ v xs) : gO v = false := by
  rcases hv with ⟨rfl, _⟩ | ⟨b, o, mk, rfl, _⟩ <;> rfl
theorem lW.rep {τ : Ty} {v : Value} {xs : List τ.den} (hv : lW h S τ v xs) : aF h S (.sl τ) v xs :=
  ⟨hv.agg, by rw [eJ hv.agg]; exact ⟨v, rfl, hv⟩⟩
theorem lW.nil {τ : Ty} : lW h S τ (.slice none 0 0) [] := .inl ⟨rfl, rfl⟩
def cH (h : Heap) (S : List Nat) (h' : Heap) (S' : List Nat) : Prop := ∀ b o, h.get b = some o -> b ∉ S -> h'.get b = some o /\ b ∉ S'
theorem cH.trans {S'' : List Nat} (a : cH h S h1 S') (b : cH h1 S' h2 S'') : cH h S h2 S'' := fun i o h1 h2 => let ⟨h3, h4⟩ := a i o h1 h2; b i o h3 h4
theorem cH.less (hs : ∀ b, b ∈ S' -> b ∈ S) : cH h S h S' := fun _ _ h1 h2 => ⟨h1, fun h3 => h2 (hs _ h3)⟩
theorem cH.aA (hg : ∀ b, h'.get b = h.get b) : cH h S h' S := fun b _ h1 h2 => ⟨by rw [hg]; exact h1, h2⟩
theorem eU.nx (a : eU h h') (bD : mU h) : cH h S h' S := fun b o h1 h2 => ⟨by rw [a.get b (bD b o h1)]; exact h1, h2⟩
theorem SlC.nx {α : Type} {s : Nat} {R R' : List Value -> α -> Prop} (hN : cH h S h' S') (hR : ∀ cs x, R cs x -> R' cs x) {v : Value} {xs : List α} (hv : SlC h S s R v xs) : SlC h' S' s R' v xs := by
  rcases hv with hv | ⟨b, o, mk, h1, h2⟩
  . exact .inl hv
  refine .inr ⟨b, o, mk, h1, ?_⟩; rcases h2 with h2 | ⟨h2, e', rs, own, more, h3, h4, h5⟩
  . exact .inl h2
  obtain ⟨h6, h7⟩ := hN b _ h3 h2; exact .inr ⟨h7, e', rs, own, more, h6, h4, fun i hi => hR _ _ (h5 i hi)⟩
theorem VY.nx {α β : Type} {K K' : Value -> α -> Prop} {R R' : Value -> β -> Prop} (hN : cH h S h' S') (hK : ∀ u x, K u x -> K' u x) (hR : ∀ u x, R u x -> R' u x) {v : Value} {kvs : List (α × β)} (hv : VY h S K R v kvs) : VY h' S' K' R' v kvs := by
  rcases hv with hv | ⟨b, es, c, h1, h2, h3, h4, h5⟩
  . exact .inl hv
  obtain ⟨h6, h7⟩ := hN b _ h3 h2; exact .inr ⟨b, es, c, h1, h7, h6, h4, fun i hi hj => ⟨hK _ _ (h5 i hi hj).1, hR _ _ (h5 i hi hj).2⟩⟩
theorem cR.nx (hN : cH h S h' S') : ∀ {τ : Ty} {cs : List Value} {x : τ.den}, cR h S τ cs x -> cR h' S' τ cs x := by
  intro τ
  induction τ with
  | int k => exact fun hx => hx
  | bool => exact fun hx => hx
  | str => exact fun hx => hx
  | rV k => exact fun hx => hx
  | unit => exact fun hx => hx
  | pair a b wB wC => exact fun hx => ⟨wB hx.1, wC hx.2⟩
  | sl e ih =>
    rintro cs x ⟨v, h1, h2⟩
    exact ⟨v, h1, h2.nx hN fun cs x hx => ih hx⟩
  | fn => exact fun hx => hx
  | kP => exact fun hx => hx
  | mp a b wB wC =>
    rintro cs x ⟨v, h1, h2⟩; exact ⟨v, h1, h2.nx hN (fun u x hx => ⟨hx.1, wB hx.2⟩) fun u x hx => ⟨hx.1, wC hx.2⟩⟩
theorem aF.nx {τ : Ty} {v : Value} {x : τ.den} (hv : aF h S τ v x) (hN : cH h S h' S') : aF h' S' τ v x := ⟨hv.1, hv.2.nx hN⟩
theorem cR.len : ∀ {τ : Ty} {cs : List Value} {x : τ.den}, cR h S τ cs x -> cs.length = τ.size := by
  intro τ
  induction τ with
  | int k => rintro cs x rfl; rfl
  | bool => rintro cs x rfl; rfl
  | str => rintro cs x rfl; rfl
  | rV k => rintro cs x rfl; rfl
  | unit => rintro cs x rfl; rfl
  | sl e ih => rintro cs x ⟨v, rfl, _⟩; rfl
  | fn => rintro cs x rfl; rfl
  | kP => rintro cs x rfl; rfl
  | mp a b _ _ => rintro cs x ⟨v, rfl, _⟩; rfl
  | pair a b wB wC =>
    rintro cs x ⟨h1, h2⟩; have e1 := wB h1; have e2 := wC h2; rw [List.length_take] at e1; rw [List.length_drop] at e2; show cs.length = a.size + b.size; omega
def VZ (h : Heap) (S : List Nat) (a b : Ty) (v : Value) (kvs : List (a.den × b.den)) : Prop := VY h S (aF h S a) (aF h S b) v kvs
theorem VY.agg {α β : Type} {K : Value -> α -> Prop} {R : Value -> β -> Prop} {v : Value} {kvs : List (α × β)} (hv : VY h S K R v kvs) : gO v = false := by
  rcases hv with ⟨rfl, _⟩ | ⟨b, es, c, rfl, _⟩ <;> rfl
theorem aF.mp {a b : Ty} {v : Value} {kvs : List (a.den × b.den)} (hv : aF h S (.mp a b) v kvs) : VZ h S a b v kvs := by
  obtain ⟨h1, h2⟩ := hv; rw [eJ h1] at h2; obtain ⟨u, h3, h4⟩ := h2; simp only [List.cons.injEq, and_true] at h3; subst h3; exact h4
theorem VZ.rep {a b : Ty} {v : Value} {kvs : List (a.den × b.den)} (hv : VZ h S a b v kvs) : aF h S (.mp a b) v kvs :=
  ⟨hv.agg, by rw [eJ hv.agg]; exact ⟨v, rfl, hv⟩⟩
theorem S8 (f : Option Nat) : gO (S7 f) = false := by cases f <;> rfl
theorem MD (f : Option (Nat × Nat)) : gO (CO f) = false := by cases f <;> rfl
theorem aF.alP (f : Option (Nat × Nat)) : aF h S .kP (CO f) f := ⟨MD f, by rw [eJ (MD f)]; rfl⟩
theorem aF.ofFn (f : Option Nat) : aF h S .fn (S7 f) f := ⟨S8 f, by rw [eJ (S8 f)]; rfl⟩
theorem cR.one {τ : Ty} {cs : List Value} {x : τ.den} (ht : τ.agg = false) (hx : cR h S τ cs x) : ∃ v, cs = [v] /\ aF h S τ v x := by
  cases τ with
  | int k => exact ⟨_, hx, rfl, rfl⟩
  | bool => exact ⟨_, hx, rfl, rfl⟩
  | str => exact ⟨_, hx, rfl, rfl⟩
  | rV k => exact ⟨_, hx, rfl, rfl⟩
  | sl e =>
    obtain ⟨v, h1, h2⟩ := hx
    exact ⟨v, h1, lW.rep h2⟩
  | mp a b =>
    obtain ⟨v, h1, h2⟩ := hx
    exact ⟨v, h1, VZ.rep h2⟩
  | fn => exact ⟨_, hx, aF.ofFn _⟩
  | kP => exact ⟨_, hx, aF.alP _⟩
  | pair a b => cases ht
  | unit => cases ht
theorem Ty.uW {τ : Ty} (ht : τ.agg = false) : τ.size = 1 := by
  cases τ <;> first | rfl | cases ht
theorem aF.last {a : Ty} {u : Value} {x : a.den} (ht : a.agg = false) (h1 : aF h S a u x) : cR h S a [u] x := by
  have hu := h1.2; rw [eJ (h1.1.trans ht)] at hu; exact hu
theorem aF.adR {a b : Ty} {cs : List Value} {x : (Ty.pair a b).den} (hx : cR h S (.pair a b) cs x) : aF h S (.pair a b) (.agg cs.toArray) x := ⟨rfl, by simpa [Value.cells] using hx⟩
structure kB (P : Program) (T e : TypeId) (τ : Ty) : Prop where
  sl : SlT P T e τ.size
  agg : ∃ d, P.underlying e = some d /\ vK d = τ.agg
def elB (P : Program) (T e : TypeId) (τ : Ty) : Bool := slB P T e τ.size && (match P.underlying e with | some d => vK d == τ.agg | none => false)
theorem qQ {T e : TypeId} {τ : Ty} (hb : elB P T e τ = true) : kB P T e τ := by
  unfold elB at hb; obtain ⟨h1, h2⟩ := aY hb; refine ⟨aiY h1, ?_⟩; split at h2
  . rename_i d hd; exact ⟨d, hd, by simpa using h2⟩
  cases h2
theorem lW.len {T e : TypeId} {τ : Ty} (hT : kB P T e τ) {v : Value} {xs : List τ.den} (hv : lW h S τ v xs) (h' : Heap) : oQ P #[T] v h' = some (.int .i64 (xs.length : Nat)) := by
  rcases hv with ⟨rfl, rfl⟩ | ⟨b, o, mk, rfl, _⟩
  . simp [oQ, hT.sl.sl]
  simp [oQ, hT.sl.sl]
def uJ (v : Value) (s j : Nat) : Value :=
  match v with
  | .slice (some ⟨b, o, none⟩) _ _ => .pointer (some ⟨b, o + j * s, none⟩)
  | _ => undef
def oA (h : Heap) (S : List Nat) (τ : Ty) (p : Value) (x : τ.den) : Prop :=
  ∃ b o e rs own more, p = .pointer (some ⟨b, o, none⟩) /\ b ∉ S /\ h.get b = some (.row e rs own more) /\ o + τ.size <= rs.length /\ cR h S τ ((rs.drop o).take τ.size) x
theorem oA.nx {τ : Ty} {p : Value} {x : τ.den} (hp : oA h S τ p x) (hN : cH h S h' S') : oA h' S' τ p x := by
  obtain ⟨b, o, e, rs, own, more, h1, h2, h3, h4, h5⟩ := hp; obtain ⟨h6, h7⟩ := hN b _ h3 h2; exact ⟨b, o, e, rs, own, more, h1, h7, h6, h4, h5.nx hN⟩
theorem lW.row {τ : Ty} {v : Value} {xs : List τ.den} (hv : lW h S τ v xs) (hj : 0 < xs.length) : ∃ b o mk e' rs own more, v = .slice (some ⟨b, o, none⟩) xs.length mk /\ b ∉ S /\ h.get b = some (.row e' rs own more) /\ o + xs.length * τ.size <= rs.length /\
    ∀ i (hi : i < xs.length), cR h S τ ((rs.drop (o + i * τ.size)).take τ.size) xs[i] := by
  rcases hv with ⟨rfl, rfl⟩ | ⟨b, o, mk, rfl, h2⟩
  . simp at hj
  rcases h2 with rfl | ⟨h2, e', rs, own, more, h3, h4, h5⟩
  . simp at hj
  exact ⟨b, o, mk, e', rs, own, more, rfl, h2, h3, h4, h5⟩
theorem lW.at {τ : Ty} {v : Value} {xs : List τ.den} (hv : lW h S τ v xs) {j : Nat} (hj : j < xs.length) : oA h S τ (uJ v τ.size j) xs[j] := by
  obtain ⟨b, o, mk, e', rs, own, more, rfl, h2, h3, h4, h5⟩ := hv.row (by omega); refine ⟨b, o + j * τ.size, e', rs, own, more, rfl, h2, h3, ?_, h5 j hj⟩; have : (j + 1) * τ.size <= xs.length * τ.size := Nat.mul_le_mul_right _ hj; rw [Nat.add_mul] at this; omega
theorem lW.ix {T e : TypeId} {τ : Ty} (hT : kB P T e τ) {v : Value} {xs : List τ.den} (hv : lW h S τ v xs) {j : Nat} (hj : j < xs.length) : aC P (Instr.indexAt T v (.int .i64 (j : Nat))) = some (uJ v τ.size j) := by
  obtain ⟨b, o, mk, e', rs, own, more, rfl, h2, h3, h4, h5⟩ := hv.row (by omega); obtain ⟨i, z, CP, cX, _⟩ := hT.sl.info; unfold Instr.indexAt
  have h6 : (0 : Int) <= (j : Int) /\ (j : Int) < (xs.length : Nat) := by omega
  simp only [aE, asIntOf, aQ, Option.bind_some, bB hT.sl.sl, if_pos h6, jP CP, cX, s8, Int.toNat_natCast, uJ]
structure fN (P : Program) (e : TypeId) (τ : Ty) : Prop where
  info : ∃ i, P.info? e = some i /\ i.size = τ.size
  agg : ∃ d, P.underlying e = some d /\ vK d = τ.agg
def adS (P : Program) (e : TypeId) (τ : Ty) : Bool := (match P.info? e with | some i => Nat.beq i.size τ.size | none => false) && (match P.underlying e with | some d => vK d == τ.agg | none => false)
theorem fD {e : TypeId} {τ : Ty} (hb : adS P e τ = true) : fN P e τ := by
  unfold adS at hb; obtain ⟨h1, h2⟩ := aY hb; refine ⟨?_, ?_⟩
  . split at h1
    . rename_i i hi; exact ⟨i, hi, bI h1⟩
    cases h1
  split at h2
  . rename_i d hd; exact ⟨d, hd, by simpa using h2⟩
  cases h2
def y3 (h : Heap) (τ : Ty) (p : Value) : Value :=
  match p with
  | .pointer (some ⟨b, o, none⟩) =>
    match h.get b with
    | some (.row _ rs _ _) => if τ.agg then .agg ((rs.drop o).take τ.size).toArray else rs.getD o undef
    | _ => undef
  | _ => undef
theorem take_one {rs : List Value} {o : Nat} (ho : o < rs.length) : (rs.drop o).take 1 = [rs[o]] := by
  rw [List.drop_eq_getElem_cons ho]; rfl
theorem oA.adT {e : TypeId} {τ : Ty} (hT : fN P e τ) {p : Value} {x : τ.den} (hp : oA h S τ p x) : eO P e p h = some (y3 h τ p) /\ aF h S τ (y3 h τ p) x := by
  obtain ⟨b, o, e', rs, own, more, rfl, h2, h3, h4, h5⟩ := hp; obtain ⟨i, hi, hs⟩ := hT.info; obtain ⟨d, hd, ha⟩ := hT.agg; simp only [eO, y3, h3, hd, hi, ha, hs]
  cases hb : τ.agg with
  | true =>
    simp only [if_true, h4]
    refine ⟨trivial, by simpa [gO] using hb.symm, by simpa [Value.cells] using h5⟩
  | false =>
    have h1 := Ty.uW hb; rw [h1] at h4 h5
    have ho : o < rs.length := by omega
    rw [take_one ho] at h5; obtain ⟨u, hu, hv⟩ := h5.one hb; simp only [List.cons.injEq, and_true] at hu; simp only [Bool.false_eq_true, if_false, List.getD_eq_getElem?_getD, List.getElem?_eq_getElem ho, Option.getD_some]; exact ⟨trivial, by rw [hu]; exact hv⟩
theorem oA.val {τ : Ty} {p : Value} {x : τ.den} (hp : oA h S τ p x) : aF h S τ (y3 h τ p) x := by
  obtain ⟨b, o, e', rs, own, more, rfl, h2, h3, h4, h5⟩ := hp; simp only [y3, h3]
  cases hb : τ.agg with
  | true =>
    simp only [if_true]
    refine ⟨by simpa [gO] using hb.symm, by simpa [Value.cells] using h5⟩
  | false =>
    have h1 := Ty.uW hb; rw [h1] at h4 h5
    have ho : o < rs.length := by omega
    rw [take_one ho] at h5; obtain ⟨u, hu, hv⟩ := h5.one hb; simp only [List.cons.injEq, and_true] at hu; simp only [Bool.false_eq_true, if_false, List.getD_eq_getElem?_getD, List.getElem?_eq_getElem ho, Option.getD_some]; rw [hu]; exact hv
def nO (p : Value) (k : Nat) : Value :=
  match p with
  | .pointer (some ⟨b, o, none⟩) => .pointer (some ⟨b, o + k, none⟩)
  | _ => undef
def JD (P : Program) (s : TypeId) (f k : Nat) : Bool :=
  match P.underlying s with
  | some (.struct fs) => match fs[f]? with
    | some fd => Nat.beq fd.offset k && (match P.info? fd.type with | some i => Nat.blt 0 i.size | none => false)
    | none => false
  | _ => false
theorem oA.fa {s : TypeId} {f k : Nat} {τ : Ty} {p : Value} {x : τ.den} (hp : oA h S τ p x) (hb : JD P s f k = true) : aC P (Instr.fieldAt s p f) = some (nO p k) := by
  obtain ⟨b', o, e', rs, own, more, rfl, h2, h3, h4, h5⟩ := hp; unfold JD at hb; split at hb
  . rename_i fs hfs; split at hb
    . rename_i fd hfd; obtain ⟨h6, h7⟩ := aY hb; split at h7
      . rename_i i hi; have h8 := jB h7; have h9 := bI h6; unfold Instr.fieldAt; simp only [aE, bB hfs, Option.bind_some, hfd]; show (aC P (Instr.sureAddr _)).bind _ = _; simp only [Instr.sureAddr, aQ, Option.bind_some, aE, fieldPlace, jP hi]; rw [if_neg (by omega)]; simp only [aQ, Option.bind_some, s8, h9, nO]
      cases h7
    cases hb
  cases hb
end Go.Fs
namespace Go.Fs
variable {P : Program} {h h' h0 h1 h2 : Heap} {S S' S0 : List Nat}
theorem ME (off : Nat) : ∀ (us : List Value) (j : Nat) (pre mid post : List Value), pre.length = off + j -> mid.length = us.length ->
    (us.zipIdx j).foldl (fun (cs : Array Value) (p : Value × Nat) => cs.setIfInBounds (off + p.2) p.1) (pre ++ mid ++ post).toArray = (pre ++ us ++ post).toArray
  | [], j, pre, mid, post, _, hm => by
    have : mid = [] := List.eq_nil_of_length_eq_zero hm; subst this
    rfl
  | u :: us, j, pre, [], post, _, hm => by simp at hm
  | u :: us, j, pre, m :: mid, post, hp, hm => by
    simp only [List.zipIdx_cons, List.foldl_cons]
    have h1 : (pre ++ (m :: mid) ++ post).toArray.setIfInBounds (off + j) u = ((pre ++ [u]) ++ mid ++ post).toArray := by
      rw [<- hp]; simp
    rw [h1, ME off us (j + 1) (pre ++ [u]) mid post (by simp; omega) (by simpa using hm)]; simp
theorem JE (s off : Nat) (u : Value) (pre mid post : List Value) (hp : pre.length = off) (hm : mid.length = s) (hu : u.cells.size = s) :
    u.cells.zipIdx.foldl (fun (cs : Array Value) (p : Value × Nat) => cs.setIfInBounds (off + p.2) p.1) (pre ++ mid ++ post).toArray = (pre ++ u.cells.toList ++ post).toArray := by
  have := ME off u.cells.toList 0 pre mid post (by omega) (by simp; omega); rw [<- this, <- Array.foldl_toList, Array.toList_zipIdx]
def flat (vs : List Value) : List Value := vs.flatMap fun v => v.cells.toList
theorem MF (s : Nat) : ∀ (vs : List Value) (k : Nat) (pre rest : List Value), (∀ v ∈ vs, v.cells.size = s) -> pre.length = k * s -> rest.length = vs.length * s ->
    Instr.fill (fun i => some (i * s, s)) (pre ++ rest).toArray (lQ k vs) = some (pre ++ flat vs).toArray
  | [], k, pre, rest, _, _, hr => by
    have : rest = [] := List.eq_nil_of_length_eq_zero (by simpa using hr); subst this
    rfl
  | v :: vs, k, pre, rest, hc, hp, hr => by
    have hv := hc v List.mem_cons_self; simp only [lQ, Instr.fill, hv]
    have hr' : rest.length = vs.length * s + s := by rw [hr, List.length_cons, Nat.add_mul]; omega
    have h2 : (decide (s ≠ s) || decide (k * s + s > (pre ++ rest).toArray.size)) = false := by simp; omega
    rw [show (s ≠ s || k * s + s > (pre ++ rest).toArray.size) = false from h2]; simp only [Bool.false_eq_true, if_false]; have h3 := JE s (k * s) v pre (rest.take s) (rest.drop s) hp (by rw [List.length_take]; omega) hv; rw [List.append_assoc, List.take_append_drop] at h3; have h4 : v.cells.zipIdx.foldl (fun cs (c, j) => cs.setIfInBounds (k * s + j) c) (pre ++ rest).toArray = (pre ++ v.cells.toList ++ rest.drop s).toArray := h3; rw [h4, MF s vs (k + 1) (pre ++ v.cells.toList) (rest.drop s) (fun u hu => hc u (List.mem_cons_of_mem _ hu)) (by simp [hv, hp, Nat.add_mul]) (by rw [List.length_drop]; omega)]; simp [flat]
theorem aF.sN {τ : Ty} {u : Value} {x : τ.den} (hu : aF h S τ u x) : u.cells.size = τ.size := by simpa using hu.2.len
theorem cR.p8 : ∀ {τ : Ty} {cs : List Value} {x : τ.den}, cR h S τ cs x -> cs.all aT = true := by
  intro τ
  induction τ with
  | int k => rintro cs x rfl; rfl
  | bool => rintro cs x rfl; rfl
  | str => rintro cs x rfl; rfl
  | rV k => rintro cs x rfl; rfl
  | unit => rintro cs x rfl; rfl
  | sl e ih =>
    rintro cs x ⟨v, rfl, h2⟩
    rcases h2 with ⟨rfl, _⟩ | ⟨b, o, mk, rfl, _⟩ <;> rfl
  | fn => rintro cs x rfl; cases x <;> rfl
  | kP => rintro cs x rfl; cases x <;> rfl
  | mp a b _ _ =>
    rintro cs x ⟨v, rfl, h2⟩
    rcases h2 with ⟨rfl, _⟩ | ⟨b, es, c, rfl, _⟩ <;> rfl
  | pair a b wB wC =>
    rintro cs x ⟨h1, h2⟩; have e1 := wB h1; have e2 := wC h2; rw [<- List.take_append_drop a.size cs, List.all_append, e1, e2]; rfl
def cV (h : Heap) (S : List Nat) (τ : Ty) (rs : List Value) (xs : List τ.den) : Prop := rs.length = xs.length * τ.size /\ ∀ i (hi : i < xs.length), cR h S τ ((rs.drop (i * τ.size)).take τ.size) xs[i]
theorem cV.nx {τ : Ty} {rs : List Value} {xs : List τ.den} (he : cV h S τ rs xs) (hN : cH h S h' S') : cV h' S' τ rs xs := ⟨he.1, fun i hi => (he.2 i hi).nx hN⟩
theorem cV.nil {τ : Ty} : cV h S τ [] [] := ⟨by simp, fun i hi => absurd hi (by simp)⟩
theorem cV.append {τ : Ty} {rs P7 : List Value} {xs xs' : List τ.den} (he : cV h S τ rs xs) (lS : cV h S τ P7 xs') : cV h S τ (rs ++ P7) (xs ++ xs') := by
  refine ⟨by rw [List.length_append, List.length_append, he.1, lS.1, Nat.add_mul], fun i hi => ?_⟩; by_cases h1 : i < xs.length
  . have h2 : (i + 1) * τ.size <= xs.length * τ.size := Nat.mul_le_mul_right _ h1; rw [Nat.add_mul] at h2
    have h3 : i * τ.size <= rs.length := by rw [he.1]; omega
    rw [List.getElem_append_left h1, List.drop_append_of_le_length h3, List.take_append_of_le_length (by rw [List.length_drop, he.1]; omega)]; exact he.2 i h1
  have rD : xs.length <= i := by omega
  have h2 : i - xs.length < xs'.length := by rw [List.length_append] at hi; omega
  rw [List.getElem_append_right rD]
  have h3 : (rs ++ P7).drop (i * τ.size) = P7.drop ((i - xs.length) * τ.size) := by
    have h4 : i * τ.size = rs.length + (i - xs.length) * τ.size := by rw [he.1, <- Nat.add_mul]; congr 1; omega
    rw [h4, List.drop_append, List.drop_eq_nil_of_le (by omega), Nat.add_sub_cancel_left, List.nil_append]
  rw [h3]; exact lS.2 _ h2
theorem cV.one {τ : Ty} {u : Value} {x : τ.den} (hu : aF h S τ u x) : cV h S τ u.cells.toList [x] := by
  refine ⟨by simpa using hu.sN, fun i hi => ?_⟩
  have : i = 0 := by simpa using hi
  subst this; simp only [Nat.zero_mul, List.drop_zero, List.getElem_cons_zero]; rw [List.take_of_length_le (by rw [Array.length_toList, hu.sN]; exact Nat.le_refl _)]; exact hu.2
theorem cV.p8 {τ : Ty} : ∀ (xs : List τ.den) (rs : List Value), cV h S τ rs xs -> rs.all aT = true := by
  intro xs
  induction xs with
  | nil => intro rs he; have := he.1; simp at this; subst this; rfl
  | cons x xs ih =>
    intro rs he; have h1 := he.2 0 (by simp); simp only [Nat.zero_mul, List.drop_zero, List.getElem_cons_zero] at h1
    have h2 : cV h S τ (rs.drop τ.size) xs := by
      refine ⟨by rw [List.length_drop, he.1, List.length_cons, Nat.add_mul]; omega, fun i hi => ?_⟩; have := he.2 (i + 1) (by simpa using hi); rw [List.drop_drop]; rw [Nat.add_mul, Nat.one_mul, List.getElem_cons_succ] at this
      rwa [Nat.add_comm]
    rw [<- List.take_append_drop τ.size rs, List.all_append, h1.p8, ih _ h2]; rfl
theorem cV.slv {τ : Ty} {e' : TypeId} {rs : List Value} {xs : List τ.den} {own more : Bool} {b mk : Nat} (he : cV h S τ rs xs) (hg : h.get b = some (.row e' rs own more)) (hb : b ∉ S) : lW h S τ (.slice (some ⟨b, 0, none⟩) xs.length mk) xs :=
  .inr ⟨b, 0, mk, rfl, .inr ⟨hb, e', rs, own, more, hg, by rw [he.1]; omega, fun i hi => by rw [Nat.zero_add]; exact he.2 i hi⟩⟩
theorem vs1 {τ : Ty} {u : Value} {x : τ.den} (h1 : aF h S τ u x) : ∀ i (hi : i < [u].length) (hx : i < [x].length), aF h S τ [u][i] [x][i] := by
  intro i hi hx
  match i, hi with
  | 0, _ => exact h1
theorem adU {T e : TypeId} {τ : Ty} (hT : kB P T e τ) {vs : List Value} {xs : List τ.den} (hl : vs.length = xs.length) (hv : ∀ i (hi : i < vs.length) (hx : i < xs.length), aF h S τ vs[i] xs[i]) (h0 : vs ≠ []) (cX : vs.length <= 1000) (HJ : τ.size <= 100) (h2 : Heap) :
    iY P T vs.length (lQ 0 vs).toArray h2 = some (.slice (some ⟨h2.next, 0, none⟩) vs.length 0, h2.push (.row e (flat vs) true false)) := by
  obtain ⟨i, z, h1, CA, _, _, h3, h4, h5⟩ := hT.sl.info; have wX : 0 < vs.length := List.length_pos_iff.2 h0
  have hc : ∀ v ∈ vs, v.cells.size = τ.size /\ v.cells.toList.all aT = true := by
    intro v hm; obtain ⟨k, hk, rfl⟩ := List.getElem_of_mem hm; have := hv k hk (by omega); exact ⟨this.sN, this.2.p8⟩
  unfold iY; have hb : Nat.beq vs.length 0 = false := fG (by omega); simp only [hT.sl.sl, h1, hb, cond_false, h3, CA]
  have fU : ∀ (k : Nat) (l : List Value), (∀ v ∈ l, v.cells.size = τ.size /\ v.cells.toList.all aT = true) -> ((lQ k l).all fun p => p.2.cells.toList.all aT) = true := by
    intro k l
    induction l generalizing k with
    | nil => intro _; rfl
    | cons u l ih =>
      intro hl; have hu := hl u List.mem_cons_self; have hr := ih (k + 1) fun w hw => hl w (List.mem_cons_of_mem _ hw); simp only [lQ, List.all_cons, hu.2, Bool.true_and]; exact hr
  have y4 : (Nat.ble (vs.length * τ.size) 16777216 && Nat.blt 0 τ.size && z.cells.toList.all eN && (lQ 0 vs).all fun p => p.2.cells.toList.all aT) = true := by
    have e1 : Nat.ble (vs.length * τ.size) 16777216 = true := by
      rw [Nat.ble_eq]; have := Nat.mul_le_mul cX HJ; omega
    have e2 : Nat.blt 0 τ.size = true := by show Nat.ble 1 τ.size = true; rw [Nat.ble_eq]; exact hT.sl.pos
    rw [e1, e2, h5, fU 0 vs hc]; rfl
  rw [y4]; simp only [cond_true]; have hf := MF τ.size vs 0 [] ((Array.range (vs.length * τ.size)).map (z.cells[· % z.cells.size]!)).toList (fun v lF => (hc v lF).1) (by simp) (by simp); simp only [List.nil_append, Array.toArray_toList] at hf; rw [hf]
theorem cV.flat {τ : Ty} : ∀ (vs : List Value) (xs : List τ.den), vs.length = xs.length -> (∀ i (hi : i < vs.length) (hx : i < xs.length), aF h S τ vs[i] xs[i]) -> cV h S τ (Fs.flat vs) xs
  | [], [], _, _ => cV.nil
  | v :: vs, x :: xs, hl, hv => by
    have h1 : cV h S τ v.cells.toList [x] := cV.one (hv 0 (by simp) (by simp)); have h2 := cV.flat vs xs (by simpa using hl) fun i hi hx => hv (i + 1) (by simpa using hi) (by simpa using hx)
    exact h1.append h2
  | [], x :: xs, hl, _ => by simp at hl
  | v :: vs, [], hl, _ => by simp at hl
def y5 (h : Heap) (S : List Nat) (lo : Nat) (e : TypeId) (m : Bool) (τ : Ty) (v : Value) (xs : List τ.den) : Prop :=
  (v = .slice none 0 0 /\ xs = []) \/ ∃ b rs, b ∈ S /\ lo <= b /\ v = .slice (some ⟨b, 0, none⟩) xs.length 0 /\ h.get b = some (.row e rs true m) /\ cV h S τ rs xs
theorem LG {i : TypeInfo} {z : Value} {k b o n m s : Nat} {e e2 : TypeId} {rs news : List Value} {own more : Bool} (his : i.size = s) (hk : k * s ≠ 0) (hb : h.get b = some (.row e rs own more)) (hn : k <= n) (ho : o + k * s <= rs.length) (alQ : (rs.drop o).take (k * s) = news) (RC : n = k) :
    j7 i z (isInt (.slice e2)) (.slice (some ⟨b, o, none⟩) n m) h = some (k, news) := by
  subst RC; simp only [j7, isInt, cond_false, wR, cellsOf, his, hb]
  have e1 : Nat.ble n n = true := by rw [Nat.ble_eq]; exact Nat.le_refl _
  have e2 : Nat.beq (n * s) 0 = false := fG hk
  have e3 : Nat.ble (o + n * s) rs.length = true := by rw [Nat.ble_eq]; omega
  simp only [e1, cond_true, e2, cond_false, e3, Option.map_some, alQ]
theorem y5.len {lo : Nat} {T e : TypeId} {m : Bool} {τ : Ty} {v : Value} {xs : List τ.den} (hg : y5 h S lo e m τ v xs) (hT : kB P T e τ) (h' : Heap) : oQ P #[T] v h' = some (.int .i64 (xs.length : Nat)) := by
  rcases hg with ⟨rfl, rfl⟩ | ⟨b, rs, h1, h2, rfl, h4, h5⟩
  . simp [oQ, hT.sl.sl]
  simp [oQ, hT.sl.sl]
end Go.Fs
namespace Go.Fs
variable {P : Program} {orc : FuncId -> List Value -> Heap -> Option (Value × Heap)} {aV : Option Nat} {h h' h0 h1 h2 : Heap} {ops : Array Oper} {n i mem : Nat} {fl : FL} {K : FL -> Heap -> Prop} {l : List Oper} {bs : List Nat} {segs : List (Nat × Nat × Nat)} {tail : Bool}
  {d : Tmp} {ty : TypeId} {pos : String} {after : Array Edge} {op : Op} {v : Value} {S S' S0 : List Nat} {ms : List Nat} {Q : Ex -> Fr -> Heap -> Prop}
theorem aF.box {τ : Ty} {e : TypeId} {u : Value} {x : τ.den} (bD : mU h) (hS : ∀ b ∈ S, b < h.next) (hx : aF h S τ u x) : oA (h.push (.row e u.cells.toList true false)) S τ (.pointer (some ⟨h.next, 0, none⟩)) x := by
  have hN : cH h S (h.push (.row e u.cells.toList true false)) S := (eU.push h _).nx bD; refine ⟨h.next, 0, e, u.cells.toList, true, false, rfl, fun hm => ?_, by rw [Heap.bE, if_pos rfl], by rw [Array.length_toList, hx.sN]; omega, ?_⟩
  . have := hS _ hm; omega
  rw [List.drop_zero, List.take_of_length_le (by rw [Array.length_toList, hx.sN]; exact Nat.le_refl _)]; exact hx.2.nx hN
section
variable {fr : Fr} {id x7 : Nat} {b : Code} {I : Nat -> FL -> Heap -> Prop} {k : Nat}
end
theorem cR.uX : ∀ {τ : Ty} {cs : List Value} {x : τ.den}, cs.all eN = true -> cR h S τ cs x -> cR h' S' τ cs x := by
  intro τ
  induction τ with
  | int k => exact fun _ hx => hx
  | bool => exact fun _ hx => hx
  | str => exact fun _ hx => hx
  | rV k => exact fun _ hx => hx
  | unit => exact fun _ hx => hx
  | pair a b wB wC =>
    intro cs x ha hx; rw [<- List.take_append_drop a.size cs, List.all_append] at ha; obtain ⟨h1, h2⟩ := aY ha
    exact ⟨wB h1 hx.1, wC h2 hx.2⟩
  | sl e ih =>
    rintro cs x ha ⟨v, rfl, h2⟩; rcases h2 with h2 | ⟨b, o, mk, rfl, _⟩
    . exact ⟨v, rfl, .inl h2⟩
    cases ha
  | fn => exact fun _ hx => hx
  | kP => exact fun _ hx => hx
  | mp a b _ _ =>
    rintro cs x ha ⟨v, rfl, h2⟩; rcases h2 with h2 | ⟨b, es, c, rfl, _⟩
    . exact ⟨v, rfl, .inl h2⟩
    cases ha
theorem aF.uX {τ : Ty} {v : Value} {x : τ.den} (hv : aF h S τ v x) (ha : rB v = true) : aF h' S' τ v x := by
  refine ⟨hv.1, hv.2.uX ?_⟩
  cases v with
  | agg cs => exact ha
  | _ => simpa [Value.cells, rB] using ha
end Go.Fs
namespace Go.Fs
variable {P : Program} {orc : FuncId -> List Value -> Heap -> Option (Value × Heap)} {aV : Option Nat} {h h' h0 h1 h2 hs : Heap} {ops : Array Oper} {n i mem b : Nat} {fl : FL} {K : FL -> Heap -> Prop} {l : List Oper} {bs : List Nat} {segs : List (Nat × Nat × Nat)} {tail : Bool}
  {d : Tmp} {ty : TypeId} {pos : String} {after : Array Edge} {op : Op} {v : Value} {S S' S0 : List Nat}
def mV (hs : Heap) (segs : List (Nat × Nat × Nat)) : Prop := ∀ s ∈ segs, hs.next <= s.2.1
theorem mV.nil : mV hs [] := fun _ h => by cases h
theorem mV.cons {lo hi : Nat} (h1 : hs.next <= lo) (h2 : mV hs segs) : mV hs ((i, lo, hi) :: segs) := fun s hm => by
  rcases List.mem_cons.1 hm with rfl | hm
  . exact h1
  exact h2 s hm
theorem q6 {p : Nat × aX -> Bool} {b : Nat} (hp : ∀ o, p (b, o) = true) : ∀ l : List (Nat × aX), look (l.filter p) b = look l b
  | [] => rfl
  | (k, o) :: r => by
    rw [List.filter_cons]; by_cases hk : k = b
    . subst hk; rw [if_pos (hp o)]; simp [look]
    split
    . simp only [look, fG hk, cond_false, q6 hp r]
    simp only [look, fG hk, cond_false, q6 hp r]
theorem MG {m lo b : Nat} (hb : b < lo) : ∀ (segs : List (Nat × Nat × Nat)) (aA : List (Nat × aX)), (∀ s ∈ segs, lo <= s.2.1) -> look (mask m segs aA) b = look aA b
  | [], _, _ => rfl
  | (k, l, hi) :: segs, aA, hs => by
    simp only [mask]; rw [MG hb segs _ fun s hm => hs s (List.mem_cons_of_mem _ hm)]; split
    . rfl
    refine q6 (fun o => ?_) aA; have := hs _ List.mem_cons_self; unfold outside; simp only [Bool.not_eq_true', Bool.and_eq_false_iff, decide_eq_false_iff_not]
    left; simp only at this; omega
theorem B4 {m b : Nat} {o : aX} : ∀ (segs : List (Nat × Nat × Nat)) (aA : List (Nat × aX)), look (mask m segs aA) b = some o -> look aA b = some o
  | [], _, h => h
  | (k, l, hi) :: segs, aA, h => by
    simp only [mask] at h; have := B4 segs _ h; split at this
    . exact this
    exact (p4 (outside l hi) (fun b => !(decide (l <= b) && decide (b < hi))) (fun _ _ => rfl) aA b o this).1
def msk (m : Nat) (segs : List (Nat × Nat × Nat)) (h : Heap) : Heap := { next := h.next, low := h.next, aA := mask m segs h.aA }
theorem W0 {m : Nat} (hA : eU hs h) (hsg : mV hs segs) : eU hs (msk m segs h) where
  next := hA.next
  get := fun b hb => (MG hb segs h.aA hsg).trans (hA.get b hb)
  ok := fun bD b o hg => hA.ok bD b o (B4 segs h.aA hg)
  low := fun e h1 h2 => Nat.le_trans h2 hA.next
theorem sO (a : Nat) : Nat.ble a a = true := by rw [Nat.ble_eq]; exact Nat.le_refl _
theorem B5 (a : Nat) : Nat.blt a a = false := by
  cases hx : Nat.blt a a with
  | false => rfl
  | true => have := jB hx; omega
theorem q7 {a b : Nat} (hl : b <= a) : Nat.blt a b = false := by
  cases hx : Nat.blt a b with
  | false => rfl
  | true => have := jB hx; omega
theorem G7 {M : Heap} (bD : mU h) (hM : ∀ b o, M.get b = some o -> h.get b = some o) (hMn : M.next = h.next) (hA : eU M h') (adV : mU M) :
    eU h { next := h'.next, low := h.low, aA := bM h.next h'.next h'.aA ++ h.aA } /\ ∀ S, cH h' S { next := h'.next, low := h.low, aA := bM h.next h'.next h'.aA ++ h.aA } S := by
  have hold : ∀ b, b < h.next -> look (bM h.next h'.next h'.aA ++ h.aA) b = look h.aA b := fun b hb => by
    rw [iU]
    cases hl : look (bM h.next h'.next h'.aA) b with
    | none => rfl
    | some o => have := (dT _ _ _ hl).1; omega
  have n6 : ∀ b o, h.next <= b -> look h'.aA b = some o -> look (bM h.next h'.next h'.aA ++ h.aA) b = some o := fun b o hb hl => by
    rw [iU]; have b7 : b < h'.next := hA.ok adV b o hl; rw [zB _ _ hb b7, hl]; rfl
  have gA : h.next <= h'.next := by have := hA.next; omega
  refine ⟨⟨gA, hold, fun _ b o hg => ?_, fun e h1 _ => h1⟩, fun S b o hg hS => ⟨?_, hS⟩⟩
  . by_cases hb : b < h.next
    . exact Nat.lt_of_lt_of_le hb gA
    have iN : look (bM h.next h'.next h'.aA ++ h.aA) b = some o := hg; rw [iU] at iN
    cases hl : look (bM h.next h'.next h'.aA) b with
    | some o' => exact (dT _ _ _ hl).1.2
    | none => rw [hl] at iN; exact absurd (bD b o iN) hb
  by_cases hb : b < h.next
  . have h3 : M.get b = some o := by rw [<- hA.get b (by omega)]; exact hg
    exact (hold b hb).trans (hM b o h3)
  exact n6 b o (by omega) hg
end Go.Fs
namespace Go.Fs
variable {P : Program} {orc : FuncId -> List Value -> Heap -> Option (Value × Heap)} {aV : Option Nat} {h h' h0 h1 h2 hs : Heap} {ops : Array Oper} {n i mem b : Nat} {fl : FL} {K : FL -> Heap -> Prop} {l : List Oper} {bs : List Nat} {segs : List (Nat × Nat × Nat)} {tail : Bool}
  {d : Tmp} {ty : TypeId} {pos : String} {after : Array Edge} {op : Op} {v : Value} {S S' S0 : List Nat} {ms : List Nat} {Q : Ex -> Fr -> Heap -> Prop} {c : Code}
theorem wrap64 {n : Int} (h0 : -9223372036854775808 <= n) (h1 : n <= 9223372036854775807) : IntKind.i64.wrap n = n := by
  unfold IntKind.wrap; simp only [IntKind.bits, IntKind.signed, Bool.true_and]
  have e : (2 ^ 64 : Int) = 18446744073709551616 := by decide
  have e' : (2 ^ (64 - 1) : Int) = 9223372036854775808 := by decide
  simp only [e, e', decide_eq_true_eq, ge_iff_le]; split <;> omega
variable {T T' : TypeId} {x y : Operand} {p q : Int}
end Go.Fs
namespace Go.Fs
variable {P : Program} {orc : FuncId -> List Value -> Heap -> Option (Value × Heap)} {aV : Option Nat} {h h' h0 h1 h2 hs : Heap} {ops : Array Oper} {n i mem b : Nat} {fl : FL} {K : FL -> Heap -> Prop} {l : List Oper} {bs : List Nat} {segs : List (Nat × Nat × Nat)} {tail : Bool}
  {d : Tmp} {ty : TypeId} {pos : String} {after : Array Edge} {op : Op} {v : Value} {S S' S0 : List Nat} {ms : List Nat} {Q : Ex -> Fr -> Heap -> Prop} {c : Code}
def tT (h : Heap) (lo : Nat) (p : Value) (cs : List Value) : Prop := ∃ b e, p = .pointer (some ⟨b, 0, none⟩) /\ lo <= b /\ h.get b = some (.row e cs true false)
theorem tT.ld1 {lo : Nat} {p u : Value} {e : TypeId} {cs : List Value} {k : Nat} {τ : Ty} (hb : tT h lo p cs) (hT : fN P e τ) (ha : τ.agg = false) (hk : cs[k]? = some u) : eO P e (nO p k) h = some u := by
  obtain ⟨b, e', rfl, h2, h3⟩ := hb; obtain ⟨i, hi, hs⟩ := hT.info; obtain ⟨d, hd, fC⟩ := hT.agg; have h4 : h.get b = some (.row e' cs true false) := h3; simp only [eO, nO, h4, hd, hi, fC, ha, Nat.zero_add, hk]; rfl
theorem tT.ld0 {lo : Nat} {p u : Value} {e : TypeId} {cs : List Value} {τ : Ty} (hb : tT h lo p cs) (hT : fN P e τ) (ha : τ.agg = false) (hk : cs[0]? = some u) : eO P e p h = some u := by
  have := hb.ld1 (k := 0) hT ha hk; obtain ⟨b, e', rfl, h2, h3⟩ := hb; exact this
theorem tT.ldA {lo : Nat} {p : Value} {e : TypeId} {cs : List Value} {τ : Ty} (hb : tT h lo p cs) (hT : fN P e τ) (ha : τ.agg = true) (hk : cs.length = τ.size) : eO P e p h = some (.agg cs.toArray) := by
  obtain ⟨b, e', rfl, h2, h3⟩ := hb; obtain ⟨i, hi, hs⟩ := hT.info; obtain ⟨d, hd, fC⟩ := hT.agg; have h4 : h.get b = some (.row e' cs true false) := h3; simp only [eO, h4, hd, hi, fC, ha, hs, if_true]; rw [if_pos (by omega), List.drop_zero, <- hk, List.take_length]
theorem tT.fa {lo : Nat} {p : Value} {cs : List Value} {s : TypeId} {f k : Nat} (hp : tT h lo p cs) (hb : JD P s f k = true) : aC P (Instr.fieldAt s p f) = some (nO p k) := by
  obtain ⟨b', e', rfl, h2, h3⟩ := hp; unfold JD at hb; split at hb
  . rename_i fs hfs; split at hb
    . rename_i fd hfd; obtain ⟨h6, h7⟩ := aY hb; split at h7
      . rename_i i hi; have h8 := jB h7; have h9 := bI h6; unfold Instr.fieldAt; simp only [aE, bB hfs, Option.bind_some, hfd]; show (aC P (Instr.sureAddr _)).bind _ = _; simp only [Instr.sureAddr, aQ, Option.bind_some, aE, fieldPlace, jP hi]; rw [if_neg (by omega)]; simp only [aQ, Option.bind_some, s8, h9, nO]
      cases h7
    cases hb
  cases hb
end Go.Fs
namespace Go.Fs
variable {P : Program} {h h' : Heap} {fl : FL} {S : List Nat}
theorem JF {T : TypeId} {parts : Array (Nat × Value)} {fields : Array Field} {places : Array (Nat × Nat)} {z : Value} (hu : P.underlying T = some (.struct fields)) (hz : aC P (zeroValue T) = some z)
    (hp : aC P (fields.mapM fun f => do pure (f.offset, <- sizeOf f.type)) = some places) {cs : Array Value} (hf : Instr.fill (places[·]?) z.cells parts.toList = some cs) : aC P (Instr.build T parts) = some (.agg cs) := by
  unfold Instr.build; rw [aE, hz]; simp only [Option.bind_some]; rw [aE, bB hu]; simp only [Option.bind_some]; rw [aE, hp]; simp only [Option.bind_some, hf]; rfl
def stB (P : Program) (T : TypeId) (n : Nat) : Bool :=
  match P.underlying T, aC P (zeroValue T) with
  | some (.struct fields), some z =>
    match aC P (fields.mapM fun f => do pure (f.offset, <- sizeOf f.type)) with
    | some places => (places.toList == (List.range n).map fun i => (i, 1)) && Nat.beq z.cells.size n && ((((P.info? T).bind (·.zero)).map fun z => z.cells.toList.all eN) == some true)
    | none => false
  | _, _ => false
end Go.Fs
namespace Go.Fs
variable {P : Program} {orc : FuncId -> List Value -> Heap -> Option (Value × Heap)} {aV : Option Nat} {h h' h0 h1 h2 hs : Heap} {ops : Array Oper} {n i mem b : Nat} {fl : FL} {K : FL -> Heap -> Prop} {l : List Oper} {bs : List Nat} {segs : List (Nat × Nat × Nat)} {tail : Bool}
  {d : Tmp} {ty : TypeId} {pos : String} {after : Array Edge} {op : Op} {v : Value} {S S' S0 : List Nat} {ms : List Nat} {Q : Ex -> Fr -> Heap -> Prop} {c : Code}
theorem W1 {τ : Ty} {rs us : List Value} {xs : List τ.den} {x : τ.den} {j : Nat} (he : cV h S τ rs xs) (hj : j < xs.length) (hx : cR h S τ us x) : cV h S τ (eX rs (j * τ.size) us) (xs.set j x) := by
  have S9 := hx.len; have LH := he.1; have VK : (j + 1) * τ.size <= xs.length * τ.size := Nat.mul_le_mul_right _ hj; rw [Nat.add_mul, Nat.one_mul] at VK
  have pX : (rs.take (j * τ.size)).length = j * τ.size := by rw [List.length_take]; omega
  refine ⟨?_, fun i hi => ?_⟩
  . unfold eX; rw [List.length_append, List.length_append, pX, List.length_drop, List.length_set]; omega
  rw [List.length_set] at hi; have hold := he.2 i hi; unfold eX; rw [List.append_assoc]; by_cases h1 : i < j
  . have h2 : (i + 1) * τ.size <= j * τ.size := Nat.mul_le_mul_right _ h1; rw [Nat.add_mul, Nat.one_mul] at h2; rw [List.getElem_set_ne (by omega), List.drop_append_of_le_length (by omega), List.take_append_of_le_length (by rw [List.length_drop]; omega), List.drop_take, List.take_take, Nat.min_eq_left (by omega)]; exact hold
  by_cases h2 : i = j
  . subst h2
    have e1 : (rs.take (i * τ.size) ++ (us ++ rs.drop (i * τ.size + us.length))).drop (i * τ.size) = us ++ rs.drop (i * τ.size + us.length) := by
      have := List.drop_left' (l₂ := us ++ rs.drop (i * τ.size + us.length)) pX; exact this
    rw [e1, List.getElem_set_self, List.take_left' S9]; exact hx
  have h3 : (j + 1) * τ.size <= i * τ.size := Nat.mul_le_mul_right _ (by omega); rw [Nat.add_mul, Nat.one_mul] at h3
  have e1 : (rs.take (j * τ.size) ++ (us ++ rs.drop (j * τ.size + us.length))).drop (i * τ.size) = rs.drop (i * τ.size) := by
    rw [List.drop_append, List.drop_eq_nil_of_le (by omega), List.nil_append, pX, List.drop_append, List.drop_eq_nil_of_le (by omega), List.nil_append, List.drop_drop]; congr 1; omega
  rw [e1, List.getElem_set_ne (by omega)]; exact hold
theorem y5.own {lo : Nat} {e : TypeId} {m : Bool} {τ : Ty} {v : Value} {xs : List τ.den} (hg : y5 h S lo e m τ v xs) (h0 : 0 < xs.length) : ∃ b rs, b ∈ S /\ lo <= b /\ v = .slice (some ⟨b, 0, none⟩) xs.length 0 /\ h.get b = some (.row e rs true m) /\ cV h S τ rs xs := by
  rcases hg with ⟨rfl, rfl⟩ | hg
  . simp at h0
  exact hg
theorem y5.ix {lo : Nat} {T e : TypeId} {m : Bool} {τ : Ty} {v : Value} {xs : List τ.den} (hg : y5 h S lo e m τ v xs) (hT : kB P T e τ) {j : Nat} (hj : j < xs.length) : aC P (Instr.indexAt T v (.int .i64 (j : Nat))) = some (uJ v τ.size j) := by
  obtain ⟨b, rs, _, _, rfl, _, _⟩ := hg.own (by omega); obtain ⟨i, z, CP, cX, _⟩ := hT.sl.info; unfold Instr.indexAt
  have h6 : (0 : Int) <= (j : Int) /\ (j : Int) < (xs.length : Nat) := by omega
  simp only [aE, asIntOf, aQ, Option.bind_some, bB hT.sl.sl, if_pos h6, jP CP, cX, s8, Int.toNat_natCast, uJ]
theorem lW.cut {T e : TypeId} {τ : Ty} (hT : kB P T e τ) {v : Value} {xs : List τ.den} (hv : lW h S τ v xs) {a b : Int} (h0 : 0 <= a /\ a <= b /\ b <= (xs.length : Nat)) :
    ∃ w, (∀ nn ll, cZ P T v (some (.int .i64 a)) (some (.int .i64 b)) none { next := nn, low := ll, aA := h.aA } = some w) /\ lW h S τ w ((xs.take b.toNat).drop a.toNat) := by
  obtain ⟨i, z, CP, cX, _⟩ := hT.sl.info; obtain ⟨a', rfl⟩ := Int.eq_ofNat_of_zero_le h0.1; obtain ⟨b', rfl⟩ := Int.eq_ofNat_of_zero_le (show 0 <= b by omega)
  have hb : b' <= xs.length := by omega
  have hab : a' <= b' := by omega
  simp only [Int.toNat_natCast]; rcases hv with ⟨rfl, rfl⟩ | ⟨bl, o, mk, rfl, h2⟩
  . have : a' = 0 /\ b' = 0 := by simp at hb; omega
    obtain ⟨rfl, rfl⟩ := this; refine ⟨.slice none 0 0, fun nn ll => ?_, .inl ⟨rfl, rfl⟩⟩; simp [cZ, hT.sl.sl, dR, CP]
  have e1 : Nat.ble a' b' = true := by rw [Nat.ble_eq]; exact hab
  have e2 : Nat.ble b' xs.length = true := by rw [Nat.ble_eq]; exact hb
  have hl : ((xs.take b').drop a').length = b' - a' := by simp; omega
  by_cases ao7 : a' < b' \/ a' = 0
  . refine ⟨.slice (some ⟨bl, o + a' * τ.size, none⟩) (b' - a') (bif Nat.beq mk 1 then (bif Nat.beq b' xs.length then 1 else 2) else qK e bl a' mk h), fun nn ll => ?_, ?_⟩
    . have mT : qK e bl a' mk { next := nn, low := ll, aA := h.aA } = qK e bl a' mk h := rfl
      have adW : (Nat.blt a' b' || Nat.beq a' 0) = true := by
        rcases ao7 with h3 | rfl
        . have : Nat.blt a' b' = true := by show Nat.ble (a' + 1) b' = true; rw [Nat.ble_eq]; exact h3
          rw [this]; rfl
        simp
      simp only [cZ, hT.sl.sl, CP, dR, Int.natCast_nonneg, if_true, Int.toNat_natCast, e1, e2, Bool.and_self, cond_true, cutAt, adW, cX, mT]
    refine .inr ⟨bl, o + a' * τ.size, _, by rw [hl], ?_⟩; by_cases hz : a' = b'
    . left; exact List.eq_nil_of_length_eq_zero (by omega)
    right; rcases h2 with rfl | ⟨h2, e', rs, own, more, h3, h4, h5⟩
    . simp at hb; omega
    have VM : b' * τ.size <= xs.length * τ.size := Nat.mul_le_mul_right _ hb
    have aqC : a' * τ.size + (b' - a') * τ.size = b' * τ.size := by rw [<- Nat.add_mul]; congr 1; omega
    refine ⟨h2, e', rs, own, more, h3, by rw [hl]; omega, fun i hi => ?_⟩; rw [hl] at hi; have := h5 (a' + i) (by omega); rw [List.getElem_drop, List.getElem_take]
    rwa [Nat.add_mul, <- Nat.add_assoc] at this
  have ao8 : a' = b' := by omega
  subst ao8; refine ⟨.slice (some ⟨0, 0, none⟩) 0 2, fun nn ll => ?_, .inr ⟨0, 0, 2, by rw [hl]; simp, .inl (List.eq_nil_of_length_eq_zero (by omega))⟩⟩
  have adW : (Nat.blt a' a' || Nat.beq a' 0) = false := by
    rw [B5, fG (by omega)]; rfl
  simp only [cZ, hT.sl.sl, CP, dR, Int.natCast_nonneg, if_true, Int.toNat_natCast, e1, e2, Bool.and_self, cond_true, cutAt, adW, cond_false]
end Go.Fs
namespace Go.Fs
variable {P : Program} {fl : FL}
theorem uY : aC P program = some P := rfl
end Go.Fs
namespace Go.Fs
variable {P : Program} {orc : FuncId -> List Value -> Heap -> Option (Value × Heap)} {h h' h0 : Heap} {fl : FL} {op : Op} {v : Value} {S S' S0 : List Nat} {ops : Array Oper} {n : Nat} {K : FL -> Heap -> Prop} {l : List Oper} {d : Tmp} {ty : TypeId} {pos : String} {after : Array Edge}
theorem apart {p q : List Nat} {m : Nat} (hp : ∀ b ∈ p, m <= b) (hq : ∀ b ∈ q, b < m) : ∀ b ∈ p, b ∉ q := fun b h1 h2 => by
  have := hp b h1; have := hq b h2; omega
theorem JG {cs : List Value} (hc : cs.all eN = true) : cs.all aT = true := by
  rw [List.all_eq_true] at hc ⊢; intro x hx; have := hc x hx; cases x <;> first | rfl | simp_all [eN, aT]
end Go.Fs
namespace Go.Fs
variable {P : Program} {orc : FuncId -> List Value -> Heap -> Option (Value × Heap)} {h h' h0 : Heap} {fl : FL} {op : Op} {v : Value} {S S' S0 : List Nat} {ops : Array Oper} {n i mem : Nat} {K : FL -> Heap -> Prop} {l : List Oper} {d : Tmp} {ty : TypeId} {pos : String} {after : Array Edge} {bs : List Nat} {segs : List (Nat × Nat × Nat)} {tail : Bool}
end Go.Fs
namespace Go.Fs
def Ty.iC : Ty -> Bool
  | .sl _ => false
  | .mp _ _ => false
  | .fn => false
  | .kP => false
  | .pair a b => a.iC && b.iC
  | _ => true
def Ty.sP : (τ : Ty) -> τ.den -> List Value
  | .int k, n => [.int k n]
  | .bool, b => [.bool b]
  | .str, s => [.string s]
  | .rV k, b => [.float k b]
  | .unit, _ => []
  | .sl _, _ => []
  | .mp _ _, _ => []
  | .fn, _ => []
  | .kP, _ => []
  | .pair a b, x => a.sP x.1 ++ b.sP x.2
theorem qX {h : Heap} {S : List Nat} : ∀ {τ : Ty} {cs : List Value} {x : τ.den}, cR h S τ cs x -> τ.iC = true -> cs = τ.sP x := by
  intro τ
  induction τ with
  | int k => intro cs x hx _; exact hx
  | bool => intro cs x hx _; exact hx
  | str => intro cs x hx _; exact hx
  | rV k => intro cs x hx _; exact hx
  | unit => intro cs x hx _; exact hx
  | sl e ih => intro cs x _ hf; cases hf
  | fn => intro cs x _ hf; cases hf
  | kP => intro cs x _ hf; cases hf
  | mp a b _ _ => intro cs x _ hf; cases hf
  | pair a b wB wC =>
    intro cs x hx hf
    have h1 : a.iC = true /\ b.iC = true := by simpa [Ty.iC] using hf
    have e1 := wB hx.1 h1.1; have e2 := wC hx.2 h1.2; show cs = a.sP x.1 ++ b.sP x.2; rw [<- e1, <- e2, List.take_append_drop]
theorem flat_agg {h : Heap} {S : List Nat} {τ : Ty} {v : Value} {x : τ.den} (hv : aF h S τ v x) (hf : τ.iC = true) (ha : τ.agg = true) : v = .agg (τ.sP x).toArray := by
  obtain ⟨h1, h2⟩ := hv; have h3 := qX h2 hf
  cases v with
  | agg cs =>
    have h4 : cs.toList = τ.sP x := h3
    rw [<- h4]
  | _ => rw [ha] at h1; cases h1
end Go.Fs
namespace Go.Fs
structure ao9 where
  n : Nat
  e : TypeId
  τ : Ty
  x : τ.den
def ak8 : List ao9 := []
end Go.Fs
namespace Go.Fs
variable {h h' : Heap} {S S' : List Nat}
def GT (h : Heap) (S : List Nat) : Prop := ∀ v ∈ ak8, ∃ vs, h.get (v.n + 1) = some (.row v.e vs false true) /\ v.n + 1 ∉ S /\ vs.length = v.τ.size /\ ∀ h' S', cR h' S' v.τ vs v.x
theorem GT.nx (hs : GT h S) (hN : cH h S h' S') : GT h' S' := fun v hv => by
  obtain ⟨vs, h1, h2, h3, h4⟩ := hs v hv; obtain ⟨h5, h6⟩ := hN _ _ h1 h2; exact ⟨vs, h5, h6, h3, h4⟩
def adI (h : Heap) : Prop := mU h /\ GT h []
end Go.Fs
namespace Go.Fs
variable {P : Program} {h h' h0 h1 h2 : Heap} {S S' S0 B G : List Nat}
inductive PV where
  | v (τ : Ty) (x : τ.den)
  | p (τ : Ty) (x : τ.den)
  | raw (u : Value)
  | gJ (f : FuncId) (a c : List PV)
  | mE (l : List PV)
  | gd (b : Bool) (v : PV)
  | agg (l : List PV)
mutual
def aI (h : Heap) (S : List Nat) : PV -> Value -> Prop
  | .v τ x, u => aF h S τ u x
  | .p τ x, u => oA h S τ u x
  | .raw w, u => u = w
  | .gJ f a c, u => ∃ va vc : List Value, u = .func (.func f) va.toArray vc.toArray /\ b6 h S a va /\ b6 h S c vc
  | .mE l, u => ∃ vs : List Value, u = .tuple vs.toArray /\ b6 h S l vs
  | .gd b v, u => (b = true -> aI h S v u) /\ (b = false -> u = undef)
  | .agg l, u => ∃ vs : List Value, u = .agg vs.toArray /\ b6 h S l vs
def b6 (h : Heap) (S : List Nat) : List PV -> List Value -> Prop
  | [], us => us = []
  | p :: ps, us => ∃ u r, us = u :: r /\ aI h S p u /\ b6 h S ps r
end
def p9 (h : Heap) (S : List Nat) (h' : Heap) (S' : List Nat) : Prop := ∀ b o, h.get b = some o -> o ≠ .iX -> b ∉ S -> h'.get b = some o /\ b ∉ S'
theorem cH.r (hN : cH h S h' S') : p9 h S h' S' := fun b _ hg _ hb => hN b _ hg hb
theorem cR.iV (hN : p9 h S h' S') : ∀ {τ : Ty} {cs : List Value} {x : τ.den}, cR h S τ cs x -> cR h' S' τ cs x := by
  intro τ
  induction τ with
  | int k => exact fun hx => hx
  | bool => exact fun hx => hx
  | str => exact fun hx => hx
  | rV k => exact fun hx => hx
  | unit => exact fun hx => hx
  | pair a b wB wC => exact fun hx => ⟨wB hx.1, wC hx.2⟩
  | sl e ih =>
    rintro cs x ⟨v, h1, h2⟩; refine ⟨v, h1, ?_⟩; rcases h2 with h2 | ⟨b, o, mk, h2, h3⟩
    . exact .inl h2
    refine .inr ⟨b, o, mk, h2, ?_⟩; rcases h3 with h3 | ⟨h3, e', rs, own, more, h4, h5, h6⟩
    . exact .inl h3
    obtain ⟨h7, h8⟩ := hN b _ h4 (by simp) h3
    exact .inr ⟨h8, e', rs, own, more, h7, h5, fun i hi => ih (h6 i hi)⟩
  | fn => exact fun hx => hx
  | kP => exact fun hx => hx
  | mp a b wB wC =>
    rintro cs x ⟨v, h1, h2⟩; refine ⟨v, h1, ?_⟩; rcases h2 with h2 | ⟨b, es, c, h2, h3, h4, h5, h6⟩
    . exact .inl h2
    obtain ⟨h7, h8⟩ := hN b _ h4 (by simp) h3; exact .inr ⟨b, es, c, h2, h8, h7, h5, fun i hi hj => ⟨⟨(h6 i hi hj).1.1, wB (h6 i hi hj).1.2⟩, ⟨(h6 i hi hj).2.1, wC (h6 i hi hj).2.2⟩⟩⟩
theorem oA.iV (hN : p9 h S h' S') {τ : Ty} {p : Value} {x : τ.den} (hp : oA h S τ p x) : oA h' S' τ p x := by
  obtain ⟨b, o, e, rs, own, more, h1, h2, h3, h4, h5⟩ := hp; obtain ⟨h6, h7⟩ := hN b _ h3 (by simp) h2; exact ⟨b, o, e, rs, own, more, h1, h7, h6, h4, h5.iV hN⟩
mutual
theorem aI.iV (hN : p9 h S h' S') : ∀ {pv : PV} {u : Value}, aI h S pv u -> aI h' S' pv u
  | .v τ x, u, hx => ⟨hx.1, cR.iV hN hx.2⟩
  | .p τ x, u, hx => oA.iV hN hx
  | .raw w, u, hx => hx
  | .gJ f a c, u, ⟨va, vc, h1, h2, h3⟩ => ⟨va, vc, h1, b6.iV hN h2, b6.iV hN h3⟩
  | .mE l, u, ⟨vs, h1, h2⟩ => ⟨vs, h1, b6.iV hN h2⟩
  | .gd b v, u, ⟨h1, h2⟩ => ⟨fun e => aI.iV hN (h1 e), h2⟩
  | .agg l, u, ⟨vs, h1, h2⟩ => ⟨vs, h1, b6.iV hN h2⟩
theorem b6.iV (hN : p9 h S h' S') : ∀ {l : List PV} {us : List Value}, b6 h S l us -> b6 h' S' l us
  | [], us, hx => hx
  | p :: ps, us, ⟨u, r, h1, h2, h3⟩ => ⟨u, r, h1, aI.iV hN h2, b6.iV hN h3⟩
end
theorem aI.nx (hN : cH h S h' S') {pv : PV} {u : Value} (hx : aI h S pv u) : aI h' S' pv u := hx.iV hN.r
theorem b6.nx (hN : cH h S h' S') {l : List PV} {us : List Value} (hx : b6 h S l us) : b6 h' S' l us := hx.iV hN.r
theorem b6.len : ∀ {l : List PV} {us : List Value}, b6 h S l us -> us.length = l.length
  | [], us, hx => by rw [show us = [] from hx]; rfl
  | p :: ps, us, ⟨u, r, h1, _, h3⟩ => by rw [h1, List.length_cons, List.length_cons, b6.len h3]
theorem b6.append : ∀ {l l' : List PV} {us us' : List Value}, b6 h S l us -> b6 h S l' us' -> b6 h S (l ++ l') (us ++ us')
  | [], l', us, us', hx, hy => by rw [show us = [] from hx]; exact hy
  | p :: ps, l', us, us', ⟨u, r, h1, h2, h3⟩, hy => ⟨u, r ++ us', by rw [h1]; rfl, h2, b6.append h3 hy⟩
def PV.kQ : PV -> Bool
  | .v τ _ => τ.iC
  | .raw u => rB u
  | _ => false
def PV.flat : PV -> Bool
  | .mE l => l.all PV.kQ
  | q => q.kQ
theorem uZ : ∀ (τ : Ty) (x : τ.den), (τ.sP x).all eN = true
  | .int _, _ => rfl
  | .bool, _ => rfl
  | .str, _ => rfl
  | .rV _, _ => rfl
  | .unit, _ => rfl
  | .sl _, _ => rfl
  | .mp _ _, _ => rfl
  | .fn, _ => rfl
  | .kP, _ => rfl
  | .pair a b, x => by
    show (a.sP x.1 ++ b.sP x.2).all eN = true; rw [List.all_append, uZ a, uZ b]; rfl
theorem sA {τ : Ty} {u : Value} {x : τ.den} (hf : τ.iC = true) (hx : aF h S τ u x) : rB u = true := by
  have hc := qX hx.2 hf
  cases ha : gO u with
  | true =>
    cases u with
    | agg cs =>
      show cs.toList.all eN = true; have : cs.toList = τ.sP x := hc
      rw [this]; exact uZ τ x
    | _ => cases ha
  | false =>
    rw [eJ ha] at hc; have h1 := uZ τ x; rw [<- hc] at h1
    have h2 : eN u = true := by simpa using h1
    cases u with
    | agg cs => cases ha
    | _ => exact h2
theorem aI.kQ : ∀ {pv : PV} {u : Value}, pv.kQ = true -> aI h S pv u -> rB u = true /\ ∀ h' S', aI h' S' pv u
  | .v τ x, u, hf, hx => ⟨sA hf hx, fun h' S' => aF.uX (τ := τ) hx (sA hf hx)⟩
  | .raw w, u, hf, hx => ⟨by rw [show u = w from hx]; exact hf, fun _ _ => hx⟩
  | .p _ _, _, hf, _ => by cases hf
  | .gJ _ _ _, _, hf, _ => by cases hf
  | .mE _, _, hf, _ => by cases hf
  | .gd _ _, _, hf, _ => by cases hf
theorem b6.kQ : ∀ {l : List PV} {us : List Value}, l.all PV.kQ = true -> b6 h S l us -> us.all rB = true /\ ∀ h' S', b6 h' S' l us
  | [], us, _, hx => ⟨by rw [show us = [] from hx]; rfl, fun _ _ => hx⟩
  | p :: ps, us, hf, ⟨u, r, h1, h2, h3⟩ => by
    rw [List.all_cons] at hf; obtain ⟨f1, f2⟩ := aY hf; obtain ⟨a1, a2⟩ := h2.kQ f1; obtain ⟨b1, b2⟩ := b6.kQ f2 h3; exact ⟨by rw [h1, List.all_cons, a1, b1]; rfl, fun h' S' => ⟨u, r, h1, a2 h' S', b2 h' S'⟩⟩
theorem sQ {u : Value} (hu : rB u = true) : af u = true := by
  cases u with
  | tuple vs => cases hu
  | _ => exact hu
theorem aI.flat {pv : PV} {u : Value} (hf : pv.flat = true) (hx : aI h S pv u) : af u = true /\ ∀ h' S', aI h' S' pv u := by
  cases pv with
  | mE l =>
    obtain ⟨vs, h1, h2⟩ := hx; obtain ⟨a1, a2⟩ := b6.kQ (l := l) hf h2; refine ⟨?_, fun h' S' => ⟨vs, h1, a2 h' S'⟩⟩; rw [h1]; show vs.toArray.toList.all rB = true
    exact a1
  | v τ x => obtain ⟨a1, a2⟩ := aI.kQ (pv := .v τ x) hf hx; exact ⟨sQ a1, a2⟩
  | p τ x => cases hf
  | raw w => obtain ⟨a1, a2⟩ := aI.kQ (pv := .raw w) hf hx; exact ⟨sQ a1, a2⟩
  | gJ f a c => cases hf
  | gd b v => cases hf
  | agg l => cases hf
structure cD (h h' : Heap) (B : List Nat) : Prop where
  next : h.next <= h'.next
  get : ∀ b, b < h.next -> b ∉ B -> h'.get b = h.get b
  ok : mU h -> mU h'
  low : ∀ e, e <= h.low -> e <= h.next -> (∀ b ∈ B, e <= b) -> e <= h'.low
  chg : ∀ b, b < h.next -> h'.get b = h.get b \/ h'.low <= b
  sR : h'.low <= h.low
theorem cD.refl (h : Heap) (B : List Nat) : cD h h B := ⟨Nat.le_refl _, fun _ _ _ => rfl, fun x => x, fun _ x _ _ => x, fun _ _ => .inl rfl, Nat.le_refl _⟩
theorem cD.trans {B' : List Nat} (a : cD h h1 B) (b : cD h1 h2 B') (hB : ∀ i ∈ B', i ∈ B \/ h.next <= i) : cD h h2 B where
  next := Nat.le_trans a.next b.next
  get := fun i hi hn => by
    have := a.next; rw [b.get i (by omega) (fun hm => by rcases hB i hm with h3 | h3; exact hn h3; omega), a.get i hi hn]
  ok := fun x => b.ok (a.ok x)
  low := fun e h3 h4 h5 => b.low e (a.low e h3 h4 h5) (Nat.le_trans h4 a.next) fun i hi => by
    rcases hB i hi with h6 | h6
    . exact h5 i h6
    omega
  chg := fun i hi => by
    have := a.next; have := b.sR; rcases b.chg i (by omega) with h3 | h3
    . rcases a.chg i hi with h4 | h4
      . exact .inl (h3.trans h4)
      exact .inr (by omega)
    exact .inr h3
  sR := Nat.le_trans b.sR a.sR
theorem cD.MH {B' : List Nat} (a : cD h h1 B) (hB : ∀ i ∈ B, i ∈ B') : cD h h1 B' where
  next := a.next
  get := fun i hi hn => a.get i hi fun hm => hn (hB i hm)
  ok := a.ok
  low := fun e h3 h4 h5 => a.low e h3 h4 fun i hi => h5 i (hB i hi)
  chg := a.chg
  sR := a.sR
theorem cD.after (a : cD h h1 []) : eU h h1 := ⟨a.next, fun b hb => a.get b hb (by simp), a.ok, fun e h3 h4 => a.low e h3 h4 (by simp)⟩
theorem cD.push (h : Heap) (o : aX) (B : List Nat) : cD h (h.push o) B where
  next := Nat.le_succ _
  get := fun b hb _ => by rw [Heap.bE, if_neg (by omega)]
  ok := (eU.push h o).ok
  low := fun e h3 _ _ => h3
  chg := fun b hb => .inl (by rw [Heap.bE, if_neg (by omega)])
  sR := Nat.le_refl _
theorem cD.set {b : Nat} {o o' : aX} (hg : h.get b = some o) (hb : b ∈ B) : cD h (h.set b o') B where
  next := Nat.le_refl _
  get := fun i _ hi => by rw [Heap.dB hg, if_neg (fun e => hi (by subst e; exact hb))]
  ok := fun x i oi hi => by
    rw [Heap.dB hg] at hi; split at hi
    . rename_i e; rw [e]; exact x b o hg
    exact x i oi hi
  low := fun e h3 _ h5 => Nat.le_min.2 ⟨h3, h5 b hb⟩
  chg := fun i hi => by
    by_cases e : i = b
    . exact .inr (by subst e; exact Nat.min_le_right _ _)
    exact .inl (by rw [Heap.dB hg, if_neg e])
  sR := Nat.min_le_left _ _
theorem cD.drop {b : Nat} (hb : b ∈ B) : cD h (h.drop b) B where
  next := Nat.le_refl _
  get := fun i _ hi => by rw [Heap.cM, if_neg (fun e => hi (by subst e; exact hb))]
  ok := fun x i oi hi => by
    rw [Heap.cM] at hi; split at hi
    . cases hi
    exact x i oi hi
  low := fun e h3 _ h5 => Nat.le_min.2 ⟨h3, h5 b hb⟩
  chg := fun i hi => by
    by_cases e : i = b
    . exact .inr (by subst e; exact Nat.min_le_right _ _)
    exact .inl (by rw [Heap.cM, if_neg e])
  sR := Nat.min_le_left _ _
theorem cD.goes (a : cD h h' B) (bD : mU h) (hB : ∀ b ∈ B, b ∈ S) (hS : ∀ b ∈ S', b ∈ S \/ h.next <= b) : cH h S h' S' := fun b o hg hb => by
  have b7 := bD b o hg; refine ⟨by rw [a.get b b7 (fun hm => hb (hB b hm))]; exact hg, fun hm => ?_⟩; rcases hS b hm with h3 | h3
  . exact hb h3
  omega
inductive Cell where
  | row (e : TypeId) (τ : Ty) (xs : List τ.den)
  | var (cs : List PV)
  | cap (e : TypeId) (n : Nat) (τ : Ty) (xs : List τ.den)
  | mp (κ ν : Ty) (kvs : List (κ.den × ν.den))
  | it (s : ByteArray) (pos : Nat)
  | loop (st : LoopState) (jump : Option Code) (n : Nat) (fl : List (Nat × PV)) (ps : Array Tmp) (assign body : Code)
  | eE (e : TypeId) (n : Nat) (cs : List PV)
abbrev aG := List (Value × Cell)
def cI : Value -> List Nat
  | .slice (some a) _ _ => [a.block]
  | .pointer (some a) => [a.block]
  | .map (some b) => [b]
  | .func (.yield l) _ _ => [l]
  | _ => []
abbrev VL := List (Nat × PV)
def lC : VL -> Nat -> Option PV
  | [], _ => none
  | (k, v) :: r, i => bif Nat.beq k i then some v else lC r i
theorem GT.iV (hs : GT h S) (hN : p9 h S h' S') : GT h' S' := fun v hv => by
  obtain ⟨vs, h1, h2, h3, h4⟩ := hs v hv; obtain ⟨h5, h6⟩ := hN _ _ h1 (by simp) h2; exact ⟨vs, h5, h6, h3, h4⟩
def SA (h : Heap) (S : List Nat) : Prop := (∀ b ∈ S, b < h.next) /\ ∀ v ∈ ak8, v.n + 1 < h.next
instance : CoeFun (SA h S) fun _ => ∀ b, b ∈ S -> b < h.next := ⟨fun hs => hs.1⟩
theorem GT.slt (hs : GT h S) (bD : mU h) (h0 : ∀ b ∈ S0, b < h.next) : SA h S0 := ⟨h0, fun v hv => by
  obtain ⟨vs, h1, _⟩ := hs v hv
  exact bD _ _ h1⟩
theorem GT.seen {hs M : Heap} (hG : GT h S) (a1 : eU hs h) (a2 : eU hs M) (hl : SA hs S0) : GT M S := fun v hv => by
  obtain ⟨vs, h1, h2, h3, h4⟩ := hG v hv; have hb := hl.2 v hv; exact ⟨vs, by rw [a2.get _ hb, <- a1.get _ hb]; exact h1, h2, h3, h4⟩
def P8 (h : Heap) (S : List Nat) : Prop := (∀ b ∈ S, b < h.next) /\ GT h S
def eK (h : Heap) (S : List Nat) (t : Tr) (fl : VL) : Prop := GT h S /\ ∀ k v, lC fl k = some v -> aI h S v (t.get k)
theorem eK.nx {t : Tr} {fl : VL} (hs : eK h S t fl) (hN : cH h S h' S') : eK h' S' t fl := ⟨hs.1.nx hN, fun k v hk => (hs.2 k v hk).nx hN⟩
theorem eK.iV {t : Tr} {fl : VL} (hs : eK h S t fl) (hN : p9 h S h' S') : eK h' S' t fl := ⟨hs.1.iV hN, fun k v hk => (hs.2 k v hk).iV hN⟩
instance {t : Tr} {fl : VL} : CoeFun (eK h S t fl) fun _ => ∀ k v, lC fl k = some v -> aI h S v (t.get k) := ⟨fun hs => hs.2⟩
instance : CoeFun (P8 h S) fun _ => ∀ b, b ∈ S -> b < h.next := ⟨fun hs => hs.1⟩
def own (σ : aG) : List Nat := σ.flatMap fun c => cI c.1
def bA (h : Heap) (S : List Nat) (w : Value) : Cell -> Prop
  | .row e τ xs => (w = .slice none 0 0 /\ xs = []) \/ ∃ b rs m, w = .slice (some ⟨b, 0, none⟩) xs.length 0 /\ b ∈ S /\ h.get b = some (.row e rs true m) /\ cV h S τ rs xs
  | .var cs => ∃ b e vs, w = .pointer (some ⟨b, 0, none⟩) /\ b ∈ S /\ h.get b = some (.row e vs true false) /\ b6 h S cs vs /\ vs.all aT = true
  | .cap e n τ xs => ∃ b rs m, w = .slice (some ⟨b, 0, none⟩) xs.length 0 /\ b ∈ S /\ h.get b = some (.row e rs true m) /\ rs.length = n * τ.size /\ xs.length <= n /\ cV h S τ (rs.take (xs.length * τ.size)) xs
  | .mp κ ν kvs => ∃ b es clock, w = .map (some b) /\ b ∈ S /\ h.get b = some (.nG es clock) /\ es.length = kvs.length /\ ∀ i (hi : i < kvs.length) (hj : i < es.length), aF h S κ es[i].key kvs[i].1 /\ aF h S ν es[i].val kvs[i].2
  | .it s pos => ∃ b, w = .pointer (some ⟨b, 0, none⟩) /\ b ∈ S /\ h.get b = some (.iter s pos)
  | .loop st jump n fl ps assign body => ∃ l tmps d, w = .func (.yield l) #[] #[] /\ l ∈ S /\ h.get l = some (.dJ st jump tmps n ps assign body d) /\ eK h S tmps fl
  | .eE e n cs => (w = .slice none 0 0 /\ n = 0 /\ cs = []) \/ ∃ b rs m, w = .slice (some ⟨b, 0, none⟩) n 0 /\ b ∈ S /\ h.get b = some (.row e rs true m) /\ b6 h S cs rs /\ rs.all aT = true /\ (n = 0 -> m = false)
theorem bA.keep {w : Value} : ∀ {c : Cell}, bA h S w c -> (∀ b ∈ cI w, h'.get b = h.get b) -> cH h S h' S' -> (∀ b ∈ cI w, b ∈ S') -> bA h' S' w c
  | .row e τ xs, hc, hg, hN, hs => by
    rcases hc with hc | ⟨b, rs, m, rfl, h2, h3, h4⟩
    . exact .inl hc
    exact .inr ⟨b, rs, m, rfl, hs b (by simp [cI]), by rw [hg b (by simp [cI])]; exact h3, h4.nx hN⟩
  | .var cs, ⟨b, e, vs, h1, h2, h3, h4, h5⟩, hg, hN, hs => by
    subst h1
    exact ⟨b, e, vs, rfl, hs b (by simp [cI]), by rw [hg b (by simp [cI])]; exact h3, h4.nx hN, h5⟩
  | .cap e n τ xs, ⟨b, rs, m, h1, h2, h3, h4, h5, h6⟩, hg, hN, hs => by
    subst h1
    exact ⟨b, rs, m, rfl, hs b (by simp [cI]), by rw [hg b (by simp [cI])]; exact h3, h4, h5, h6.nx hN⟩
  | .mp κ ν kvs, ⟨b, es, c, h1, h2, h3, h4, h5⟩, hg, hN, hs => by
    subst h1
    exact ⟨b, es, c, rfl, hs b (by simp [cI]), by rw [hg b (by simp [cI])]; exact h3, h4, fun i hi hj => ⟨(h5 i hi hj).1.nx hN, (h5 i hi hj).2.nx hN⟩⟩
  | .it s pos, ⟨b, h1, h2, h3⟩, hg, hN, hs => by
    subst h1
    exact ⟨b, rfl, hs b (by simp [cI]), by rw [hg b (by simp [cI])]; exact h3⟩
  | .loop st jump n fl ps assign body, ⟨l, tmps, d, h1, h2, h3, h4⟩, hg, hN, hs => by
    subst h1
    exact ⟨l, tmps, d, rfl, hs l (by simp [cI]), by rw [hg l (by simp [cI])]; exact h3, h4.nx hN⟩
  | .eE e n cs, hc, hg, hN, hs => by
    rcases hc with hc | ⟨b, rs, m, rfl, h2, h3, h4, h5⟩
    . exact .inl hc
    exact .inr ⟨b, rs, m, rfl, hs b (by simp [cI]), by rw [hg b (by simp [cI])]; exact h3, h4.nx hN, h5⟩
theorem bA.isObj {w : Value} : ∀ {c : Cell}, bA h S w c -> ∀ b ∈ cI w, ∃ o, h.get b = some o /\ o ≠ .iX
  | .row e τ xs, hc, b, hb => by
    rcases hc with ⟨rfl, _⟩ | ⟨b', rs, m, rfl, h2, h3, h4⟩
    . cases hb
    obtain rfl : b = b' := by simpa [cI] using hb
    exact ⟨_, h3, by simp⟩
  | .var cs, ⟨b', e, vs, h1, h2, h3, h4, h5⟩, b, hb => by
    subst h1
    obtain rfl : b = b' := by simpa [cI] using hb
    exact ⟨_, h3, by simp⟩
  | .cap e n τ xs, ⟨b', rs, m, h1, h2, h3, h4, h5, h6⟩, b, hb => by
    subst h1
    obtain rfl : b = b' := by simpa [cI] using hb
    exact ⟨_, h3, by simp⟩
  | .mp κ ν kvs, ⟨b', es, c, h1, h2, h3, h4, h5⟩, b, hb => by
    subst h1
    obtain rfl : b = b' := by simpa [cI] using hb
    exact ⟨_, h3, by simp⟩
  | .it s pos, ⟨b', h1, h2, h3⟩, b, hb => by
    subst h1
    obtain rfl : b = b' := by simpa [cI] using hb
    exact ⟨_, h3, by simp⟩
  | .loop st jump n fl ps assign body, ⟨l, tmps, d, h1, h2, h3, h4⟩, b, hb => by
    subst h1
    obtain rfl : b = l := by simpa [cI] using hb
    exact ⟨_, h3, by simp⟩
  | .eE e n cs, hc, b, hb => by
    rcases hc with ⟨rfl, _⟩ | ⟨b', rs, m, rfl, h2, h3, h4⟩
    . cases hb
    obtain rfl : b = b' := by simpa [cI] using hb
    exact ⟨_, h3, by simp⟩
theorem bA.aoA {w : Value} : ∀ {c : Cell}, bA h S w c -> ∀ b ∈ cI w, ∀ e vs, h.get b ≠ some (.row e vs false true)
  | .row e τ xs, hc, b, hb, e', gZ, hg => by
    rcases hc with ⟨rfl, _⟩ | ⟨b', rs, m, rfl, h2, h3, h4⟩
    . cases hb
    obtain rfl : b = b' := by simpa [cI] using hb
    rw [h3] at hg; cases hg
  | .var cs, ⟨b', e, vs, h1, h2, h3, h4, h5⟩, b, hb, e', gZ, hg => by
    subst h1
    obtain rfl : b = b' := by simpa [cI] using hb
    rw [h3] at hg; cases hg
  | .cap e n τ xs, ⟨b', rs, m, h1, h2, h3, h4, h5, h6⟩, b, hb, e', gZ, hg => by
    subst h1
    obtain rfl : b = b' := by simpa [cI] using hb
    rw [h3] at hg; cases hg
  | .mp κ ν kvs, ⟨b', es, c, h1, h2, h3, h4, h5⟩, b, hb, e', gZ, hg => by
    subst h1
    obtain rfl : b = b' := by simpa [cI] using hb
    rw [h3] at hg; cases hg
  | .it s pos, ⟨b', h1, h2, h3⟩, b, hb, e', gZ, hg => by
    subst h1
    obtain rfl : b = b' := by simpa [cI] using hb
    rw [h3] at hg; cases hg
  | .loop st jump n fl ps assign body, ⟨l, tmps, d, h1, h2, h3, h4⟩, b, hb, e', gZ, hg => by
    subst h1
    obtain rfl : b = l := by simpa [cI] using hb
    rw [h3] at hg; cases hg
  | .eE e n cs, hc, b, hb, e', gZ, hg => by
    rcases hc with ⟨rfl, _⟩ | ⟨b', rs, m, rfl, h2, h3, h4⟩
    . cases hb
    obtain rfl : b = b' := by simpa [cI] using hb
    rw [h3] at hg; cases hg
theorem GT.own {γ : aG} (hs : GT h S) (hc : ∀ c ∈ γ, bA h S' c.1 c.2) : GT h (Go.Fs.own γ ++ S) := fun v hv => by
  obtain ⟨vs, h1, h2, h3, h4⟩ := hs v hv; refine ⟨vs, h1, fun hb => ?_, h3, h4⟩; rcases List.mem_append.1 hb with hb | hb
  . obtain ⟨c, L5, hb⟩ := List.mem_flatMap.1 hb; exact (hc c L5).aoA _ hb _ _ h1
  exact h2 hb
theorem GT.ent {γ : aG} (hs : GT h S) (hc : ∀ c ∈ γ, bA h S' c.1 c.2) : GT (entry h) (Go.Fs.own γ ++ S) := (hs.own hc).nx (cH.aA fun _ => rfl)
theorem eK.set {t : Tr} {fl : VL} (hs : eK h S t fl) {d : Nat} {v : PV} {u : Value} (hu : aI h S v u) (hd : d < 4000) : eK h S (t.set depth d u) ((d, v) :: fl) := by
  refine ⟨hs.1, ?_⟩; intro k w hk; rw [zA t d u k hd]; simp only [lC] at hk
  cases hb : Nat.beq d k with
  | true => rw [hb] at hk; simp only [cond_true, Option.some.injEq] at hk; subst hk; rw [if_pos (bI hb).symm]; exact hu
  | false => rw [hb] at hk; simp only [cond_false] at hk; rw [if_neg (Ne.symm (fS hb))]; exact hs.2 k w hk
theorem eK.cons {t : Tr} {fl : VL} (hs : eK h S t fl) {d : Nat} {v : PV} (hu : aI h S v (t.get d)) : eK h S t ((d, v) :: fl) := by
  refine ⟨hs.1, ?_⟩; intro k w hk; simp only [lC] at hk
  cases hb : Nat.beq d k with
  | true => rw [hb] at hk; simp only [cond_true, Option.some.injEq] at hk; subst hk; rw [<- bI hb]; exact hu
  | false => rw [hb] at hk; exact hs.2 k w hk
theorem eK.sub {t : Tr} {fl : VL} (hs : eK h S t fl) (eV : VL) (hf : ∀ p ∈ eV, lC fl p.1 = some p.2) : eK h S t eV := by
  refine ⟨hs.1, ?_⟩; intro k v hk
  have : (k, v) ∈ eV := by
    clear hf
    induction eV with
    | nil => cases hk
    | cons p r ih =>
      obtain ⟨i, u⟩ := p; simp only [lC] at hk
      cases hb : Nat.beq i k with
      | true => rw [hb] at hk; simp only [cond_true, Option.some.injEq] at hk; rw [bI hb, hk]; exact List.mem_cons_self
      | false => rw [hb] at hk; exact List.mem_cons_of_mem _ (ih hk)
  exact hs.2 k v (hf _ this)
def P9 : Value -> Option PV
  | .int k n => some (.v (.int k) n)
  | .bool b => some (.v .bool b)
  | .string s => some (.v .str s)
  | .float k b => some (.v (.rV k) b)
  | c => if af c then some (.raw c) else none
def b9 (fl : VL) : Operand -> Option PV
  | .tmp i => lC fl i
  | .const c => P9 c
  | .global _ => none
  | .func f => some (.gJ f [] [])
theorem JH {c : Value} {v : PV} (hc : P9 c = some v) : af c = true /\ ∀ h S, aI h S v c := by
  cases c with
  | int k n => obtain rfl := Option.some.inj hc; exact ⟨rfl, fun _ _ => aF.ofInt _ _⟩
  | bool b => obtain rfl := Option.some.inj hc; exact ⟨rfl, fun _ _ => aF.ofBool _⟩
  | string s => obtain rfl := Option.some.inj hc; exact ⟨rfl, fun _ _ => aF.ofStr _⟩
  | float k b => obtain rfl := Option.some.inj hc; exact ⟨rfl, fun _ _ => aF.alO _ _⟩
  | _ =>
    simp only [P9] at hc; split at hc
    . rename_i ha; obtain rfl := Option.some.inj hc; exact ⟨ha, fun _ _ => rfl⟩
    cases hc
theorem dP {fl : VL} {t : Tr} (hs : eK h S t fl) {x : Operand} {v : PV} (hx : b9 fl x = some v) : aI h S v (aB t x) := by
  cases x with
  | tmp i => exact hs.2 i v hx
  | const c =>
    obtain ⟨h1, h2⟩ := JH hx; show aI h S v (if af c then c else hD)
    rw [if_pos h1]; exact h2 h S
  | global g => cases hx
  | func f => obtain rfl := Option.some.inj hx; exact ⟨[], [], rfl, rfl, rfl⟩
def lI (fl : VL) : List Operand -> Option (List PV)
  | [] => some []
  | x :: r => match b9 fl x, lI fl r with
    | some v, some vs => some (v :: vs)
    | _, _ => none
theorem pA {fl : VL} {t : Tr} (hs : eK h S t fl) : ∀ {l : List Operand} {vs : List PV}, lI fl l = some vs -> b6 h S vs (l.map (aB t))
  | [], vs, hx => by obtain rfl := Option.some.inj hx; rfl
  | x :: r, vs, hx => by
    simp only [lI] at hx; split at hx
    . rename_i v OZ hv uQ; obtain rfl := Option.some.inj hx; exact ⟨_, _, rfl, dP hs hv, pA hs uQ⟩
    cases hx
structure Iv (h0 : Heap) (G S0 : List Nat) (h : Heap) (σ : aG) (t : Tr) (ms : List Nat) (fl : VL) : Prop where
  ok : mU h
  s0 : ∀ b ∈ S0, b < h0.next
  gC : cD h0 h G
  cells : ∀ c ∈ σ, bA h (own σ ++ S0) c.1 c.2
  new : ∀ b ∈ own σ, (b ∈ G \/ h0.next <= b) /\ b ∉ S0
  apart : (own σ).Nodup
  mark : ∀ d ∈ ms, h0.next <= d /\ h.get d = some .iX
  marks : ms.Nodup
  aH : eK h (own σ ++ S0) t fl
variable {σ aJ : aG} {t t' : Tr} {ms : List Nat} {fl : VL}
theorem wD (hc : ∀ c ∈ σ, bA h S c.1 c.2) (bD : mU h) : ∀ b ∈ own σ, b < h.next := fun b hb => by
  obtain ⟨c, L5, hb⟩ := List.mem_flatMap.1 hb; obtain ⟨o, hg, _⟩ := (hc c L5).isObj b hb; exact bD b _ hg
theorem Iv.goes (I : Iv h0 G S0 h σ t ms fl) (hB : ∀ b ∈ B, b ∈ own σ) (ha : cD h h' B) (hn : ∀ b ∈ own aJ, b ∈ own σ \/ h.next <= b) : cH h (own σ ++ S0) h' (own aJ ++ S0) :=
  ha.goes I.ok (fun b hb => List.mem_append_left _ (hB b hb)) fun b hb => by
    rcases List.mem_append.1 hb with hb | hb
    . rcases hn b hb with h3 | h3
      . exact .inl (List.mem_append_left _ h3)
      exact .inr h3
    exact .inl (List.mem_append_right _ hb)
theorem Iv.step (I : Iv h0 G S0 h σ t ms fl) (hB : ∀ b ∈ B, b ∈ own σ) (ha : cD h h' B) (hn : ∀ b ∈ own aJ, b ∈ own σ \/ h.next <= b) (hd : (own aJ).Nodup) (hc : ∀ c ∈ aJ, bA h' (own aJ ++ S0) c.1 c.2) : Iv h0 G S0 h' aJ t ms fl where
  ok := ha.ok I.ok
  s0 := I.s0
  gC := I.gC.trans ha fun b hb => (I.new b (hB b hb)).1
  cells := hc
  new := fun b hb => by
    have h1 := I.gC.next; rcases hn b hb with h3 | h3
    . exact I.new b h3
    exact ⟨.inr (by omega), fun hm => by have := I.s0 b hm; omega⟩
  apart := hd
  mark := fun d hdm => by
    obtain ⟨h1, h2⟩ := I.mark d hdm; refine ⟨h1, ?_⟩; rw [ha.get d (I.ok d _ h2) (fun hm => ?_)]
    . exact h2
    obtain ⟨c, L5, hb⟩ := List.mem_flatMap.1 (hB d hm); obtain ⟨o, hg, cL⟩ := (I.cells c L5).isObj d hb; rw [hg] at h2; exact absurd (Option.some.inj h2) cL
  marks := I.marks
  aH := I.aH.nx (I.goes hB ha hn)
theorem Iv.calm (I : Iv h0 G S0 h σ t ms fl) (ha : cD h h' []) : Iv h0 G S0 h' σ t ms fl :=
  I.step (B := []) (fun b hb => by cases hb) ha (fun b hb => .inl hb) I.apart fun c hc => (I.cells c hc).keep
    (fun b hb => ha.get b (by obtain ⟨o, hg, _⟩ := (I.cells c hc).isObj b hb; exact I.ok b _ hg) (by simp)) (I.goes (fun b hb => by cases hb) ha fun b hb => .inl hb) fun b hb => List.mem_append_left _ (List.mem_flatMap.2 ⟨c, hc, hb⟩)
theorem Iv.set (I : Iv h0 G S0 h σ t ms fl) {d : Nat} {v : PV} {u : Value} (hu : aI h (own σ ++ S0) v u) (hd : d < 4000) : Iv h0 G S0 h σ (t.set depth d u) ms ((d, v) :: fl) := { I with aH := I.aH.set hu hd }
theorem Iv.sub (I : Iv h0 G S0 h σ t ms fl) (eV : VL) (hf : ∀ p ∈ eV, lC fl p.1 = some p.2) : Iv h0 G S0 h σ t ms eV := { I with aH := I.aH.sub eV hf }
end Go.Fs
namespace Go.Fs
variable {P : Program} {orc : FuncId -> List Value -> Heap -> Option (Value × Heap)} {aV : Option Nat} {h h' h0 h1 h2 : Heap} {S S' S0 B G : List Nat} {σ aJ : aG} {t t' : Tr} {ms : List Nat} {fl : VL} {ops : Array Oper} {n : Nat} {l : List Oper}
section
variable (P orc)
def U (aV : Option Nat) (c : Code) (n : Nat) (fl : VL) (σ : aG) (Q : Ex -> VL -> aG -> Prop) : Prop :=
  ∀ (h0 : Heap) (G S0 : List Nat) (t : Tr) (h : Heap) (ms : List Nat), Iv h0 G S0 h σ t ms fl -> jG P orc aV c ⟨t, n, ms⟩ h fun e fr h' => fr.n = n /\ ∃ eV aJ, Iv h0 G S0 h' aJ fr.t fr.marks eV /\ Q e eV aJ
def J (ops : Array Oper) (n : Nat) (l : List Oper) (fl : VL) (σ : aG) (K : VL -> aG -> Prop) : Prop :=
  ∀ (h0 : Heap) (G S0 : List Nat) (t : Tr) (h : Heap) (ms : List Nat), Iv h0 G S0 h σ t ms fl -> mP P orc ops n l t h fun t' h' => ∃ eV aJ, Iv h0 G S0 h' aJ t' ms eV /\ K eV aJ
def PA (aV : Option Nat) (n : Nat) (b : Code) (Q : Ex -> VL -> aG -> Prop) : Ex -> VL -> aG -> Prop
  | .normal, fl, σ => U P orc aV b n fl σ Q
  | .exit i, fl, σ => Q (.exit i) fl σ
  | .ret, fl, σ => Q .ret fl σ
end
def MI (id : Nat) (Q : Ex -> VL -> aG -> Prop) : Ex -> VL -> aG -> Prop
  | .exit i, fl, σ => bif Nat.beq i id then Q .normal fl σ else Q (.exit i) fl σ
  | .normal, fl, σ => Q .normal fl σ
  | .ret, fl, σ => Q .ret fl σ
def SC (fl : VL) : VL -> Prop
  | [] => True
  | (k, v) :: r => lC fl k = some v /\ SC fl r
theorem zC {fl : VL} : ∀ {eV : VL}, SC fl eV -> ∀ p ∈ eV, lC fl p.1 = some p.2
  | [], _, _, hp => by cases hp
  | (k, v) :: r, h, p, hp => by
    rcases List.mem_cons.1 hp with rfl | hp
    . exact h.1
    exact zC h.2 p hp
def alR (I : Nat -> VL -> aG -> Prop) (k : Nat) (Q : Ex -> VL -> aG -> Prop) : Ex -> VL -> aG -> Prop
  | .normal, fl, σ => ∃ k' eV, k' < k /\ SC fl eV /\ I k' eV σ
  | .exit i, fl, σ => Q (.exit i) fl σ
  | .ret, fl, σ => Q .ret fl σ
variable {Q : Ex -> VL -> aG -> Prop} {K : VL -> aG -> Prop}
theorem U.seq {a b : Code} (hx : U P orc aV a n fl σ (PA P orc aV n b Q)) : U P orc aV (.seq a b) n fl σ Q := fun h0 G S0 t h ms I => by
  refine jG.seq ((hx h0 G S0 t h ms I).mono fun e fr h' hq => ?_); obtain ⟨hn, eV, aJ, I', q⟩ := hq
  cases e with
  | normal =>
    obtain ⟨t', n', ms'⟩ := fr; obtain rfl : n' = n := hn
    exact q h0 G S0 t' h' ms' I'
  | exit i => exact ⟨hn, eV, aJ, I', q⟩
  | ret => exact ⟨hn, eV, aJ, I', q⟩
theorem U.block {id : Nat} {b : Code} (hx : U P orc aV b n fl σ (MI id Q)) : U P orc aV (.block id b) n fl σ Q := fun h0 G S0 t h ms I => by
  refine jG.block ((hx h0 G S0 t h ms I).mono fun e fr h' hq => ?_); obtain ⟨hn, eV, aJ, I', q⟩ := hq
  cases e with
  | normal => exact ⟨hn, eV, aJ, I', q⟩
  | ret => exact ⟨hn, eV, aJ, I', q⟩
  | exit i =>
    simp only [MI] at q; simp only [inBlock]; by_cases hi : i = id
    . rw [if_pos hi]; subst hi; rw [Nat.beq_refl] at q; exact ⟨hn, eV, aJ, I', q⟩
    rw [if_neg hi]; rw [fG hi] at q; exact ⟨hn, eV, aJ, I', q⟩
theorem U.skip (hq : Q .normal fl σ) : U P orc aV .skip n fl σ Q := fun _ _ _ _ _ _ I => jG.skip ⟨rfl, fl, σ, I, hq⟩
theorem U.exit {i : Nat} (hq : Q (.exit i) fl σ) : U P orc aV (.exit i) n fl σ Q := fun _ _ _ _ _ _ I => jG.exit ⟨rfl, fl, σ, I, hq⟩
theorem U.ret (hq : Q .ret fl σ) : U P orc aV .ret n fl σ Q := fun _ _ _ _ _ _ I => jG.ret ⟨rfl, fl, σ, I, hq⟩
theorem U.cond {x : Operand} {a b : Code} {c : Bool} (hc : b9 fl x = some (.v .bool c)) (hx : U P orc aV (if c then a else b) n fl σ Q) : U P orc aV (.cond x a b) n fl σ Q := fun h0 G S0 t h ms I =>
  jG.cond (dP I.aH hc : aI _ _ (.v .bool c) _).bool (hx h0 G S0 t h ms I)
theorem U.fO {x : Operand} {a b : Code} {c : Bool} (hc : b9 fl x = some (.v .bool c)) (ht : c = true -> U P orc aV a n fl σ Q) (hf : c = false -> U P orc aV b n fl σ Q) : U P orc aV (.cond x a b) n fl σ Q := by
  refine U.cond hc ?_
  cases c with
  | true => exact ht rfl
  | false => exact hf rfl
theorem U.aM {x : Operand} {a b : Code} {p : Prop} {inst : Decidable p} (hc : b9 fl x = some (.v .bool (@decide p inst))) (ht : p -> U P orc aV a n fl σ Q) (hf : ¬ p -> U P orc aV b n fl σ Q) : U P orc aV (.cond x a b) n fl σ Q :=
  U.fO hc (fun h => ht (of_decide_eq_true h)) fun h => hf (of_decide_eq_false h)
theorem U.jJ {x : Operand} {a b : Code} (hc : b9 fl x = some (.v .bool true)) (hx : U P orc aV a n fl σ Q) : U P orc aV (.cond x a b) n fl σ Q := U.cond hc hx
theorem U.eB {x : Operand} {a b : Code} (hc : b9 fl x = some (.v .bool false)) (hx : U P orc aV b n fl σ Q) : U P orc aV (.cond x a b) n fl σ Q := U.cond hc hx
theorem U.keep {c : Code} (eV : VL) (hs : SC fl eV) (hx : U P orc aV c n eV σ Q) : U P orc aV c n fl σ Q := fun h0 G S0 t h ms I => hx h0 G S0 t h ms (I.sub eV (zC hs))
theorem U.loop {c : Code} {I : Nat -> VL -> aG -> Prop} (hs : ∀ k fl σ, I k fl σ -> U P orc aV c n fl σ (alR I k Q)) : ∀ k fl σ, I k fl σ -> U P orc aV (.loop c) n fl σ Q := by
  intro k
  induction k using Nat.strongRecOn with
  | ind k ih =>
    intro fl σ hI h0 G S0 t h ms Iv; refine jG.loop ((hs k fl σ hI h0 G S0 t h ms Iv).mono fun e fr h' hq => ?_); obtain ⟨hn, eV, aJ, I', q⟩ := hq
    cases e with
    | normal =>
      obtain ⟨t', n', ms'⟩ := fr; obtain rfl : n' = n := hn; obtain ⟨k', fl2, hk, jW, hI2⟩ := q
      exact ih k' hk fl2 aJ hI2 h0 G S0 t' h' ms' (I'.sub fl2 (zC jW))
    | exit i => exact ⟨hn, eV, aJ, I', q⟩
    | ret => exact ⟨hn, eV, aJ, I', q⟩
theorem U.text {id : Nat} {ops : Array Oper} (hx : J P orc ops n ops.toList fl σ fun eV aJ => Q .normal eV aJ) : U P orc aV (.region id ops false) n fl σ Q := fun h0 G S0 t h ms I =>
  jG.text (by
    obtain ⟨m, t', h', h1, eV, aJ, h2, h3⟩ := hx h0 G S0 t h ms I
    exact ⟨m, t', h', h1, rfl, eV, aJ, h2, h3⟩)
theorem J.nil (hk : K fl σ) : J P orc ops n [] fl σ K := fun _ _ _ _ _ _ I => mP.nil ⟨fl, σ, I, hk⟩
theorem oB (hp : σ.Perm aJ) : (own σ).Perm (own aJ) := hp.flatMap_right _
theorem Iv.perm (I : Iv h0 G S0 h σ t ms fl) (hp : σ.Perm aJ) : Iv h0 G S0 h aJ t ms fl := by
  refine I.step (B := []) (fun b hb => by cases hb) (cD.refl h []) (fun b hb => .inl ((oB hp).mem_iff.2 hb)) ((oB hp).nodup_iff.1 I.apart) fun c hc => ?_
  have hN : cH h (own σ ++ S0) h (own aJ ++ S0) := cH.less fun b hb => by
    rcases List.mem_append.1 hb with hb | hb
    . exact List.mem_append_left _ ((oB hp).mem_iff.2 hb)
    exact List.mem_append_right _ hb
  exact (I.cells c (hp.mem_iff.2 hc)).keep (fun _ _ => rfl) hN fun b hb => List.mem_append_left _ (List.mem_flatMap.2 ⟨c, hc, hb⟩)
theorem J.perm (hp : σ.Perm aJ) (hx : J P orc ops n l fl aJ K) : J P orc ops n l fl σ K := fun h0 G S0 t h ms I => hx h0 G S0 t h ms (I.perm hp)
theorem U.perm {c : Code} (hp : σ.Perm aJ) (hx : U P orc aV c n fl aJ Q) : U P orc aV c n fl σ Q := fun h0 G S0 t h ms I => hx h0 G S0 t h ms (I.perm hp)
end Go.Fs
namespace Go.Fs
variable {P : Program} {orc : FuncId -> List Value -> Heap -> Option (Value × Heap)} {aV : Option Nat} {h h' h0 h1 h2 : Heap} {S S' S0 B G : List Nat} {σ aJ : aG} {t t' : Tr} {ms : List Nat} {fl : VL} {ops : Array Oper} {n : Nat} {l : List Oper} {K : VL -> aG -> Prop} {Q : Ex -> VL -> aG -> Prop}
  {d : Tmp} {ty : TypeId} {pos : String} {after : Array Edge} {op : Op} {v : PV} {g : Option (Nat × Bool)}
structure Lc (S0 : List Nat) (h : Heap) (σ : aG) (t : Tr) (fl : VL) : Prop where
  ok : mU h
  s0 : ∀ b ∈ S0, b < h.next
  cells : ∀ c ∈ σ, bA h (own σ ++ S0) c.1 c.2
  sep : ∀ b ∈ own σ, b ∉ S0
  apart : (own σ).Nodup
  aH : eK h (own σ ++ S0) t fl
theorem Iv.lc (I : Iv h0 G S0 h σ t ms fl) : Lc S0 h σ t fl := ⟨I.ok, fun b hb => Nat.lt_of_lt_of_le (I.s0 b hb) I.gC.next, I.cells, fun b hb => (I.new b hb).2, I.apart, I.aH⟩
theorem Lc.aA (L : Lc S0 h σ t fl) (hg : ∀ b, h'.get b = h.get b) (hn : h'.next = h.next) : Lc S0 h' σ t fl :=
  ⟨fun b o hb => by rw [hn]; exact L.ok b o (by rw [<- hg]; exact hb), fun b hb => by rw [hn]; exact L.s0 b hb, fun c hc => (L.cells c hc).keep (fun b _ => hg b) (cH.aA hg) fun b hb => List.mem_append_left _ (List.mem_flatMap.2 ⟨c, hc, hb⟩), L.sep, L.apart, L.aH.nx (cH.aA hg)⟩
theorem Lc.lt (L : Lc S0 h σ t fl) : ∀ b ∈ own σ ++ S0, b < h.next := fun b hb => by
  rcases List.mem_append.1 hb with hb | hb
  . exact wD L.cells L.ok b hb
  exact L.s0 b hb
theorem GT.less (hs : GT h S) (hb : ∀ b, b ∈ S' -> b ∈ S) : GT h S' := hs.nx (cH.less hb)
theorem Lc.sok (L : Lc S0 h σ t fl) : P8 h S0 := ⟨L.s0, L.aH.1.less fun b hb => List.mem_append_right _ hb⟩
theorem Lc.slt (L : Lc S0 h σ t fl) : SA h S0 := L.aH.1.slt L.ok L.s0
theorem Lc.ak9 (L : Lc S0 h σ t fl) : P8 h (own σ ++ S0) := ⟨L.lt, L.aH.1⟩
def G8 (h : Heap) (S : List Nat) (t : Tr) (fl : VL) (op : Op) : Prop := ∀ x ∈ op.operands.toList, ∀ pv, b9 fl x = some pv -> aI h S pv (aB t x)
theorem eK.y6 (hs : eK h S t fl) : G8 h S t fl op := fun _ _ _ hx => dP hs hx
def aK (P : Program) (fl : VL) (σ : aG) (op : Op) (v : PV) : Prop := calm op = true /\ ∀ (h : Heap) (S : List Nat) (t : Tr), G8 h S t fl op -> (∀ c ∈ σ, bA h S c.1 c.2) ->
  ∃ u, aI h S v u /\ ∀ (d : Option Tmp) (ty : TypeId) (pos : String) (after : Array Edge) (g : Option (Nat × Bool)) (H : Heap), iI P ⟨d, op, ty, pos, after, g⟩ (aB t) H = some (u, H)
def dN (P : Program) (fl : VL) (σ : aG) (op : Op) (v : PV) : Prop := calm op = false /\ ∀ (h : Heap) (S : List Nat) (t : Tr), G8 h S t fl op -> (∀ c ∈ σ, bA h S c.1 c.2) ->
  ∃ u, aI h S v u /\ ∀ H : Heap, (∀ b o, h.get b = some o -> H.get b = some o) -> ∀ (d : Option Tmp) (ty : TypeId) (pos : String) (after : Array Edge) (g : Option (Nat × Bool)), iI P ⟨d, op, ty, pos, after, g⟩ (aB t) H = some (u, H)
structure Made (S0 : List Nat) (h h' : Heap) (σ aJ : aG) : Prop where
  gC : cD h h' (own σ)
  new : ∀ b ∈ own aJ, b ∈ own σ \/ h.next <= b
  apart : (own aJ).Nodup
  cells : ∀ c ∈ aJ, bA h' (own aJ ++ S0) c.1 c.2
theorem Iv.made (I : Iv h0 G S0 h σ t ms fl) (m : Made S0 h h' σ aJ) : Iv h0 G S0 h' aJ t ms fl := I.step (fun _ hb => hb) m.gC m.new m.apart m.cells
def bF (P : Program) (fl : VL) (σ : aG) (op : Op) (T : PV -> aG -> Prop) : Prop := calm op = false /\ ∀ (S0 : List Nat) (h : Heap) (t : Tr), Lc S0 h σ t fl ->
  ∃ u h' v aJ, T v aJ /\ Made S0 h h' σ aJ /\ aI h' (own aJ ++ S0) v u /\ ∀ (d : Option Tmp) (ty : TypeId) (pos : String) (after : Array Edge) (g : Option (Nat × Bool)), iI P ⟨d, op, ty, pos, after, g⟩ (aB t) h = some (u, h')
def JI : Value -> Bool
  | .tuple ⟨[]⟩ => true
  | _ => false
def dU (ops : Array Oper) (fl : VL) : Option (Nat × Bool) -> Option Bool
  | none => some true
  | some (j, w) => match (ops[j]?).bind (·.dst) with
    | none => some false
    | some d => match lC fl d with
      | some (.v .bool b) => some (b == w)
      | some (.raw u) => bif JI u then some false else none
      | _ => none
theorem dC (hs : eK h S t fl) {o : Oper} {r : Bool} (hw : dU ops fl o.guard = some r) : bR ops t o = some r := by
  unfold dU at hw; unfold bR; split at hw
  . rename_i hg; rw [hg]; exact hw
  rename_i j w hg; rw [hg]; split at hw
  . rename_i hd; simp only [hd]; exact hw
  rename_i d hd; simp only [hd]; split at hw
  . rename_i b hb; have := (hs d _ hb : aI h S (.v .bool b) _).bool; rw [this]; exact hw
  . rename_i u hb; have h1 : t.get d = u := hs d _ hb; rw [h1]
    cases hu : JI u with
    | false => rw [hu] at hw; cases hw
    | true =>
      rw [hu] at hw; obtain rfl := Option.some.inj hw; unfold JI at hu; split at hu
      . rfl
      cases hu
  cases hw
theorem fits (hn : (Nat.blt d n && Nat.ble n 4000) = true) : Nat.blt d n = true /\ d < 4000 := by
  obtain ⟨h1, h2⟩ := aY hn; exact ⟨h1, Nat.lt_of_lt_of_le (jB h1) (dY h2)⟩
theorem cE (hn : Nat.blt d n = true) (t : Tr) (u : Value) : put n t (some d) u = some (t.set depth d u) := by rw [adP, hn]; rfl
theorem J.c (hs : aK P fl σ op v) (hk : J P orc ops n l ((d, v) :: fl) σ K) (hw : dU ops fl g = some true := by rfl) (hn : (Nat.blt d n && Nat.ble n 4000) = true := by rfl) : J P orc ops n (⟨some d, op, ty, pos, after, g⟩ :: l) fl σ K := fun h0 G S0 t h ms I => by
  obtain ⟨u, h1, h2⟩ := hs.2 h _ t I.aH.y6 I.cells; obtain ⟨n1, n2⟩ := fits hn; exact mP.op (dC I.aH hw) (h2 _ _ _ _ _ h) (cE n1 t u) (hk h0 G S0 _ h ms (I.set h1 n2))
theorem J.r (hs : dN P fl σ op v) (hk : J P orc ops n l ((d, v) :: fl) σ K) (hw : dU ops fl g = some true := by rfl) (hn : (Nat.blt d n && Nat.ble n 4000) = true := by rfl) : J P orc ops n (⟨some d, op, ty, pos, after, g⟩ :: l) fl σ K := fun h0 G S0 t h ms I => by
  obtain ⟨u, h1, h2⟩ := hs.2 h _ t I.aH.y6 I.cells; obtain ⟨n1, n2⟩ := fits hn; exact mP.op (dC I.aH hw) (h2 h (fun _ _ x => x) _ _ _ _ _) (cE n1 t u) (hk h0 G S0 _ h ms (I.set h1 n2))
theorem J.mk {T : PV -> aG -> Prop} (hs : bF P fl σ op T) (hk : ∀ v aJ, T v aJ -> J P orc ops n l ((d, v) :: fl) aJ K) (hw : dU ops fl g = some true := by rfl) (hn : (Nat.blt d n && Nat.ble n 4000) = true := by rfl) : J P orc ops n (⟨some d, op, ty, pos, after, g⟩ :: l) fl σ K := fun h0 G S0 t h ms I => by
  obtain ⟨u, h', v, aJ, h1, h2, h3, h4⟩ := hs.2 S0 h t I.lc; obtain ⟨n1, n2⟩ := fits hn; exact mP.op (dC I.aH hw) (h4 _ _ _ _ _) (cE n1 t u) (hk v aJ h1 h0 G S0 _ h' ms ((I.made h2).set h3 n2))
theorem J.oN {T : PV -> aG -> Prop} (hs : bF P fl σ op T) (hk : ∀ v aJ, T v aJ -> J P orc ops n l fl aJ K) (hw : dU ops fl g = some true := by rfl) : J P orc ops n (⟨none, op, ty, pos, after, g⟩ :: l) fl σ K := fun h0 G S0 t h ms I => by
  obtain ⟨u, h', v, aJ, h1, h2, h3, h4⟩ := hs.2 S0 h t I.lc; exact mP.op (dC I.aH hw) (h4 _ _ _ _ _) rfl (hk v aJ h1 h0 G S0 _ h' ms (I.made h2))
theorem J.skip (hk : J P orc ops n l ((d, .raw undef) :: fl) σ K) (hw : dU ops fl g = some false := by rfl) (hn : (Nat.blt d n && Nat.ble n 4000) = true := by rfl) : J P orc ops n (⟨some d, op, ty, pos, after, g⟩ :: l) fl σ K := fun h0 G S0 t h ms I => by
  obtain ⟨n1, n2⟩ := fits hn; exact mP.skip (dC I.aH hw) (cE n1 t undef) (hk h0 G S0 _ h ms (I.set (show aI _ _ (.raw undef) undef from rfl) n2))
theorem J.splitB {x : Tmp} {r : Bool} (hc : lC fl x = some (.v .bool r)) (ht : r = true -> J P orc ops n l ((x, .v .bool true) :: fl) σ K) (hf : r = false -> J P orc ops n l ((x, .v .bool false) :: fl) σ K) : J P orc ops n l fl σ K := fun h0 G S0 t h ms I => by
  have hx : Iv h0 G S0 h σ t ms ((x, .v .bool r) :: fl) := { I with aH := I.aH.cons (I.aH x _ hc) }
  cases r with
  | true => exact ht rfl h0 G S0 t h ms hx
  | false => exact hf rfl h0 G S0 t h ms hx
theorem J.iW {x : Tmp} {p : Prop} {inst : Decidable p} (hc : lC fl x = some (.v .bool (@decide p inst))) (ht : p -> J P orc ops n l ((x, .v .bool true) :: fl) σ K) (hf : ¬ p -> J P orc ops n l ((x, .v .bool false) :: fl) σ K) : J P orc ops n l fl σ K :=
  J.splitB hc (fun h => ht (of_decide_eq_true h)) fun h => hf (of_decide_eq_false h)
theorem Iv.cell0 (I : Iv h0 G S0 h σ t ms fl) (e : TypeId) (τ : Ty) : Iv h0 G S0 h ((.slice none 0 0, .row e τ []) :: σ) t ms fl := by
  have ho : own ((.slice none 0 0, .row e τ []) :: σ) = own σ := rfl; refine I.step (B := []) (fun b hb => by cases hb) (cD.refl h []) (fun b hb => .inl hb) I.apart fun c hc => ?_; rcases List.mem_cons.1 hc with rfl | hc
  . exact .inl ⟨rfl, rfl⟩
  exact I.cells c hc
theorem U.cell0 {c : Code} (e : TypeId) (τ : Ty) (hx : U P orc aV c n fl ((.slice none 0 0, .row e τ []) :: σ) Q) : U P orc aV c n fl σ Q := fun h0 G S0 t h ms I => hx h0 G S0 t h ms (I.cell0 e τ)
theorem Iv.forget {c : Value × Cell} (I : Iv h0 G S0 h (c :: σ) t ms fl) : Iv h0 G S0 h σ t ms fl := by
  have ho : own (c :: σ) = cI c.1 ++ own σ := rfl
  have jW : ∀ b ∈ own σ, b ∈ own (c :: σ) := fun b hb => by rw [ho]; exact List.mem_append_right _ hb
  refine I.step (B := []) (fun b hb => by cases hb) (cD.refl h []) (fun b hb => .inl (jW b hb)) ?_ fun d hd => ?_
  . have := I.apart; rw [ho] at this; exact (List.nodup_append.1 this).2.1
  refine (I.cells d (List.mem_cons_of_mem _ hd)).keep (fun _ _ => rfl) (cH.less fun b hb => ?_) fun b hb => List.mem_append_left _ (List.mem_flatMap.2 ⟨d, hd, hb⟩); rcases List.mem_append.1 hb with hb | hb
  . exact List.mem_append_left _ (jW b hb)
  exact List.mem_append_right _ hb
def iO : (τ : Ty) -> τ.den -> List PV
  | .pair a b, x => iO a x.1 ++ iO b x.2
  | .unit, _ => []
  | .int k, n => [.v (.int k) n]
  | .bool, b => [.v .bool b]
  | .str, s => [.v .str s]
  | .rV k, b => [.v (.rV k) b]
  | .sl e, xs => [.v (.sl e) xs]
  | .mp a b, xs => [.v (.mp a b) xs]
  | .fn, f => [.v .fn f]
  | .kP, f => [.v .kP f]
theorem b6.split : ∀ {l l' : List PV} {us : List Value}, b6 h S (l ++ l') us -> ∃ a b, us = a ++ b /\ b6 h S l a /\ b6 h S l' b
  | [], l', us, hx => ⟨[], us, rfl, rfl, hx⟩
  | p :: ps, l', us, ⟨u, r, h1, h2, h3⟩ => by
    obtain ⟨a, b, rfl, h5, h6⟩ := b6.split h3; exact ⟨u :: a, b, by rw [h1]; rfl, ⟨u, a, rfl, h2, h5⟩, h6⟩
theorem oC {τ : Ty} {x : τ.den} {us : List Value} (ha : τ.agg = false) (hx : b6 h S [.v τ x] us) : cR h S τ us x := by
  obtain ⟨u, r, rfl, h2, rfl⟩ := hx; exact aF.last ha h2
theorem oD : ∀ {τ : Ty} {x : τ.den} {us : List Value}, b6 h S (iO τ x) us -> cR h S τ us x
  | .pair a b, x, us, hx => by
    obtain ⟨u1, u2, rfl, h1, h2⟩ := b6.split hx; have e1 := oD h1; have e2 := oD h2; have hl := e1.len
    exact ⟨by rw [List.take_left' hl]; exact e1, by rw [List.drop_left' hl]; exact e2⟩
  | .unit, x, us, hx => hx
  | .int k, x, us, hx => oC rfl hx
  | .bool, x, us, hx => oC rfl hx
  | .str, x, us, hx => oC rfl hx
  | .rV k, x, us, hx => oC rfl hx
  | .sl e, x, us, hx => oC rfl hx
  | .mp a b, x, us, hx => oC rfl hx
  | .fn, x, us, hx => oC rfl hx
  | .kP, x, us, hx => oC rfl hx
theorem oE : ∀ {τ : Ty} {x : τ.den} {us : List Value}, cR h S τ us x -> b6 h S (iO τ x) us
  | .pair a b, x, us, hx => by
    have e1 := oE hx.1; have e2 := oE hx.2; have := e1.append e2
    rwa [List.take_append_drop] at this
  | .unit, x, us, hx => hx
  | .int k, x, us, hx => let ⟨u, h1, h2⟩ := hx.one rfl; ⟨u, [], h1, h2, rfl⟩
  | .bool, x, us, hx => let ⟨u, h1, h2⟩ := hx.one rfl; ⟨u, [], h1, h2, rfl⟩
  | .str, x, us, hx => let ⟨u, h1, h2⟩ := hx.one rfl; ⟨u, [], h1, h2, rfl⟩
  | .rV k, x, us, hx => let ⟨u, h1, h2⟩ := hx.one rfl; ⟨u, [], h1, h2, rfl⟩
  | .sl e, x, us, hx => let ⟨u, h1, h2⟩ := hx.one rfl; ⟨u, [], h1, h2, rfl⟩
  | .mp a b, x, us, hx => let ⟨u, h1, h2⟩ := hx.one rfl; ⟨u, [], h1, h2, rfl⟩
  | .fn, x, us, hx => let ⟨u, h1, h2⟩ := hx.one rfl; ⟨u, [], h1, h2, rfl⟩
  | .kP, x, us, hx => let ⟨u, h1, h2⟩ := hx.one rfl; ⟨u, [], h1, h2, rfl⟩
mutual
/-- What is told of a slot, with own cells told asl data. -/
inductive Co (σ : aG) : PV -> PV -> Prop where
  | same {p : PV} : Co σ p p
  | row {w : Value} {e : TypeId} {τ : Ty} {xs : List τ.den} (hm : (w, Cell.row e τ xs) ∈ σ) : Co σ (.raw w) (.v (.sl τ) xs)
  | nil {τ : Ty} : Co σ (.raw (.slice none 0 0)) (.v (.sl τ) [])
  | cap {w : Value} {e : TypeId} {n : Nat} {τ : Ty} {xs : List τ.den} (hm : (w, Cell.cap e n τ xs) ∈ σ) : Co σ (.raw w) (.v (.sl τ) xs)
  | adX {κ ν : Ty} : Co σ (.raw (.map none)) (.v (.mp κ ν) [])
  | mp {w : Value} {κ ν : Ty} {kvs : List (κ.den × ν.den)} (hm : (w, Cell.mp κ ν kvs) ∈ σ) : Co σ (.raw w) (.v (.mp κ ν) kvs)
  | var {p : Value} {cs : List PV} {τ : Ty} {x : τ.den} (hm : (p, Cell.var cs) ∈ σ) (hc : rI σ cs (iO τ x)) : Co σ (.raw p) (.p τ x)
  | gJ {f : FuncId} {a a' c c' : List PV} (ha : rI σ a a') (hc : rI σ c c') : Co σ (.gJ f a c) (.gJ f a' c')
  | mE {l l' : List PV} (hl : rI σ l l') : Co σ (.mE l) (.mE l')
  | sem {p p' : PV} (hs : ∀ (h : Heap) (S0 : List Nat) (u : Value), (∀ c ∈ σ, bA h (own σ ++ S0) c.1 c.2) -> (∀ b ∈ own σ, b ∉ S0) -> aI h (own σ ++ S0) p u -> aI h S0 p' u) : Co σ p p'
  | eE {w : Value} {e : TypeId} {n : Nat} {cs : List PV} {τ : Ty} {xs : List τ.den} (hm : (w, Cell.eE e n cs) ∈ σ) (hn : n = xs.length) (hc : rI σ cs (xs.flatMap (iO τ))) : Co σ (.raw w) (.v (.sl τ) xs)
inductive rI (σ : aG) : List PV -> List PV -> Prop where
  | nil : rI σ [] []
  | cons {p p' : PV} {l l' : List PV} (hp : Co σ p p') (hl : rI σ l l') : rI σ (p :: l) (p' :: l')
end
theorem rI.refl : ∀ {l : List PV}, rI σ l l
  | [] => .nil
  | _ :: _ => .cons .same rI.refl
theorem aaX {w : Value} {e : TypeId} {τ : Ty} {xs : List τ.den} (hc : bA h (S ++ S0) w (.row e τ xs)) (hs : ∀ b ∈ cI w, b ∉ S0) : lW h S0 τ w xs := by
  rcases hc with ⟨rfl, rfl⟩ | ⟨b, rs, m, rfl, h2, h3, h4⟩
  . exact .inl ⟨rfl, rfl⟩
  exact (h4.nx (cH.less fun c hc => List.mem_append_right _ hc)).slv h3 (hs b (by simp [cI]))
theorem aaY {w : Value} {e : TypeId} {n : Nat} {τ : Ty} {xs : List τ.den} (hc : bA h (S ++ S0) w (.cap e n τ xs)) (hs : ∀ b ∈ cI w, b ∉ S0) : lW h S0 τ w xs := by
  obtain ⟨b, rs, m, rfl, h2, h4, h5, h6, h7⟩ := hc; have hb : b ∉ S0 := hs b (by simp [cI]); have hle : xs.length * τ.size <= n * τ.size := Nat.mul_le_mul_right _ h6; refine .inr ⟨b, 0, 0, rfl, .inr ⟨hb, e, rs, true, m, h4, by omega, fun i hi => ?_⟩⟩; have h8 := (h7.nx (cH.less (S' := S0) fun c hc => List.mem_append_right _ hc)).2 i hi; have h9 : (i + 1) * τ.size <= xs.length * τ.size := Nat.mul_le_mul_right _ hi; rw [Nat.add_mul, Nat.one_mul] at h9; rw [List.drop_take, List.take_take, Nat.min_eq_left (by omega)] at h8; rw [Nat.zero_add]; exact h8
theorem adY {w : Value} {κ ν : Ty} {kvs : List (κ.den × ν.den)} (hc : bA h (S ++ S0) w (.mp κ ν kvs)) (hs : ∀ b ∈ cI w, b ∉ S0) : VZ h S0 κ ν w kvs := by
  obtain ⟨b, es, c, rfl, h2, h3, h4, h5⟩ := hc; have hN : cH h (S ++ S0) h S0 := cH.less fun c hc => List.mem_append_right _ hc; exact .inr ⟨b, es, c, rfl, hs b (by simp [cI]), h3, h4, fun i hi hj => ⟨(h5 i hi hj).1.nx hN, (h5 i hi hj).2.nx hN⟩⟩
theorem CQ {τ : Ty} : ∀ {xs : List τ.den} {rs : List Value}, b6 h S (xs.flatMap (iO τ)) rs -> cV h S τ rs xs
  | [], rs, hx => by
    obtain rfl : rs = [] := hx
    exact ⟨by simp, fun i hi => absurd hi (by simp)⟩
  | x :: xs, rs, hx => by
    rw [List.flatMap_cons] at hx; obtain ⟨a, b, rfl, h1, h2⟩ := b6.split hx; have e1 := oD h1; have e2 := CQ (xs := xs) h2; have hl := e1.len; refine ⟨by rw [List.length_append, hl, e2.1, List.length_cons, Nat.add_mul, Nat.one_mul, Nat.add_comm], fun i hi => ?_⟩
    cases i with
    | zero =>
      rw [Nat.zero_mul, List.drop_zero, List.take_left' hl]
      exact e1
    | succ i =>
      have h3 := e2.2 i (by simpa using hi); rw [show (i + 1) * τ.size = a.length + i * τ.size by rw [hl, Nat.add_mul, Nat.one_mul, Nat.add_comm], List.drop_append, List.drop_eq_nil_of_le (by omega), List.nil_append, Nat.add_sub_cancel_left]; exact h3
mutual
theorem Co.ok (hc : ∀ c ∈ σ, bA h (own σ ++ S0) c.1 c.2) (hs : ∀ b ∈ own σ, b ∉ S0) : ∀ {p p' : PV} {u : Value}, Co σ p p' -> aI h (own σ ++ S0) p u -> aI h S0 p' u
  | _, _, u, .same, hu => hu.nx (cH.less fun b hb => List.mem_append_right _ hb)
  | _, _, u, .row hm, hu => by
    obtain rfl := hu
    exact (aaX (hc _ hm) fun b hb => hs b (List.mem_flatMap.2 ⟨_, hm, hb⟩)).rep
  | _, _, u, .nil, hu => by obtain rfl := hu; exact lW.nil.rep
  | _, _, u, .adX, hu => by obtain rfl := hu; exact VZ.rep (.inl ⟨rfl, rfl⟩)
  | _, _, u, .cap hm, hu => by
    obtain rfl := hu
    exact (aaY (hc _ hm) fun b hb => hs b (List.mem_flatMap.2 ⟨_, hm, hb⟩)).rep
  | _, _, u, .mp hm, hu => by
    obtain rfl := hu
    exact (adY (hc _ hm) fun b hb => hs b (List.mem_flatMap.2 ⟨_, hm, hb⟩)).rep
  | _, _, u, .var hm hl, hu => by
    obtain rfl := hu; obtain ⟨b, e, vs, h1, h2, h3, h4, h5⟩ := hc _ hm; have hr := oD (rI.ok hc hs hl h4); have hlen := hr.len; refine ⟨b, 0, e, vs, true, false, h1, hs b (List.mem_flatMap.2 ⟨_, hm, by rw [show u = _ from h1]; simp [cI]⟩), h3, by omega, ?_⟩; rw [List.drop_zero, List.take_of_length_le (by omega)]
    exact hr
  | _, _, u, .gJ ha y4, ⟨va, vc, h1, h2, h3⟩ => ⟨va, vc, h1, rI.ok hc hs ha h2, rI.ok hc hs y4 h3⟩
  | _, _, u, .mE hl, ⟨vs, h1, h2⟩ => ⟨vs, h1, rI.ok hc hs hl h2⟩
  | _, _, u, .sem hq, hu => hq _ _ _ hc hs hu
  | _, _, u, .eE hm hn hl, hu => by
    obtain rfl := hu; have VM := fun b hb => hs b (List.mem_flatMap.2 ⟨_, hm, hb⟩); rcases hc _ hm with ⟨h1, h2, h3⟩ | ⟨b, rs, m, h1, h2, h3, h4, h5⟩
    . have hx := List.length_eq_zero_iff.1 (hn.symm.trans h2); subst hx; have rD : u = _ := h1; rw [rD]; exact lW.nil.rep
    have hr := CQ (rI.ok hc hs hl h4); have rD : u = _ := h1; subst rD; rw [hn]; exact (hr.slv h3 (VM b (by simp [cI]))).rep
theorem rI.ok (hc : ∀ c ∈ σ, bA h (own σ ++ S0) c.1 c.2) (hs : ∀ b ∈ own σ, b ∉ S0) : ∀ {l l' : List PV} {us : List Value}, rI σ l l' -> b6 h (own σ ++ S0) l us -> b6 h S0 l' us
  | _, _, us, .nil, hu => hu
  | _, _, us, .cons hp hl, ⟨u, r, h1, h2, h3⟩ => ⟨u, r, h1, Co.ok hc hs hp h2, rI.ok hc hs hl h3⟩
end
inductive MJ (fl : VL) (c : Value × Cell) : VL -> Prop where
  | nil : MJ fl c []
  | cons {k : Nat} {p p' : PV} {r : VL} (hk : lC fl k = some p) (hc : Co [c] p p') (hr : MJ fl c r) : MJ fl c ((k, p') :: r)
theorem Iv.shut {c : Value × Cell} {nw : VL} (I : Iv h0 G S0 h (c :: σ) t ms fl) (hs : MJ fl c nw) : Iv h0 G S0 h σ t ms (nw ++ fl) := by
  have I' := I.forget; have ho : own (c :: σ) = cI c.1 ++ own σ := rfl
  have JJ : own [c] = cI c.1 := by show cI c.1 ++ [] = _; rw [List.append_nil]
  have zX : eK h (own σ ++ S0) t (nw ++ fl) := by
    clear I'
    induction hs with
    | nil => exact I.forget.aH
    | cons hk hc hr ih =>
      refine ih.cons (Co.ok (σ := [c]) (S0 := own σ ++ S0) (fun d hd => ?_) (fun b hb => ?_) hc ?_)
      . obtain rfl := List.mem_singleton.1 hd; have := I.cells d List.mem_cons_self; rw [JJ, <- List.append_assoc, <- ho]; exact this
      . rw [JJ] at hb; have h1 := I.apart; rw [ho] at h1; intro hm; rcases List.mem_append.1 hm with hm | hm
        . exact (List.nodup_append.1 h1).2.2 b hb b hm rfl
        exact (I.new b (by rw [ho]; exact List.mem_append_left _ hb)).2 hm
      rw [JJ, <- List.append_assoc, <- ho]; exact I.aH _ _ hk
  exact { I' with aH := zX }
theorem J.shut {c : Value × Cell} (nw : VL) (hs : MJ fl c nw) (hx : J P orc ops n l (nw ++ fl) σ K) : J P orc ops n l fl (c :: σ) K := fun h0 G S0 t h ms I => hx h0 G S0 t h ms (I.shut hs)
theorem U.shut {a : Code} {c : Value × Cell} (nw : VL) (hs : MJ fl c nw) (hx : U P orc aV a n (nw ++ fl) σ Q) : U P orc aV a n fl (c :: σ) Q := fun h0 G S0 t h ms I => hx h0 G S0 t h ms (I.shut hs)
end Go.Fs
namespace Go.Fs
variable {P : Program} {orc : FuncId -> List Value -> Heap -> Option (Value × Heap)} {aV : Option Nat} {h h' h0 h1 h2 : Heap} {S S' S0 B G : List Nat} {σ aJ : aG} {t t' : Tr} {ms : List Nat} {fl : VL} {ops : Array Oper} {n : Nat} {l : List Oper} {K : VL -> aG -> Prop} {Q : Ex -> VL -> aG -> Prop}
  {d : Tmp} {ty : TypeId} {pos : String} {after : Array Edge} {op : Op} {v : PV} {g : Option (Nat × Bool)}
section
variable (P orc)
def VF (f : FuncId) (args : List PV) (r : PV) : Prop := ∀ (h : Heap) (S : List Nat) (us : List Value), mU h -> P8 h S -> b6 h S args us -> oS P orc f us h fun u h' => cD h h' [] /\ aI h' S r u /\ (r.flat = true -> h' = h)
def wE (F : PV) (args : List PV) (r : PV) : Prop := ∃ f a c, F = .gJ f a c /\ VF P orc f (a ++ args ++ c) r
end
theorem VF.call {f : FuncId} {args : List PV} {r : PV} (hf : VF P orc f args r) : wE P orc (.gJ f [] []) args r := ⟨f, [], [], rfl, by simpa using hf⟩
theorem wE.ev {F : PV} {args : List PV} {r : PV} (hc : wE P orc F args r) {u : Value} {us : List Value} (bD : mU h) (hS : P8 h S) (hF : aI h S F u) (ha : b6 h S args us) :
    ∃ f a c, u = .func (.func f) a c /\ oS P orc f (a.toList ++ us ++ c.toList) h fun u h' => cD h h' [] /\ aI h' S r u /\ (r.flat = true -> h' = h) := by
  obtain ⟨f, a, c, rfl, hv⟩ := hc; obtain ⟨va, vc, rfl, h1, h2⟩ := hF; exact ⟨f, va.toArray, vc.toArray, rfl, hv h S _ bD hS ((h1.append ha).append h2)⟩
theorem J.call {f : Operand} {args : Array Operand} {nX : Array TypeId} {F r : PV} {asl : List PV} (hf : b9 fl f = some F) (ha : lI fl args.toList = some asl) (hc : wE P orc F asl r) (hk : J P orc ops n l ((d, r) :: fl) σ K)
    (hw : dU ops fl g = some true := by rfl) (hn : (Nat.blt d n && Nat.ble n 4000) = true := by rfl) : J P orc ops n (⟨some d, .call { callee := .value f, args := args, argTypes := nX }, ty, pos, after, g⟩ :: l) fl σ K := fun h0 G S0 t h ms I => by
  obtain ⟨n1, n2⟩ := fits hn; obtain ⟨PB, a, c, h1, h2⟩ := hc.ev I.ok (Lc.ak9 I.lc) (dP I.aH hf) (pA I.aH ha); refine mP.call (dC I.aH hw) rfl rfl h1 (h2.mono fun u h' hq => ?_); obtain ⟨q1, q2, _⟩ := hq; exact ⟨_, cE n1 t u, hk h0 G S0 _ h' ms ((I.calm q1).set q2 n2)⟩
theorem J.PC {f : Operand} {args : Array Operand} {nX : Array TypeId} {F F' r : PV} {asl zY : List PV} (hf : b9 fl f = some F) (ha : lI fl args.toList = some asl) (cF : Co σ F F') (ca : rI σ asl zY) (hr : r.flat = true) (hc : wE P orc F' zY r) (hk : J P orc ops n l ((d, r) :: fl) σ K)
    (hw : dU ops fl g = some true := by rfl) (hn : (Nat.blt d n && Nat.ble n 4000) = true := by rfl) : J P orc ops n (⟨some d, .call { callee := .value f, args := args, argTypes := nX }, ty, pos, after, g⟩ :: l) fl σ K := fun h0 G S0 t h ms I => by
  obtain ⟨n1, n2⟩ := fits hn; have L := I.lc; obtain ⟨PB, a, c, h1, h2⟩ := hc.ev I.ok L.sok (cF.ok L.cells L.sep (dP I.aH hf)) (ca.ok L.cells L.sep (pA I.aH ha)); refine mP.call (dC I.aH hw) rfl rfl h1 (h2.mono fun u h' hq => ?_); obtain ⟨_, q2, q3⟩ := hq; obtain rfl := q3 hr; exact ⟨_, cE n1 t u, hk h0 G S0 _ h' ms (I.set ((q2.flat hr).2 _ _) n2)⟩
def q8 : Nat -> List PV -> VL
  | _, [] => []
  | i, v :: r => (i, v) :: q8 (i + 1) r
theorem oF : ∀ {l : List PV} {us : List Value} {i : Nat} {t : Tr}, GT h S -> b6 h S l us -> i + us.length <= 4000 -> eK h S (iS t i us) (q8 i l)
  | [], us, i, t, hG, hx, _ => ⟨hG, fun k v hk => by cases hk⟩
  | p :: ps, us, i, t, hG, ⟨u, r, h1, h2, h3⟩, hl => by
    subst h1; rw [List.length_cons] at hl; show eK h S (iS (t.set depth i u) (i + 1) r) ((i, p) :: q8 (i + 1) ps); refine (oF hG h3 (by omega)).cons ?_; rw [EP r (t.set depth i u) (i + 1) (by omega), if_pos (by omega), zA t i u i (by omega), if_pos rfl]; exact h2
theorem aoB {us : List Value} (h : us.all eN = true) : us.all rB = true := List.all_eq_true.2 fun u hu => by
  have h1 := List.all_eq_true.1 h u hu; cases u <;> first | exact h1 | cases h1
mutual
theorem aI.G9 : ∀ {pv : PV} {u : Value}, rB u = true -> aI h S pv u -> aI h' S' pv u
  | .v τ x, u, ha, hx => aF.uX (τ := τ) hx ha
  | .raw w, u, _, hx => hx
  | .p τ x, u, ha, hx => by
    obtain ⟨b, o, e, rs, own, more, rfl, _⟩ := hx
    cases ha
  | .gJ f a c, u, ha, hx => by
    obtain ⟨va, vc, rfl, _⟩ := hx
    cases ha
  | .mE l, u, ha, hx => by
    obtain ⟨vs, rfl, _⟩ := hx
    cases ha
  | .gd b v, u, ha, hx => ⟨fun e => aI.G9 ha (hx.1 e), hx.2⟩
  | .agg l, u, ha, hx => by
    obtain ⟨vs, rfl, h2⟩ := hx; exact ⟨vs, rfl, b6.G9 (aoB ha) h2⟩
theorem b6.G9 : ∀ {l : List PV} {us : List Value}, us.all rB = true -> b6 h S l us -> b6 h' S' l us
  | [], us, _, hx => hx
  | p :: ps, us, ha, ⟨u, r, h1, h2, h3⟩ => by
    subst h1; rw [List.all_cons] at ha; obtain ⟨a1, a2⟩ := aY ha; exact ⟨u, r, rfl, aI.G9 a1 h2, b6.G9 a2 h3⟩
end
theorem JK {vs : Array Value} {τ : Ty} {x : τ.den} (hx : aF h S τ (.tuple vs) x) : False := by
  have h1 := hx.1; have h2 := hx.2
  cases HJ : τ.agg with
  | true => rw [HJ] at h1; cases h1
  | false =>
    cases τ with
    | sl e => obtain ⟨v, h3, h4⟩ := h2; simp [Value.cells] at h3; subst h3; rcases h4 with ⟨h4, _⟩ | ⟨_, _, _, h4, _⟩ <;> cases h4
    | pair a b => cases HJ
    | unit => cases HJ
    | mp a b => obtain ⟨v, h3, h4⟩ := h2; simp [Value.cells] at h3; subst h3; rcases h4 with ⟨h4, _⟩ | ⟨_, _, _, h4, _⟩ <;> cases h4
    | fn => cases x <;> simp [cR, Value.cells, S7] at h2
    | kP => cases x <;> simp [cR, Value.cells, CO] at h2
    | int k => simp [cR, Value.cells] at h2
    | bool => simp [cR, Value.cells] at h2
    | str => simp [cR, Value.cells] at h2
    | rV k => simp [cR, Value.cells] at h2
theorem aI.EV : ∀ {pv : PV} {u : Value}, af u = true -> aI h S pv u -> aI h' S' pv u
  | .mE l, u, ha, hx => by
    obtain ⟨vs, rfl, h2⟩ := hx
    exact ⟨vs, rfl, h2.G9 ha⟩
  | .v τ x, u, ha, hx => by
    cases u with
    | tuple vs => exact (JK hx).elim
    | _ => exact aI.G9 (pv := .v τ x) ha hx
  | .p τ x, u, ha, hx => by
    obtain ⟨b, o, e, rs, own, more, rfl, _⟩ := hx
    cases ha
  | .raw w, u, ha, hx => hx
  | .gJ f a c, u, ha, hx => by
    obtain ⟨va, vc, rfl, _⟩ := hx
    cases ha
  | .gd b v, u, ha, hx => ⟨fun e => aI.EV ha (hx.1 e), hx.2⟩
  | .agg l, u, ha, hx => by
    have h1 := hx; obtain ⟨vs, rfl, _⟩ := hx; exact aI.G9 (pv := .agg l) ha h1
theorem sB : ∀ {ms : List Nat} {h : Heap}, ms.Nodup -> (∀ d ∈ ms, h.get d = some .iX) -> ∃ h2, j9 ms h = some h2 /\ cD h h2 ms /\ (∀ b, b ∉ ms -> h2.get b = h.get b)
  | [], h, _, _ => ⟨h, rfl, cD.refl _ _, fun _ _ => rfl⟩
  | d :: ms, h, hn, hd => by
    obtain ⟨RN, pO⟩ := List.nodup_cons.1 hn
    have hg : ∀ i ∈ ms, (h.drop d).get i = some .iX := fun i hi => by
      rw [Heap.cM, if_neg (fun e => RN (by subst e; exact hi))]; exact hd i (List.mem_cons_of_mem _ hi)
    obtain ⟨h2, e1, e2, e3⟩ := sB pO hg; refine ⟨h2, ?_, (cD.drop List.mem_cons_self).trans e2 fun i hi => .inl (List.mem_cons_of_mem _ hi), fun b hb => ?_⟩
    . simp only [j9, hd d List.mem_cons_self]; exact e1
    rw [List.mem_cons, not_or] at hb; rw [e3 b hb.2, Heap.cM, if_neg hb.1]
inductive v7 (P : Program) (fl : VL) (σ : aG) : ResultVar -> PV -> Prop where
  | tmp {i : Nat} {p p' : PV} (hi : lC fl i = some p) (hc : Co σ p p') : v7 P fl σ (.tmp i) p'
  | cell {a : Nat} {ty : TypeId} {p : Value} {cs : List PV} {τ : Ty} {x : τ.den} (ha : lC fl a = some (.raw p)) (hm : (p, Cell.var cs) ∈ σ) (hT : fN P ty τ) (hc : rI σ cs (iO τ x)) : v7 P fl σ (.cell a ty) (.v τ x)
inductive AA (P : Program) (fl : VL) (σ : aG) : List ResultVar -> List PV -> Prop where
  | nil : AA P fl σ [] []
  | cons {r : ResultVar} {p : PV} {rs : List ResultVar} {ps : List PV} (hr : v7 P fl σ r p) (hs : AA P fl σ rs ps) : AA P fl σ (r :: rs) (p :: ps)
def GA : List PV -> PV
  | [p] => p
  | l => .mE l
def aR (P : Program) (fn : Func) (r : PV) : Ex -> VL -> aG -> Prop := fun e fl σ => e.goes = true /\ ∃ ps, AA P fl σ fn.results.toList ps /\ GA ps = r
theorem v7.ok (L : Lc S0 h σ t fl) (hg : ∀ b o, h.get b = some o -> o ≠ .iX -> h2.get b = some o) (hN : p9 h S0 h2 S0) {r : ResultVar} {p : PV} (he : v7 P fl σ r p) : ∃ u, uO P t h2 r = some u /\ aI h2 S0 p u := by
  cases he with
  | tmp hi hc => exact ⟨_, rfl, (hc.ok L.cells L.sep (L.aH _ _ hi)).iV hN⟩
  | @cell a ty p cs τ x ha hm hT hc =>
    have hp : t.get a = p := L.aH _ _ ha; have hr : aI h S0 (.p τ x) p := Co.ok L.cells L.sep (.var hm hc) (show aI h _ (.raw p) p from rfl); have rR := (hr.iV hN : oA h2 S0 τ p x); obtain ⟨e1, e2⟩ := rR.adT hT; exact ⟨_, by show eO P ty (t.get a) h2 = _; rw [hp]; exact e1, e2⟩
theorem AA.ok (L : Lc S0 h σ t fl) (hg : ∀ b o, h.get b = some o -> o ≠ .iX -> h2.get b = some o) (hN : p9 h S0 h2 S0) : ∀ {rs : List ResultVar} {ps : List PV}, AA P fl σ rs ps -> ∃ us, iH P t h2 rs = some us /\ b6 h2 S0 ps us
  | _, _, .nil => ⟨[], rfl, rfl⟩
  | _, _, .cons hr hs => by
    obtain ⟨u, e1, e2⟩ := hr.ok L hg hN; obtain ⟨us, e3, e4⟩ := AA.ok L hg hN hs; exact ⟨u :: us, by simp only [iH, e1, e3], u, us, rfl, e2, e4⟩
theorem CR : ∀ {ps : List PV} {us : List Value}, b6 h S ps us -> aI h S (GA ps) (iA us)
  | [], us, hx => ⟨[], by rw [show us = [] from hx]; rfl, rfl⟩
  | [p], us, ⟨u, r, h1, h2, h3⟩ => by
    obtain rfl : r = [] := h3
    subst h1; exact h2
  | p :: q :: ps, us, hx => by
    obtain ⟨u, r, h1, h2, u2, r2, h3, h4, h5⟩ := hx; subst h1 h3; exact ⟨_, rfl, u, _, rfl, h2, u2, _, rfl, h4, h5⟩
theorem VF.enter {f : FuncId} {args : List PV} {fn : Func} {c : Code} {r : PV} (lB : P.funcs[f]? = some fn) (hc : fn.body = some c) (ho : ∀ us h, orc f us h = none) (hn : (Nat.blt 4000 fn.ntmps || Nat.blt fn.ntmps args.length) = false)
    (hb : U P orc none c fn.ntmps (q8 0 args) [] (aR P fn r)) : VF P orc f args r := fun h S us bD hS ha => by
  have hl := ha.len
  have pO : Nat.blt 4000 fn.ntmps = false /\ Nat.blt fn.ntmps args.length = false := by simpa using hn
  have n3 := gR pO.1; have n4 := gR pO.2; have oL : b6 (entry h) S args us := b6.nx (h := h) (h' := entry h) (cH.aA fun _ => rfl) ha
  have I0 : Iv (entry h) [] S (entry h) [] (iS .leaf 0 us) [] (q8 0 args) := {
    ok := bD
    s0 := hS.1
    gC := cD.refl _ _
    cells := fun c hc => by cases hc
    new := fun b hb => by cases hb
    apart := List.nodup_nil
    mark := fun d hd => by cases hd
    marks := List.nodup_nil
    aH := oF (hS.2.nx (cH.aA fun _ => rfl)) oL (by omega) }
  refine oS.enter lB hc (ho us h) (by rw [hl]; exact hn) ((hb (entry h) [] S _ (entry h) [] I0).mono fun e fr h1 hq => ?_); obtain ⟨_, eV, aJ, I, he, ps, uK, rfl⟩ := hq; obtain ⟨h2, d1, d2, d3⟩ := sB I.marks fun d hd => (I.mark d hd).2
  have eW : ∀ b o, h1.get b = some o -> o ≠ .iX -> h2.get b = some o := fun b o hg cL => by
    rw [d3 b (fun hm => cL (by have := (I.mark b hm).2; rw [hg] at this; exact Option.some.inj this))]; exact hg
  have a2 : cD (entry h) h2 [] := I.gC.trans d2 fun i hi => .inr (I.mark i hi).1; have hN : p9 h1 S h2 S := fun b _ hg cL pZ => ⟨eW b _ hg cL, pZ⟩; obtain ⟨us', e1, e2⟩ := uK.ok I.lc eW hN; have n7 := CR e2; have dK : h.next <= h2.low := a2.low h.next (Nat.le_refl _) (Nat.le_refl _) (by simp); refine ⟨he, h2, us', d1, e1, ?_⟩; unfold leftOf
  have aoC : Nat.ble h.next h2.low = true := by rw [Nat.ble_eq]; exact dK
  cases nJ : af (iA us') with
  | true =>
    rw [aoC]
    exact ⟨cD.refl _ _, n7.EV nJ, fun _ => rfl⟩
  | false =>
    refine ⟨⟨a2.next, fun b hb _ => a2.get b hb (by simp), fun x => a2.ok x, fun e h3 h4 _ => Nat.le_min.2 ⟨h3, Nat.le_trans h4 dK⟩, fun b hb => .inl (a2.get b hb (by simp)), Nat.min_le_left _ _⟩, aI.nx (h := h2) (h' := { next := h2.next, low := min h.low h2.low, aA := h2.aA }) (fun _ _ a b => ⟨a, b⟩) n7, fun hf => ?_⟩; rw [(n7.flat hf).1] at nJ; cases nJ
end Go.Fs
namespace Go.Fs
variable {P : Program} {orc : FuncId -> List Value -> Heap -> Option (Value × Heap)} {aV : Option Nat} {h h' h0 h1 h2 hs : Heap} {S S' S0 B G : List Nat} {σ aJ : aG} {t t' : Tr} {ms : List Nat} {fl : VL} {ops : Array Oper} {n i mem : Nat} {l : List Oper} {K : VL -> aG -> Prop} {Q : Ex -> VL -> aG -> Prop}
  {d : Tmp} {ty : TypeId} {pos : String} {after : Array Edge} {op : Op} {v : PV} {g : Option (Nat × Bool)} {bs nw : List Nat} {segs : List (Nat × Nat × Nat)} {tail so : Bool}
def nF : List Nat -> Nat -> Bool
  | [], _ => false
  | k :: r, i => bif Nat.beq k i then true else nF r i
def gT (old : Bool) (d : Nat) (nw : List Nat) : List Nat := bif old then nw.filter (fun k => !Nat.beq k d) else d :: nw
def MK (nw : List Nat) : Operand -> Bool
  | .tmp i => !nF nw i
  | _ => true
theorem nP {d k : Nat} (hk : k ≠ d) : ∀ {nw : List Nat}, nF (nw.filter fun k => !Nat.beq k d) k = nF nw k
  | [] => rfl
  | a :: r => by
    rw [List.filter_cons]; by_cases ha : a = d
    . subst ha; rw [Nat.beq_refl]; simp only [Bool.not_true, Bool.false_eq_true, if_false, nF]; rw [fG (Ne.symm hk)]; exact nP hk
    rw [fG ha]; simp only [Bool.not_false, if_true, nF]; rw [nP hk]
def Old (S0 : List Nat) (h : Heap) (σ : aG) (t : Tr) (fl : VL) (nw : List Nat) (so : Bool) (segs : List (Nat × Nat × Nat)) : Prop := ∃ hs, mU hs /\ eU hs h /\ mV hs segs /\ SA hs S0 /\
  (∀ k pv, lC fl k = some pv -> nF nw k = false -> aI hs (own σ ++ S0) pv (t.get k)) /\ (so = true -> ∀ c ∈ σ, bA hs (own σ ++ S0) c.1 c.2)
section
variable (P orc)
def VD (ops : Array Oper) (n : Nat) (l : List Oper) (i : Nat) (fl : VL) (nw : List Nat) (σ : aG) (so : Bool) (bs : List Nat) (mem : Nat) (tail : Bool) (K : VL -> aG -> Prop) : Prop :=
  ∀ (h0 : Heap) (G S0 : List Nat) (t : Tr) (h : Heap) (ms : List Nat) (segs : List (Nat × Nat × Nat)), Iv h0 G S0 h σ t ms fl -> (tail = false -> Old S0 h σ t fl nw so segs) ->
    tK P orc ops n l i ⟨t, h, bs, segs, mem, tail⟩ fun s => ∃ eV aJ, Iv h0 G S0 s.h aJ s.t ms eV /\ K eV aJ
end
theorem U.drawn {id : Nat} {ops : Array Oper} (hx : VD P orc ops n ops.toList 0 fl [] σ true [] 0 false fun eV aJ => Q .normal eV aJ) (hl : AO ops = false := by kernel_rfl) : U P orc aV (.region id ops true) n fl σ Q := fun h0 G S0 t h ms I => by
  refine jG.draw hl ?_; obtain ⟨m, s', h1, eV, aJ, h2, h3⟩ := hx h0 G S0 t h ms [] I fun _ => ⟨h, I.ok, eU.refl h, mV.nil, I.lc.slt, fun k pv hk _ => I.aH k pv hk, fun _ => I.cells⟩; exact ⟨m, s', h1, rfl, eV, aJ, h2, h3⟩
theorem VD.nil (hk : K fl σ) : VD P orc ops n [] i fl nw σ so bs mem tail K := fun _ _ _ _ _ _ _ I _ => tK.nil ⟨fl, σ, I, hk⟩
theorem Old.set {u : Value} {old : Bool} (ho : Old S0 h σ t fl nw so segs) (hd : d < 4000) (hu : old = true -> ∀ hs, mU hs -> eU hs h -> SA hs S0 -> (∀ k pv, lC fl k = some pv -> nF nw k = false -> aI hs (own σ ++ S0) pv (t.get k)) -> (so = true -> ∀ c ∈ σ, bA hs (own σ ++ S0) c.1 c.2) -> aI hs (own σ ++ S0) v u) :
    Old S0 h σ (t.set depth d u) ((d, v) :: fl) (gT old d nw) so segs := by
  obtain ⟨hs, h1, h2, h3, h4, h5, h6⟩ := ho; refine ⟨hs, h1, h2, h3, h4, fun k pv hk hn => ?_, h6⟩; rw [zA t d u k hd]; simp only [lC] at hk
  cases hb : Nat.beq d k with
  | true =>
    rw [hb] at hk; simp only [cond_true, Option.some.injEq] at hk; subst hk; rw [if_pos (bI hb).symm]
    cases old with
    | true => exact hu rfl hs h1 h2 h4 h5 h6
    | false =>
      simp only [gT, cond_false, nF, hb, cond_true] at hn
      cases hn
  | false =>
    rw [hb] at hk; simp only [cond_false] at hk; have cL := fS hb; rw [if_neg (Ne.symm cL)]; refine h5 k pv hk ?_
    cases old with
    | true => rw [gT, cond_true, nP (Ne.symm cL)] at hn; exact hn
    | false => simpa only [gT, cond_false, nF, hb] using hn
theorem Old.next {lo hi : Nat} (ho : Old S0 h σ t fl nw so segs) (ha : eU h h') (hl : h.next <= lo) : Old S0 h' σ t fl nw so ((i, lo, hi) :: segs) := by
  obtain ⟨hs, h1, h2, h3, h4, h5, h6⟩ := ho; exact ⟨hs, h1, h2.trans ha, mV.cons (Nat.le_trans h2.next hl) h3, h4, h5, h6⟩
theorem Old.uI {lo hi : Nat} (ho : Old S0 h σ t fl nw so segs) (hl : h.next <= lo) : Old S0 h σ t fl nw so ((i, lo, hi) :: segs) := ho.next (eU.refl h) hl
theorem EW {fl : VL} (h5 : ∀ k pv, lC fl k = some pv -> nF nw k = false -> aI hs S pv (t.get k)) {x : Operand} {pv : PV} (hx : b9 fl x = some pv) (ho : MK nw x = true) : aI hs S pv (aB t x) := by
  cases x with
  | tmp k => exact h5 k pv hx (by simpa [MK] using ho)
  | const c =>
    obtain ⟨h1, h2⟩ := JH hx; show aI hs S pv (if af c then c else hD)
    rw [if_pos h1]; exact h2 _ _
  | global g => cases hx
  | func f => obtain rfl := Option.some.inj hx; exact ⟨[], [], rfl, rfl, rfl⟩
def JL (nw : List Nat) (op : Op) : Bool := op.operands.toList.all (MK nw)
theorem CS {fl : VL} (h5 : ∀ k pv, lC fl k = some pv -> nF nw k = false -> aI hs S pv (t.get k)) (ho : JL nw op = true) : G8 hs S t fl op := fun x hx pv hp => EW h5 hp (List.all_eq_true.1 ho x hx)
theorem VD.c {b : Nat} (hc : aK P fl [] op v) (hk : VD P orc ops n l (i + 1) ((d, v) :: fl) (gT (JL nw op || v.kQ) d nw) σ so (bs ++ [b]) mem tail K)
    (hb : aP bs ⟨some d, op, ty, pos, after, g⟩ = b := by rfl) (hw : dU ops fl g = some true := by rfl) (hn : (Nat.blt d n && Nat.ble n 4000) = true := by rfl) :
    VD P orc ops n (⟨some d, op, ty, pos, after, g⟩ :: l) i fl nw σ so bs mem tail K := fun h0 G S0 t h ms segs I ho => by
  obtain ⟨n1, n2⟩ := fits hn; obtain ⟨u, e1, e2⟩ := hc.2 h (own σ ++ S0) t I.aH.y6 (fun _ hc => by cases hc); refine tK.op (s' := ⟨t.set depth d u, h, bs ++ [b], segs, mem, tail⟩) ?_ (hk h0 G S0 _ h ms segs (I.set e1 n2) fun ht => (ho ht).set n2 fun hold hs a1 a2 a3 a4 a5 => ?_)
  . unfold fY; have IX : bR ops t ⟨some d, op, ty, pos, after, g⟩ = some true := dC I.aH hw; simp only [IX, hc.1, if_true, e2, Nat.beq_refl, cond_true, cE n1, Option.map_some, hb]
  rcases Bool.or_eq_true_iff.1 hold with hold | hold
  . obtain ⟨u', f1, f2⟩ := hc.2 hs (own σ ++ S0) t (CS a4 hold) (fun _ hc => by cases hc)
    have : u' = u := by
      have g1 := e2 none 0 "" #[] none h; rw [f2 none 0 "" #[] none h] at g1; simpa using g1
    rw [<- this]; exact f1
  exact (aI.kQ hold e1).2 _ _
theorem v8 (I : Iv h0 G S0 h σ t ms fl) {o : Oper} {b : Nat} (hb : aP bs o = b) (ho : tail = false -> Old S0 h σ t fl nw so segs) :
    ∃ M, oT o ⟨t, h, bs, segs, mem, tail⟩ = M /\ mU M /\ M.next = h.next /\ M.low = h.next /\ (∀ b o, M.get b = some o -> h.get b = some o) /\ (Nat.beq (mem &&& b) mem = true -> M = entry h) /\ (tail = false -> ∃ hs, mU hs /\ eU hs h /\ eU hs M /\ mV hs segs /\ SA hs S0 /\
      (∀ k pv, lC fl k = some pv -> nF nw k = false -> aI hs (own σ ++ S0) pv (t.get k)) /\ (so = true -> ∀ c ∈ σ, bA hs (own σ ++ S0) c.1 c.2)) := by
  have hM4 : ∀ b o', (oT o ⟨t, h, bs, segs, mem, tail⟩).get b = some o' -> h.get b = some o' := by
    unfold oT; simp only [hb]
    cases Nat.beq (mem &&& b) mem with
    | true => exact fun b o hg => hg
    | false => exact fun b o hg => B4 segs h.aA hg
  refine ⟨_, rfl, fun b o' hg => I.ok b o' (hM4 b o' hg), rfl, rfl, hM4, fun iM => ?_, fun ht => ?_⟩
  . unfold oT entry; simp only [hb, iM, cond_true]
  obtain ⟨hs, h1, h2, h3, h4, h5, h6⟩ := ho ht; refine ⟨hs, h1, h2, ?_, h3, h4, h5, h6⟩; unfold oT; simp only [hb]
  cases Nat.beq (mem &&& b) mem with
  | true => exact ⟨h2.next, h2.get, h2.ok, fun e h1 h3 => Nat.le_trans h3 h2.next⟩
  | false => exact W0 h2 h3
theorem W2 {b : Nat} {o : Oper} {u : Value} {M : Heap} (hM : oT o ⟨t, h, bs, segs, mem, tail⟩ = M) (hMn : M.next = h.next) (hMl : M.low = h.next) (hb : aP bs o = b) (hd : o.dst = some d) (vQ : calm o.op = false) (hw : bR ops t o = some true) (nW : (tail && !Nat.beq (mem &&& b) mem) = false)
    (cC : iI P o (aB t) M = some (u, M)) (n1 : Nat.blt d n = true) : fY (iI P) ops n o i ⟨t, h, bs, segs, mem, tail⟩ = some ⟨t.set depth d u, h, bs ++ [b], (i, h.next, h.next) :: segs, mem ||| 2 ^ i, tail⟩ := by
  unfold fY
  have hM' : ({ next := h.next, low := h.next, aA := bif Nat.beq (mem &&& b) mem then h.aA else mask b segs h.aA } : Heap) = M := by
    rw [<- hM]; unfold oT; simp only [hb]
  simp only [hw, vQ, Bool.false_eq_true, if_false, hb, nW, cond_false, hM', cC]; simp only [hMn, hMl, B5, sO, cond_false, hd, cE n1, cond_true, G2, List.nil_append]
theorem VD.r {b : Nat} (cs : aG) (hc : dN P fl cs op v) (iJ : cs = [] \/ (so = true /\ cs = σ)) (hk : VD P orc ops n l (i + 1) ((d, v) :: fl) (gT true d nw) σ so (bs ++ [b]) (mem ||| 2 ^ i) false K)
    (hb : aP bs ⟨some d, op, ty, pos, after, g⟩ = b := by rfl) (hold : JL nw op = true := by rfl) (hw : dU ops fl g = some true := by rfl) (hn : (Nat.blt d n && Nat.ble n 4000) = true := by rfl) :
    VD P orc ops n (⟨some d, op, ty, pos, after, g⟩ :: l) i fl nw σ so bs mem false K := fun h0 G S0 t h ms segs I ho => by
  obtain ⟨n1, n2⟩ := fits hn; obtain ⟨M, m1, m2, m3, m4, m5, m6, m7⟩ := v8 (mem := mem) I hb ho; obtain ⟨hs, a1, a2, a3, a4, a5, a6, a7⟩ := m7 rfl
  have nY : ∀ c ∈ cs, bA hs (own σ ++ S0) c.1 c.2 := by
    rcases iJ with rfl | ⟨hso, iJ⟩
    . intro c hc; cases hc
    rw [iJ]; exact a7 hso
  obtain ⟨u, e1, e2⟩ := hc.2 hs (own σ ++ S0) t (CS a6 hold) nY; have cC := e2 M (fun b o hg => by rw [a3.get b (a1 b o hg)]; exact hg) (some d) ty pos after g; have n7 : aI h (own σ ++ S0) v u := e1.nx (a2.nx a1); refine tK.op (W2 m1 m3 m4 hb rfl hc.1 (dC I.aH hw) rfl cC n1) (hk h0 G S0 _ h ms _ (I.set n7 n2) fun _ => ?_); refine Old.uI ?_ (Nat.le_refl _); refine Old.set (old := true) ⟨hs, a1, a2, a4, a5, a6, a7⟩ n2 fun _ JM b1 b2 b3 b4 b5 => ?_
  have aj0 : ∀ c ∈ cs, bA JM (own σ ++ S0) c.1 c.2 := by
    rcases iJ with rfl | ⟨hso, iJ⟩
    . intro c hc; cases hc
    rw [iJ]; exact b5 hso
  obtain ⟨u', f1, f2⟩ := hc.2 JM (own σ ++ S0) t (CS b4 hold) aj0; have g1 := e2 h (fun b o hg => by rw [a2.get b (a1 b o hg)]; exact hg) (some d) ty pos after g; rw [f2 h (fun b o hg => by rw [b2.get b (b1 b o hg)]; exact hg) (some d) ty pos after g] at g1
  have : u' = u := by simpa using g1
  rw [<- this]; exact f1
theorem VD.skip {b : Nat} (hk : VD P orc ops n l (i + 1) ((d, .raw undef) :: fl) (gT true d nw) σ so (bs ++ [b]) mem tail K)
    (hb : aP bs ⟨some d, op, ty, pos, after, g⟩ = b := by rfl) (hw : dU ops fl g = some false := by rfl) (hn : (Nat.blt d n && Nat.ble n 4000) = true := by rfl) :
    VD P orc ops n (⟨some d, op, ty, pos, after, g⟩ :: l) i fl nw σ so bs mem tail K := fun h0 G S0 t h ms segs I ho => by
  obtain ⟨n1, n2⟩ := fits hn; have IX : bR ops t ⟨some d, op, ty, pos, after, g⟩ = some false := dC I.aH hw; refine tK.op (s' := ⟨t.set depth d undef, h, bs ++ [b], segs, mem, tail⟩) ?_ (hk h0 G S0 _ h ms segs (I.set (show aI _ _ (.raw undef) undef from rfl) n2) fun ht => (ho ht).set n2 fun _ _ _ _ _ _ _ => (show aI _ _ (.raw undef) undef from rfl)); unfold fY; simp only [IX, cE n1, Option.map_some, hb]
theorem VD.splitB {x : Tmp} {r : Bool} (hc : lC fl x = some (.v .bool r)) (ht : r = true -> VD P orc ops n l i ((x, .v .bool true) :: fl) (gT true x nw) σ so bs mem tail K) (hf : r = false -> VD P orc ops n l i ((x, .v .bool false) :: fl) (gT true x nw) σ so bs mem tail K) :
    VD P orc ops n l i fl nw σ so bs mem tail K := fun h0 G S0 t h ms segs I ho => by
  have hx : Iv h0 G S0 h σ t ms ((x, .v .bool r) :: fl) := { I with aH := I.aH.cons (I.aH x _ hc) }
  have hO : tail = false -> Old S0 h σ t ((x, .v .bool r) :: fl) (gT true x nw) so segs := fun e => by
    obtain ⟨hs, h1, h2, h3, h4, h5, h6⟩ := ho e; refine ⟨hs, h1, h2, h3, h4, fun k pv hk hn => ?_, h6⟩; simp only [lC] at hk
    cases hb : Nat.beq x k with
    | true =>
      rw [hb] at hk; simp only [cond_true, Option.some.injEq] at hk; subst hk; rw [<- bI hb]
      exact (aI.kQ (pv := .v .bool r) rfl (I.aH x _ hc)).2 _ _
    | false =>
      rw [hb] at hk; simp only [cond_false] at hk; refine h5 k pv hk ?_; rw [gT, cond_true, nP (Ne.symm (fS hb))] at hn; exact hn
  cases r with
  | true => exact ht rfl h0 G S0 t h ms segs hx hO
  | false => exact hf rfl h0 G S0 t h ms segs hx hO
theorem VD.iW {x : Tmp} {p : Prop} {inst : Decidable p} (hc : lC fl x = some (.v .bool (@decide p inst))) (ht : p -> VD P orc ops n l i ((x, .v .bool true) :: fl) (gT true x nw) σ so bs mem tail K) (hf : ¬ p -> VD P orc ops n l i ((x, .v .bool false) :: fl) (gT true x nw) σ so bs mem tail K) :
    VD P orc ops n l i fl nw σ so bs mem tail K := VD.splitB hc (fun h => ht (of_decide_eq_true h)) fun h => hf (of_decide_eq_false h)
theorem VD.call {b : Nat} {f : Operand} {args : Array Operand} {nX : Array TypeId} {F r : PV} {asl : List PV} (hf : b9 fl f = some F) (ha : lI fl args.toList = some asl) (hc : wE P orc F asl r) (hk : VD P orc ops n l (i + 1) ((d, r) :: fl) (gT r.flat d nw) σ so (bs ++ [b]) (mem ||| 2 ^ i) false K)
    (hb : aP bs ⟨some d, .call { callee := .value f, args := args, argTypes := nX }, ty, pos, after, g⟩ = b := by rfl) (hold : (MK nw f && args.toList.all (MK nw)) = true := by rfl) (hw : dU ops fl g = some true := by rfl) (hn : (Nat.blt d n && Nat.ble n 4000) = true := by rfl) :
    VD P orc ops n (⟨some d, .call { callee := .value f, args := args, argTypes := nX }, ty, pos, after, g⟩ :: l) i fl nw σ so bs mem false K := fun h0 G S0 t h ms segs I ho => by
  obtain ⟨n1, n2⟩ := fits hn; obtain ⟨o1, o2⟩ := aY hold; obtain ⟨M, m1, m2, m3, m4, m5, m6, m7⟩ := v8 (mem := mem) I hb ho; obtain ⟨hs, a1, a2, a3, a4, a5, a6, a7⟩ := m7 rfl; have hN : cH hs (own σ ++ S0) M (own σ ++ S0) := a3.nx a1
  have lU : ∀ (l : List Operand) (asl : List PV), lI fl l = some asl -> l.all (MK nw) = true -> b6 M (own σ ++ S0) asl (l.map (aB t)) := by
    intro l
    induction l with
    | nil => intro asl hx _; obtain rfl := Option.some.inj hx; rfl
    | cons x r ih =>
      intro asl hx hl; rw [List.all_cons] at hl; obtain ⟨l1, l2⟩ := aY hl; simp only [lI] at hx; split at hx
      . rename_i v OZ hv uQ; obtain rfl := Option.some.inj hx; exact ⟨_, _, rfl, (EW a6 hv l1).nx hN, ih OZ uQ l2⟩
      cases hx
  obtain ⟨PB, ca, cc, h1, h2⟩ := hc.ev m2 ⟨fun b hb => by rw [m3]; exact Lc.lt I.lc b hb, I.aH.1.seen a2 a3 a5⟩ ((EW a6 hf o1).nx hN) (lU _ _ ha o2); refine tK.call (o := ⟨some d, .call { callee := .value f, args := args, argTypes := nX }, ty, pos, after, g⟩) (dC I.aH hw) rfl rfl h1 rfl ?_; rw [m1]; refine h2.mono fun u h' hq => ?_; obtain ⟨q1, q2, q3⟩ := hq; have hA := q1.after; have hl : h.next <= h'.low := hA.low h.next (by omega) (by omega)
  have dK : Nat.ble h.next h'.low = true := by rw [Nat.ble_eq]; exact hl
  have gA : h.next <= h'.next := by have := hA.next; omega
  refine ⟨q7 gA, by simp only [dK, Bool.true_or], _, cE n1 t u, ?_⟩
  have hd : oU ⟨some d, .call { callee := .value f, args := args, argTypes := nX }, ty, pos, after, g⟩ i ⟨t, h, bs, segs, mem, false⟩ (t.set depth d u) h' =
      ⟨t.set depth d u, { next := h'.next, low := h.low, aA := bM h.next h'.next h'.aA ++ h.aA }, bs ++ [b], (i, h.next, h'.next) :: segs, mem ||| 2 ^ i, false⟩ := by
    unfold oU; simp only [dK, cond_true, hb]
  rw [hd]; obtain ⟨e1, e2⟩ := G7 (h' := h') I.ok m5 m3 hA m2; have eA : cD h { next := h'.next, low := h.low, aA := bM h.next h'.next h'.aA ++ h.aA } [] := ⟨e1.next, fun b hb _ => e1.get b hb, e1.ok, fun e h3 h4 _ => e1.low e h3 h4, fun b hb => .inl (e1.get b hb), Nat.le_refl _⟩; refine hk h0 G S0 _ _ ms _ ((I.calm eA).set (q2.nx (e2 _)) n2) fun _ => ?_; exact ((Old.set (old := r.flat) ⟨hs, a1, a2, a4, a5, a6, a7⟩ n2 fun hfl _ _ _ _ _ _ => (q2.flat hfl).2 _ _)).next e1 (Nat.le_refl _)
theorem VD.B6 {b : Nat} {f : Operand} {args : Array Operand} {nX : Array TypeId} {F r : PV} {asl : List PV} (hf : b9 fl f = some F) (ha : lI fl args.toList = some asl) (hc : wE P orc F asl r) (hk : VD P orc ops n l (i + 1) ((d, r) :: fl) (gT r.flat d nw) σ so (bs ++ [b]) (mem ||| 2 ^ i) tail K)
    (hb : aP bs ⟨some d, .call { callee := .value f, args := args, argTypes := nX }, ty, pos, after, g⟩ = b := by rfl) (iM : Nat.beq (mem &&& b) mem = true := by rfl) (hw : dU ops fl g = some true := by rfl) (hn : (Nat.blt d n && Nat.ble n 4000) = true := by rfl) :
    VD P orc ops n (⟨some d, .call { callee := .value f, args := args, argTypes := nX }, ty, pos, after, g⟩ :: l) i fl nw σ so bs mem tail K := fun h0 G S0 t h ms segs I ho => by
  obtain ⟨n1, n2⟩ := fits hn; obtain ⟨M, m1, m2, m3, m4, m5, m6, m7⟩ := v8 (mem := mem) I hb ho; obtain rfl := m6 iM; have Le := I.lc.aA (h' := entry h) (fun _ => rfl) rfl; obtain ⟨PB, ca, cc, h1, h2⟩ := hc.ev m2 Le.ak9 (dP Le.aH hf) (pA Le.aH ha); refine tK.call (o := ⟨some d, .call { callee := .value f, args := args, argTypes := nX }, ty, pos, after, g⟩) (dC I.aH hw) rfl rfl h1 (by simp only [hb, iM]; simp) ?_; rw [m1]; refine h2.mono fun u h' hq => ?_; obtain ⟨q1, q2, q3⟩ := hq; have hA := q1.after; have hl : h.next <= h'.low := hA.low h.next (Nat.le_refl _) (Nat.le_refl _)
  have dK : Nat.ble h.next h'.low = true := by rw [Nat.ble_eq]; exact hl
  have gA : h.next <= h'.next := hA.next; refine ⟨q7 gA, by simp only [dK, Bool.true_or], _, cE n1 t u, ?_⟩
  have hd : oU ⟨some d, .call { callee := .value f, args := args, argTypes := nX }, ty, pos, after, g⟩ i ⟨t, h, bs, segs, mem, tail⟩ (t.set depth d u) h' =
      ⟨t.set depth d u, { next := h'.next, low := h.low, aA := bM h.next h'.next h'.aA ++ h.aA }, bs ++ [b], (i, h.next, h'.next) :: segs, mem ||| 2 ^ i, tail⟩ := by
    unfold oU; simp only [dK, cond_true, hb]
  rw [hd]; obtain ⟨e1, e2⟩ := G7 (h' := h') I.ok m5 rfl hA m2; have eA : cD h { next := h'.next, low := h.low, aA := bM h.next h'.next h'.aA ++ h.aA } [] := ⟨e1.next, fun b hb _ => e1.get b hb, e1.ok, fun e h3 h4 _ => e1.low e h3 h4, fun b hb => .inl (e1.get b hb), Nat.le_refl _⟩; refine hk h0 G S0 _ _ ms _ ((I.calm eA).set (q2.nx (e2 _)) n2) fun ht => ?_; exact ((ho ht).set n2 fun hfl _ _ _ _ _ _ => (q2.flat hfl).2 _ _).next e1 (Nat.le_refl _)
theorem VD.PC {b : Nat} {f : Operand} {args : Array Operand} {nX : Array TypeId} {F F' r : PV} {asl zY : List PV} (hf : b9 fl f = some F) (ha : lI fl args.toList = some asl) (cF : Co σ F F') (ca : rI σ asl zY) (hr : r.flat = true) (hc : wE P orc F' zY r)
    (hk : VD P orc ops n l (i + 1) ((d, r) :: fl) (gT true d nw) σ so (bs ++ [b]) (mem ||| 2 ^ i) tail K)
    (hb : aP bs ⟨some d, .call { callee := .value f, args := args, argTypes := nX }, ty, pos, after, g⟩ = b := by rfl) (iM : Nat.beq (mem &&& b) mem = true := by rfl) (hw : dU ops fl g = some true := by rfl) (hn : (Nat.blt d n && Nat.ble n 4000) = true := by rfl) :
    VD P orc ops n (⟨some d, .call { callee := .value f, args := args, argTypes := nX }, ty, pos, after, g⟩ :: l) i fl nw σ so bs mem tail K := fun h0 G S0 t h ms segs I ho => by
  obtain ⟨n1, n2⟩ := fits hn; obtain ⟨M, m1, m2, m3, m4, m5, m6, m7⟩ := v8 (mem := mem) I hb ho; obtain rfl := m6 iM; have Le := I.lc.aA (h' := entry h) (fun _ => rfl) rfl; obtain ⟨PB, a, c, h1, h2⟩ := hc.ev m2 Le.sok (cF.ok Le.cells Le.sep (dP Le.aH hf)) (ca.ok Le.cells Le.sep (pA Le.aH ha)); refine tK.call (o := ⟨some d, .call { callee := .value f, args := args, argTypes := nX }, ty, pos, after, g⟩) (dC I.aH hw) rfl rfl h1 (by simp only [hb, iM]; simp) ?_; rw [m1]; refine h2.mono fun u h' hq => ?_; obtain ⟨q1, q2, q3⟩ := hq; obtain rfl := q3 hr; have dK : Nat.ble h.next (entry h).low = true := sO _; refine ⟨B5 _, by simp only [dK, Bool.true_or], _, cE n1 t u, ?_⟩
  have hd : oU ⟨some d, .call { callee := .value f, args := args, argTypes := nX }, ty, pos, after, g⟩ i ⟨t, h, bs, segs, mem, tail⟩ (t.set depth d u) (entry h) = ⟨t.set depth d u, h, bs ++ [b], (i, h.next, h.next) :: segs, mem ||| 2 ^ i, tail⟩ := by
    unfold oU; simp only [dK, cond_true, hb]; show dO.mk _ { next := h.next, low := h.low, aA := bM h.next h.next h.aA ++ h.aA } _ _ _ _ = _; rw [G2]; rfl
  rw [hd]; exact hk h0 G S0 _ _ ms _ (I.set ((q2.flat hr).2 _ _) n2) fun ht => Old.uI ((ho ht).set n2 fun _ _ _ _ _ _ _ => (q2.flat hr).2 _ _) (Nat.le_refl _)
end Go.Fs
namespace Go.Fs
variable {P : Program} {orc : FuncId -> List Value -> Heap -> Option (Value × Heap)} {h h' h0 : Heap} {fl : FL} {op : Op} {v : Value} {S S' S0 : List Nat}
theorem lW.alS {T e : TypeId} {τ : Ty} (hT : kB P T e τ) {v : Value} {xs : List τ.den} (hv : lW h S τ v xs) {lo : Option Value} (H : Heap) : cZ P T v lo none none H = cZ P T v lo (some (.int .i64 (xs.length : Nat))) none H := by
  rcases hv with ⟨rfl, rfl⟩ | ⟨b, o, mk, rfl, _⟩
  . simp only [cZ, hT.sl.sl, dR, List.length_nil]; rfl
  have h1 : dR (some (.int .i64 (xs.length : Nat))) xs.length = some xs.length := by
    simp only [dR, Int.natCast_nonneg, if_true, Int.toNat_natCast]
  simp only [cZ, hT.sl.sl, h1]; rfl
theorem lW.CT {T e : TypeId} {τ : Ty} (hT : kB P T e τ) {v : Value} {xs : List τ.den} (hv : lW h S τ v xs) {a : Int} (h0 : 0 <= a /\ a <= (xs.length : Nat)) :
    ∃ w, (∀ nn ll, cZ P T v (some (.int .i64 a)) none none { next := nn, low := ll, aA := h.aA } = some w) /\ lW h S τ w (xs.drop a.toNat) := by
  obtain ⟨w, h1, h2⟩ := hv.cut hT (a := a) (b := (xs.length : Nat)) ⟨h0.1, h0.2, Int.le_refl _⟩; refine ⟨w, fun nn ll => by rw [hv.alS hT]; exact h1 nn ll, ?_⟩
  rwa [Int.toNat_natCast, List.take_length] at h2
end Go.Fs
namespace Go.Fs
variable {P : Program} {orc : FuncId -> List Value -> Heap -> Option (Value × Heap)} {aV : Option Nat} {h h' h0 h1 h2 : Heap} {S S' S0 B G : List Nat} {σ aJ : aG} {t t' : Tr} {ms : List Nat} {fl : VL} {ops : Array Oper} {n : Nat} {l : List Oper} {K : VL -> aG -> Prop} {Q : Ex -> VL -> aG -> Prop}
  {d : Tmp} {ty : TypeId} {pos : String} {after : Array Edge} {op : Op} {v pv : PV} {g : Option (Nat × Bool)} {x y z : Operand} {T T' e : TypeId} {τ eP : Ty}
theorem aK.move (hx : b9 fl x = some pv) : aK P fl σ (.move x) pv := ⟨rfl, fun h S t hs _ => ⟨aB t x, hs x (by simp [Op.operands]) _ hx, fun _ _ _ _ _ _ => rfl⟩⟩
theorem aK.assign (hx : b9 fl x = some pv) : aK P fl σ (.assign x) pv := ⟨rfl, fun h S t hs _ => ⟨aB t x, hs x (by simp [Op.operands]) _ hx, fun _ _ _ _ _ _ => rfl⟩⟩
theorem aK.bS (hc : b9 fl z = some (.v .bool true)) (hx : b9 fl x = some pv) : aK P fl σ (.pick z x y) pv := ⟨rfl, fun h S t hs _ => ⟨aB t x, hs x (by simp [Op.operands]) _ hx, fun _ _ _ _ _ H => by
  have := (hs z (by simp [Op.operands]) _ hc : aI h S (.v .bool true) _).bool; show (match aB t z with | .bool true => some (aB t x, H) | .bool false => some (aB t y, H) | _ => none) = _
  rw [this]⟩⟩
theorem aK.aU (hc : b9 fl z = some (.v .bool false)) (hy : b9 fl y = some pv) : aK P fl σ (.pick z x y) pv := ⟨rfl, fun h S t hs _ => ⟨aB t y, hs y (by simp [Op.operands]) _ hy, fun _ _ _ _ _ H => by
  have := (hs z (by simp [Op.operands]) _ hc : aI h S (.v .bool false) _).bool; show (match aB t z with | .bool true => some (aB t x, H) | .bool false => some (aB t y, H) | _ => none) = _
  rw [this]⟩⟩
theorem aK.bin {b : BinOp} {p q : PV} (hx : b9 fl x = some p) (hy : b9 fl y = some q) (hv : ∀ (h : Heap) (S : List Nat) (a c : Value), aI h S p a -> aI h S q c -> ∃ u, aI h S v u /\ (af a && af c) = true /\ fK P (do eqGuard b T x y a c; binOp b T a c) = some u) : aK P fl σ (.binOp b T x y T') v :=
  ⟨rfl, fun h S t hs _ => by
    obtain ⟨u, h1, h2, h3⟩ := hv h S _ _ (hs x (by simp [Op.operands]) _ hx) (hs y (by simp [Op.operands]) _ hy); refine ⟨u, h1, fun _ _ _ _ _ H => ?_⟩; show (if (af (aB t x) && af (aB t y)) = true then _ else _) = _
    rw [if_pos h2, h3]; rfl⟩
theorem aK.wY {b : BinOp} {k k' : IntKind} {p q : Int} {u : Value} (hx : b9 fl x = some (.v (.int k) p)) (hy : b9 fl y = some (.v (.int k') q)) (hu : fK P (do eqGuard b T x y (.int k p) (.int k' q); binOp b T (.int k p) (.int k' q)) = some u) (hv : ∀ h S, aI h S v u) : aK P fl σ (.binOp b T x y T') v :=
  .bin hx hy fun h S a c ha hc => by
    obtain rfl := aF.int ha; obtain rfl := aF.int hc; exact ⟨u, hv h S, rfl, hu⟩
section
variable {p q : Int}
abbrev fit (n : Int) : Prop := -9223372036854775808 <= n /\ n <= 9223372036854775807
theorem aK.add (hx : b9 fl x = some (.v (.int .i64) p)) (hy : b9 fl y = some (.v (.int .i64) q)) (h0 : fit (p + q)) : aK P fl σ (.binOp .add T x y T') (.v (.int .i64) (p + q)) :=
  .wY hx hy (u := .int .i64 (IntKind.i64.wrap (p + q))) rfl fun h S => by rw [wrap64 h0.1 h0.2]; exact aF.ofInt _ _
theorem aK.sub (hx : b9 fl x = some (.v (.int .i64) p)) (hy : b9 fl y = some (.v (.int .i64) q)) (h0 : fit (p - q)) : aK P fl σ (.binOp .sub T x y T') (.v (.int .i64) (p - q)) :=
  .wY hx hy (u := .int .i64 (IntKind.i64.wrap (p - q))) rfl fun h S => by rw [wrap64 h0.1 h0.2]; exact aF.ofInt _ _
theorem aK.mul (hx : b9 fl x = some (.v (.int .i64) p)) (hy : b9 fl y = some (.v (.int .i64) q)) (h0 : fit (p * q)) : aK P fl σ (.binOp .mul T x y T') (.v (.int .i64) (p * q)) :=
  .wY hx hy (u := .int .i64 (IntKind.i64.wrap (p * q))) rfl fun h S => by rw [wrap64 h0.1 h0.2]; exact aF.ofInt _ _
theorem aK.quo (hx : b9 fl x = some (.v (.int .i64) p)) (hy : b9 fl y = some (.v (.int .i64) q)) (hq : q ≠ 0) (h0 : fit (p.tdiv q)) : aK P fl σ (.binOp .quo T x y T') (.v (.int .i64) (p.tdiv q)) :=
  .wY hx hy (u := .int .i64 (IntKind.i64.wrap (p.tdiv q))) (by show (aC P (Op.intDiv .quo .i64 p q)).bind _ = _; unfold Op.intDiv; rw [if_neg hq]; rfl) fun h S => by rw [wrap64 h0.1 h0.2]; exact aF.ofInt _ _
theorem aK.rem (hx : b9 fl x = some (.v (.int .i64) p)) (hy : b9 fl y = some (.v (.int .i64) q)) (hq : q ≠ 0) : aK P fl σ (.binOp .rem T x y T') (.v (.int .i64) (p.tmod q)) :=
  .wY hx hy (u := .int .i64 (p.tmod q)) (by show (aC P (Op.intDiv .rem .i64 p q)).bind _ = _; unfold Op.intDiv; rw [if_neg hq]; rfl) fun h S => aF.ofInt _ _
variable {k : IntKind}
theorem vA (b : BinOp) (r : Bool) (hr : Op.intCmp b p q = pure (.bool r)) (ha : ∀ s : Sem Value, binOp b T (.int k p) (.int k q) = s -> s = Op.intCmp b p q) (hg : eqGuard b T x y (.int k p) (.int k q) = pure ()) : fK P (do eqGuard b T x y (.int k p) (.int k q); binOp b T (.int k p) (.int k q)) = some (.bool r) := by
  rw [hg, ha _ rfl, hr]; rfl
theorem zD {b : BinOp} (hb : binOp b T (.int k p) (.int k q) = if k ≠ k then stuck "BinOp: operands of different kinds" else Op.intCmp b p q) : binOp b T (.int k p) (.int k q) = Op.intCmp b p q := by rw [hb, if_neg (by simp)]
theorem aK.lss (hx : b9 fl x = some (.v (.int k) p) := by rfl) (hy : b9 fl y = some (.v (.int k) q) := by rfl) : aK P fl σ (.binOp .lss T x y T') (.v .bool (decide (p < q))) :=
  .wY hx hy (u := .bool (decide (p < q))) (vA .lss _ rfl (fun s hs => by rw [<- hs]; exact zD rfl) rfl) fun h S => aF.ofBool _
theorem aK.leq (hx : b9 fl x = some (.v (.int k) p) := by rfl) (hy : b9 fl y = some (.v (.int k) q) := by rfl) : aK P fl σ (.binOp .leq T x y T') (.v .bool (decide (p <= q))) :=
  .wY hx hy (u := .bool (decide (p <= q))) (vA .leq _ rfl (fun s hs => by rw [<- hs]; exact zD rfl) rfl) fun h S => aF.ofBool _
theorem aK.gtr (hx : b9 fl x = some (.v (.int k) p) := by rfl) (hy : b9 fl y = some (.v (.int k) q) := by rfl) : aK P fl σ (.binOp .gtr T x y T') (.v .bool (decide (q < p))) :=
  .wY hx hy (u := .bool (decide (q < p))) (vA .gtr _ rfl (fun s hs => by rw [<- hs]; exact zD rfl) rfl) fun h S => aF.ofBool _
theorem aK.geq (hx : b9 fl x = some (.v (.int k) p) := by rfl) (hy : b9 fl y = some (.v (.int k) q) := by rfl) : aK P fl σ (.binOp .geq T x y T') (.v .bool (decide (q <= p))) :=
  .wY hx hy (u := .bool (decide (q <= p))) (vA .geq _ rfl (fun s hs => by rw [<- hs]; exact zD rfl) rfl) fun h S => aF.ofBool _
theorem aK.eql (hx : b9 fl x = some (.v (.int k) p) := by rfl) (hy : b9 fl y = some (.v (.int k) q) := by rfl) : aK P fl σ (.binOp .eql T x y T') (.v .bool (decide (p = q))) := by
  have e : (p == q) = decide (p = q) := by by_cases h : p = q <;> simp [h]
  exact .wY hx hy (u := .bool (p == q)) (vA .eql _ rfl (fun s hs => by rw [<- hs]; exact zD rfl) rfl) fun h S => by rw [e]; exact aF.ofBool _
theorem aK.neq (hx : b9 fl x = some (.v (.int k) p) := by rfl) (hy : b9 fl y = some (.v (.int k) q) := by rfl) : aK P fl σ (.binOp .neq T x y T') (.v .bool (decide (p ≠ q))) := by
  have e : (p != q) = decide (p ≠ q) := by by_cases h : p = q <;> simp [h]
  exact .wY hx hy (u := .bool (p != q)) (vA .neq _ rfl (fun s hs => by rw [<- hs]; exact zD rfl) rfl) fun h S => by rw [e]; exact aF.ofBool _
end
theorem aK.un {b : UnOp} {p : PV} (hx : b9 fl x = some p) (hv : ∀ (h : Heap) (S : List Nat) (a : Value), aI h S p a -> ∃ u, aI h S v u /\ af a = true /\ fK P (Op.unary b a) = some u) : aK P fl σ (.unOp b T x) v :=
  ⟨rfl, fun h S t hs _ => by
    obtain ⟨u, h1, h2, h3⟩ := hv h S _ (hs x (by simp [Op.operands]) _ hx); refine ⟨u, h1, fun _ _ _ _ _ H => ?_⟩; show (if af (aB t x) = true then _ else _) = _
    rw [if_pos h2, h3]; rfl⟩
theorem aK.not {r : Bool} (hx : b9 fl x = some (.v .bool r) := by rfl) : aK P fl σ (.unOp .not T x) (.v .bool (!r)) :=
  .un hx fun h S a ha => by
    obtain rfl := aF.bool ha; exact ⟨_, aF.ofBool _, rfl, rfl⟩
theorem aK.conv {p : PV} {s D : TypeId} (hx : b9 fl x = some p) (hv : ∀ (h : Heap) (S : List Nat) (a : Value), aI h S p a -> ∃ u, aI h S v u /\ af a = true /\ fK P (convert s D a) = some u) : aK P fl σ (.convert s D x) v :=
  ⟨rfl, fun h S t hs _ => by
    obtain ⟨u, h1, h2, h3⟩ := hv h S _ (hs x (by simp [Op.operands]) _ hx); refine ⟨u, h1, fun _ _ _ _ _ H => ?_⟩; show (if af (aB t x) = true then _ else _) = _
    rw [if_pos h2, h3]; rfl⟩
def adZ (P : Program) (s D : TypeId) (k2 : IntKind) : Bool := (P.underlying s).isSome && (match P.underlying D with | some (.int k) => decide (k = k2) | _ => false)
theorem aK.W3 {p : Int} {s D : TypeId} {k : IntKind} (hx : b9 fl x = some (.v (.int k) p)) (k2 : IntKind) (hw : k2.wrap p = p) (hb : adZ P s D k2 = true := by kernel_rfl) : aK P fl σ (.convert s D x) (.v (.int k2) p) :=
  .conv hx fun h S a ha => by
    obtain rfl := aF.int ha; unfold adZ at hb; obtain ⟨b1, b2⟩ := aY hb; obtain ⟨td, hs⟩ := Option.isSome_iff_exists.1 b1; split at b2
    . rename_i k3 hd; obtain rfl : k3 = k2 := of_decide_eq_true b2; refine ⟨.int k3 p, aF.ofInt _ _, rfl, ?_⟩; unfold fK convert; simp only [aE, bB hs, bB hd, Option.bind_some]; show (aC P (Conv.intToInt k3 p)).bind _ = _; simp only [Conv.intToInt, aQ, Option.bind_some, hw]; rfl
    cases b2
theorem aK.func {f : FuncId} {a c : Array Operand} {us vs : List PV} (ha : lI fl a.toList = some us := by rfl) (hc : lI fl c.toList = some vs := by rfl) : aK P fl σ (.makeFunc (.func f) a c) (.gJ f us vs) :=
  ⟨rfl, fun h S t hs _ => by
    have aux : ∀ (l : List Operand) (vs : List PV), (∀ x ∈ l, ∀ pv, b9 fl x = some pv -> aI h S pv (aB t x)) -> lI fl l = some vs -> b6 h S vs (l.map (aB t)) := by
      intro l
      induction l with
      | nil => intro vs _ hx; obtain rfl := Option.some.inj hx; rfl
      | cons x r ih =>
        intro vs hq hx; simp only [lI] at hx; split at hx
        . rename_i v OZ hv uQ; obtain rfl := Option.some.inj hx; exact ⟨_, _, rfl, hq x List.mem_cons_self _ hv, ih OZ (fun y hy => hq y (List.mem_cons_of_mem _ hy)) uQ⟩
        cases hx
    refine ⟨.func (.func f) (a.map (aB t)) (c.map (aB t)), ⟨a.toList.map (aB t), c.toList.map (aB t), by congr 1 <;> (apply Array.toList_inj.1; simp), aux _ _ (fun x hx => hs x (by simp [Op.operands]; left; simpa using hx)) ha, aux _ _ (fun x hx => hs x (by simp [Op.operands]; right; simpa using hx)) hc⟩, fun _ _ _ _ _ H => rfl⟩⟩
theorem b6.get : ∀ {l : List PV} {us : List Value} {i : Nat} {p : PV}, b6 h S l us -> l[i]? = some p -> ∃ u, us[i]? = some u /\ aI h S p u
  | [], us, i, p, _, hp => by simp at hp
  | q :: qs, us, i, p, ⟨u, r, h1, h2, h3⟩, hp => by
    subst h1
    cases i with
    | zero => simp only [List.getElem?_cons_zero, Option.some.injEq] at hp; subst hp; exact ⟨u, rfl, h2⟩
    | succ i =>
      obtain ⟨w, e1, e2⟩ := b6.get (l := qs) (us := r) (i := i) h3 (by simpa using hp); exact ⟨w, by simpa using e1, e2⟩
theorem aK.extract {l : List PV} {i : Nat} (hx : b9 fl x = some (.mE l) := by rfl) (hi : l[i]? = some pv := by rfl) (h2 : Nat.ble 2 l.length = true := by rfl) : aK P fl σ (.extract x i) pv :=
  ⟨rfl, fun h S t hs _ => by
    obtain ⟨us, h3, h4⟩ := hs x (by simp [Op.operands]) _ hx; obtain ⟨u, h5, h6⟩ := h4.get hi; have hlen := h4.len; refine ⟨u, h6, fun _ _ _ _ _ H => ?_⟩; show (bif tN (aB t x) then none else (aC P (Instr.extract (aB t x) i)).map _) = _; rw [h3]
    have hj : tN (.tuple us.toArray) = false := by
      unfold tN; split
      . rename_i hh
        have : us = [.tuple ⟨[]⟩] := by simpa using congrArg (fun v => match v with | Value.tuple a => a.toList | _ => []) hh
        rw [this] at hlen; have := dY h2; simp at hlen; omega
      rfl
    rw [hj]; simp only [cond_false, Instr.extract]
    have : us.toArray[i]? = some u := by simpa using h5
    rw [this]
    rfl⟩
inductive Sub : (τ : Ty) -> τ.den -> Nat -> (eP : Ty) -> eP.den -> Prop where
  | o {τ : Ty} {x : τ.den} : Sub τ x 0 τ x
  | l {a b : Ty} {x : (Ty.pair a b).den} {k : Nat} {eP : Ty} {y : eP.den} (hs : Sub a x.1 k eP y) : Sub (.pair a b) x k eP y
  | r {a b : Ty} {x : (Ty.pair a b).den} {k k' : Nat} {eP : Ty} {y : eP.den} (hs : Sub b x.2 k eP y) (hk : k' = a.size + k := by rfl) : Sub (.pair a b) x k' eP y
theorem Sub.aoD {τ : Ty} {x : τ.den} {k : Nat} {eP : Ty} {y : eP.den} (hs : Sub τ x k eP y) : ∀ {cs : List Value}, cR h S τ cs x -> k + eP.size <= cs.length /\ cR h S eP ((cs.drop k).take eP.size) y := by
  induction hs with
  | o =>
    intro cs hx; have := hx.len
    exact ⟨by omega, by rw [List.drop_zero, List.take_of_length_le (by omega)]; exact hx⟩
  | @l a b x k eP y hs ih =>
    intro cs hx; obtain ⟨h1, h2⟩ := ih hx.1; rw [List.length_take] at h1; refine ⟨by omega, ?_⟩; rw [List.drop_take, List.take_take, Nat.min_eq_left (by omega)] at h2
    exact h2
  | @r a b x k k' eP y hs hk ih =>
    intro cs hx; obtain ⟨h1, h2⟩ := ih hx.2; rw [List.length_drop] at h1; have hl := hx.len; have cX : (Ty.pair a b).size = a.size + b.size := rfl; subst hk; rw [List.drop_drop] at h2; refine ⟨?_, h2⟩; have := cR.len h2; rw [List.length_take, List.length_drop] at this; by_cases h0 : eP.size = 0
    . have hlb := hx.2.len; rw [List.length_drop] at hlb; omega
    omega
theorem aK.fa {s : TypeId} {f k : Nat} {dx : τ.den} {dy : eP.den} (hs : Sub τ dx k eP dy) (hb : JD P s f k = true := by kernel_rfl) (hx : b9 fl x = some (.p τ dx) := by rfl) : aK P fl σ (.fieldAddr s x f) (.p eP dy) :=
  ⟨rfl, fun h S t hq _ => by
    have hp : oA h S τ (aB t x) dx := hq x (by simp [Op.operands]) _ hx; refine ⟨nO (aB t x) k, ?_, fun _ _ _ _ _ H => ?_⟩
    . obtain ⟨b', o, e', rs, own, more, h1, h2, h3, h4, h5⟩ := hp; obtain ⟨h6, h7⟩ := hs.aoD h5; rw [List.length_take, List.length_drop] at h6; refine ⟨b', o + k, e', rs, own, more, by rw [h1]; rfl, h2, h3, by omega, ?_⟩; rw [List.drop_take, List.take_take, List.drop_drop, Nat.min_eq_left (by omega)] at h7; exact h7
    show (aC P (Instr.fieldAt s (aB t x) f)).map _ = _
    rw [hp.fa hb]; rfl⟩
end Go.Fs
namespace Go.Fs
variable {P : Program} {orc : FuncId -> List Value -> Heap -> Option (Value × Heap)} {aV : Option Nat} {h h' h0 h1 h2 : Heap} {S S' S0 B G : List Nat} {σ aJ kR : aG} {t t' : Tr} {ms : List Nat} {fl : VL} {ops : Array Oper} {n i mem : Nat} {l : List Oper} {K : VL -> aG -> Prop} {Q : Ex -> VL -> aG -> Prop}
  {d : Tmp} {ty : TypeId} {pos : String} {after : Array Edge} {op : Op} {v pv : PV} {g : Option (Nat × Bool)} {x y z : Operand} {T T' e : TypeId} {τ eP : Ty} {bs nw : List Nat} {segs : List (Nat × Nat × Nat)} {tail so : Bool} {w : Value}
theorem aK.ix {xs : List τ.den} {j : Nat} (hx : b9 fl x = some (.v (.sl τ) xs)) (hy : b9 fl y = some (.v (.int .i64) ((j : Nat) : Int))) (hT : kB P T e τ) (hj : j < xs.length) : aK P fl σ (.indexAddr T x y) (.p τ xs[j]) :=
  ⟨rfl, fun h S t hs _ => by
    have h1 := aF.sl (hs x (by simp [Op.operands]) _ hx : aF h S (.sl τ) (aB t x) xs); have h2 := aF.int (hs y (by simp [Op.operands]) _ hy); refine ⟨_, h1.at hj, fun _ _ _ _ _ H => ?_⟩; show (if af (aB t y) then (aC P (Instr.indexAt T (aB t x) (aB t y))).map fun v => (v, H) else none) = _
    rw [h2, h1.ix hT hj]; rfl⟩
theorem aK.ixO {xs : List τ.den} {j : Nat} (hx : b9 fl x = some (.raw w)) (hy : b9 fl y = some (.v (.int .i64) ((j : Nat) : Int))) (hm : (w, Cell.row e τ xs) ∈ σ) (hT : kB P T e τ) (hj : j < xs.length) : aK P fl σ (.indexAddr T x y) (.raw (uJ w τ.size j)) :=
  ⟨rfl, fun h S t hs hc => by
    have h1 : aB t x = w := hs x (by simp [Op.operands]) _ hx; have h2 := aF.int (hs y (by simp [Op.operands]) _ hy); refine ⟨_, rfl, fun _ _ _ _ _ H => ?_⟩; show (if af (aB t y) then (aC P (Instr.indexAt T (aB t x) (aB t y))).map fun v => (v, H) else none) = _; rcases hc _ hm with ⟨_, rfl⟩ | ⟨b, rs, m, h3, h4, h5, h6⟩
    . simp at hj
    have hg : y5 h S 0 e m τ w xs := .inr ⟨b, rs, h4, Nat.zero_le _, h3, h5, h6⟩
    rw [h1, h2, hg.ix hT hj]; rfl⟩
theorem aK.eL {s : TypeId} {f k : Nat} {cs : List PV} (hm : (w, Cell.var cs) ∈ σ) (hb : JD P s f k = true := by kernel_rfl) (hx : b9 fl x = some (.raw w) := by rfl) : aK P fl σ (.fieldAddr s x f) (.raw (nO w k)) :=
  ⟨rfl, fun h S t hs hc => by
    have h1 : aB t x = w := hs x (by simp [Op.operands]) _ hx; obtain ⟨b, e, vs, h3, h4, h5, _⟩ := hc _ hm; have hB : tT h 0 w vs := ⟨b, e, h3, Nat.zero_le _, h5⟩; refine ⟨_, rfl, fun _ _ _ _ _ H => ?_⟩; show (aC P (Instr.fieldAt s (aB t x) f)).map _ = _
    rw [h1, hB.fa hb]; rfl⟩
theorem dN.ld {dx : τ.den} (hT : fN P T τ) (hx : b9 fl x = some (.p τ dx) := by rfl) : dN P fl σ (.load T x) (.v τ dx) :=
  ⟨rfl, fun h S t hs _ => by
    have hp : oA h S τ (aB t x) dx := hs x (by simp [Op.operands]) _ hx; refine ⟨_, hp.val, fun H hH _ _ _ _ _ => ?_⟩; have hp' : oA H S τ (aB t x) dx := hp.nx fun b o hg hb => ⟨hH b o hg, hb⟩
    have e1 : y3 H τ (aB t x) = y3 h τ (aB t x) := by
      obtain ⟨b, o, e, rs, own, more, h1, h2, h3, h4, h5⟩ := hp; rw [h1]; simp only [y3, h3, hH b _ h3]
    show (eO P T (aB t x) H).map _ = _
    rw [(hp'.adT hT).1, e1]; rfl⟩
theorem dN.jK {cs : List PV} {k : Nat} (hm : (w, Cell.var cs) ∈ σ) (hT : fN P T τ) (ha : τ.agg = false := by rfl) (hk : cs[k]? = some v := by rfl) (hx : b9 fl x = some (.raw (nO w k)) := by rfl) : dN P fl σ (.load T x) v :=
  ⟨rfl, fun h S t hs hc => by
    have h1 : aB t x = nO w k := hs x (by simp [Op.operands]) _ hx; obtain ⟨b, e, vs, h3, h4, h5, h6, _⟩ := hc _ hm; obtain ⟨u, h7, h8⟩ := h6.get hk; refine ⟨u, h8, fun H hH _ _ _ _ _ => ?_⟩; have hB : tT H 0 w vs := ⟨b, e, h3, Nat.zero_le _, hH b _ h5⟩; show (eO P T (aB t x) H).map _ = _
    rw [h1, hB.ld1 hT ha h7]; rfl⟩
theorem dN.PD {cs : List PV} (hm : (w, Cell.var cs) ∈ σ) (hT : fN P T τ) (ha : τ.agg = false := by rfl) (hk : cs[0]? = some v := by rfl) (hx : b9 fl x = some (.raw w) := by rfl) : dN P fl σ (.load T x) v :=
  ⟨rfl, fun h S t hs hc => by
    have h1 : aB t x = w := hs x (by simp [Op.operands]) _ hx; obtain ⟨b, e, vs, h3, h4, h5, h6, _⟩ := hc _ hm; obtain ⟨u, h7, h8⟩ := h6.get hk; refine ⟨u, h8, fun H hH _ _ _ _ _ => ?_⟩; have hB : tT H 0 w vs := ⟨b, e, h3, Nat.zero_le _, hH b _ h5⟩; show (eO P T (aB t x) H).map _ = _
    rw [h1, hB.ld0 hT ha h7]; rfl⟩
theorem dN.len {xs : List τ.den} (hT : kB P T e τ) (hx : b9 fl x = some (.v (.sl τ) xs) := by rfl) : dN P fl σ (.call { callee := .builtin .len, args := #[x], argTypes := #[T] }) (.v (.int .i64) (xs.length : Nat)) :=
  ⟨rfl, fun h S t hs _ => by
    have h1 := aF.sl (hs x (by simp [Op.operands, Call.operands]) _ hx : aF h S (.sl τ) (aB t x) xs); refine ⟨_, aF.ofInt _ _, fun H _ _ _ _ _ _ => ?_⟩; show (oQ P #[T] (aB t x) H).map _ = _
    rw [h1.len hT]; rfl⟩
theorem dN.tU {xs : List τ.den} (hm : (w, Cell.row e τ xs) ∈ σ) (hT : kB P T e τ) (hx : b9 fl x = some (.raw w) := by rfl) : dN P fl σ (.call { callee := .builtin .len, args := #[x], argTypes := #[T] }) (.v (.int .i64) (xs.length : Nat)) :=
  ⟨rfl, fun h S t hs hc => by
    have h1 : aB t x = w := hs x (by simp [Op.operands, Call.operands]) _ hx; refine ⟨_, aF.ofInt _ _, fun H _ _ _ _ _ _ => ?_⟩; show (oQ P #[T] (aB t x) H).map _ = _; rw [h1]; rcases hc _ hm with ⟨rfl, rfl⟩ | ⟨b, rs, m, h3, h4, h5, h6⟩
    . rw [lW.len (h := h) (S := S) (τ := τ) hT lW.nil]; rfl
    have hg : y5 h S 0 e m τ w xs := .inr ⟨b, rs, h4, Nat.zero_le _, h3, h5, h6⟩
    rw [hg.len hT]; rfl⟩
theorem dN.gU {s : ByteArray} (hT : P.underlying T = some .string := by kernel_rfl) (hx : b9 fl x = some (.v .str s) := by rfl) : dN P fl σ (.call { callee := .builtin .len, args := #[x], argTypes := #[T] }) (.v (.int .i64) (s.size : Nat)) :=
  ⟨rfl, fun h S t hs _ => by
    have h1 := aF.str (hs x (by simp [Op.operands, Call.operands]) _ hx); refine ⟨_, aF.ofInt _ _, fun H _ _ _ _ _ _ => ?_⟩; show (oQ P #[T] (aB t x) H).map _ = _; rw [h1]
    simp [oQ, hT]⟩
section
variable {p q r s : Int} {a : Array TypeId}
theorem aK.aoE (hx : b9 fl x = some (.v (.int .i64) p) := by rfl) (hy : b9 fl y = some (.v (.int .i64) q) := by rfl) : aK P fl σ (.call { callee := .builtin .min, args := #[x, y], argTypes := a }) (.v (.int .i64) (Min.min p q)) :=
  ⟨rfl, fun h S t hs _ => by
    have h1 := aF.int (hs x (by simp [Op.operands, Call.operands]) _ hx); have h2 := aF.int (hs y (by simp [Op.operands, Call.operands]) _ hy); refine ⟨_, aF.ofInt _ _, fun d ty pos after g H => ?_⟩; show (if [aB t x, aB t y].all af = true then (fK P (Builtin.min_ a ty [aB t x, aB t y].toArray)).map fun v => (v, H) else none) = _; rw [h1, h2]; have : (fK P (Builtin.min_ a ty [Value.int .i64 p, Value.int .i64 q].toArray)) = some (.int .i64 (if q < p then q else p)) := rfl; rw [this]
    have e : (if q < p then q else p) = Min.min p q := by rw [Int.min_def]; split <;> split <;> omega
    rw [e]; rfl⟩
end
theorem lW.AB {xs : List τ.den} {a b : Nat} {u : Value} {H : Heap} (hT : kB P T e τ) (hv : lW h S τ u xs) (hab : a <= b) (hb : b <= xs.length) (hH : ∀ b o, h.get b = some o -> H.get b = some o) {lo hi : Option Value} (hl : dR lo 0 = some a) (hh : ∀ n, n = xs.length -> dR hi n = some b) : cZ P T u lo hi none H = cZ P T u lo hi none h := by
  rcases hv with ⟨rfl, rfl⟩ | ⟨bl, o, mk, rfl, h2⟩
  . simp only [cZ, hT.sl.sl]
  obtain ⟨i, z, CP, cX, _⟩ := hT.sl.info
  have e1 : Nat.ble a b = true := by rw [Nat.ble_eq]; exact hab
  have e2 : Nat.ble b xs.length = true := by rw [Nat.ble_eq]; exact hb
  have hm : qK e bl a mk H = qK e bl a mk h := by
    unfold qK; by_cases ha : a = 0
    . subst ha; rfl
    rcases h2 with rfl | ⟨_, e', rs, own, more, h3, _, _⟩
    . simp at hb; omega
    rw [h3, hH _ _ h3]
  simp only [cZ, hT.sl.sl, CP, hl, hh _ rfl, e1, e2, Bool.and_self, cond_true, hm]
theorem dN.CT {xs : List τ.den} {a : Int} {lo : Operand} (hx : b9 fl x = some (.v (.sl τ) xs)) (hl : b9 fl lo = some (.v (.int .i64) a)) (hT : kB P T e τ) (h0 : 0 <= a /\ a <= (xs.length : Nat)) : dN P fl σ (.slice T x (some lo) none none) (.v (.sl τ) (xs.drop a.toNat)) :=
  ⟨rfl, fun h S t hs _ => by
    have h1 := aF.sl (hs x (by simp [Op.operands]) _ hx : aF h S (.sl τ) (aB t x) xs); have h2 := aF.int (hs lo (by simp [Op.operands]) _ hl); obtain ⟨u, e1, e2⟩ := h1.CT hT h0; refine ⟨u, e2.rep, fun H hH _ _ _ _ _ => ?_⟩; obtain ⟨a', rfl⟩ := Int.eq_ofNat_of_zero_le h0.1; have e3 := e1 h.next h.low; show (cZ P T (aB t x) (some (aB t lo)) none none H).map _ = _; rw [h2, h1.AB hT (a := a') (b := xs.length) (by omega) (by omega) hH (by simp [dR]) (fun _ e => by simp [dR, e])]
    rw [show h = { next := h.next, low := h.low, aA := h.aA } from rfl, e3]; rfl⟩
theorem dN.AB {xs : List τ.den} {b : Int} {hi : Operand} (hx : b9 fl x = some (.v (.sl τ) xs)) (hh : b9 fl hi = some (.v (.int .i64) b)) (hT : kB P T e τ) (h0 : 0 <= b /\ b <= (xs.length : Nat)) : dN P fl σ (.slice T x none (some hi) none) (.v (.sl τ) (xs.take b.toNat)) :=
  ⟨rfl, fun h S t hs _ => by
    have h1 := aF.sl (hs x (by simp [Op.operands]) _ hx : aF h S (.sl τ) (aB t x) xs); have h3 := aF.int (hs hi (by simp [Op.operands]) _ hh); obtain ⟨u, e1, e2⟩ := h1.cut hT (a := 0) (b := b) ⟨Int.le_refl _, h0⟩; rw [show (0 : Int).toNat = 0 from rfl, List.drop_zero] at e2; refine ⟨u, e2.rep, fun H hH _ _ _ _ _ => ?_⟩; obtain ⟨b', rfl⟩ := Int.eq_ofNat_of_zero_le h0.1; have e3 := e1 h.next h.low
    have e4 : cZ P T (aB t x) none (some (.int .i64 (b' : Nat))) none h = cZ P T (aB t x) (some (.int .i64 0)) (some (.int .i64 (b' : Nat))) none h := by
      rcases h1 with ⟨hu, _⟩ | ⟨bl, o, mk, hu, _⟩ <;> rw [hu] <;> simp only [cZ, hT.sl.sl, dR] <;> rfl
    show (cZ P T (aB t x) none (some (aB t hi)) none H).map _ = _; rw [h3, h1.AB hT (a := 0) (b := b') (by omega) (by omega) hH (by simp [dR]) (fun _ _ => by simp [dR])]
    rw [e4, show h = { next := h.next, low := h.low, aA := h.aA } from rfl, e3]; rfl⟩
end Go.Fs
