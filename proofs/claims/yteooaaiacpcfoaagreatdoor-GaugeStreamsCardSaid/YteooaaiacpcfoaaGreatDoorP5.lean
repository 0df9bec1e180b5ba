/- Parts of the proof: an evaluator of the model, what it is sound for, and contracts of functions. No condition. -/
import Derived.Test.YteooaaiacpcfoaaGreatDoorP2
import Derived.Test.YteooaaiacpcfoaaGreatDoorP4
import Derived.Scope
import Derived.Lib.ItoaNum
import Derived.Lib.Join
import Ieee.Arith
import Derived.Sort.OwnSorted
import Derived.Lib.AtoiAll
import Derived.Test.YteooaaiacpcfoaaGreatDoorChecked
set_option linter.all false
namespace Go
variable {P : Program}
theorem stepR_scopeFs {b : Frame} {a : Act} {k : List Item} {cs : List Frame} {w : World} {c : Code} : step P (lone (b.atR a (.code (.scope c) :: k)) cs w) = .next (lone (b.atR a (.code c :: .inScope c :: k)) cs w) :=
  step_lone_go (by simp [stepG, stepG.exec, Frame.atR])
theorem stepR_inScopeFs {b : Frame} {a : Act} {k : List Item} {cs : List Frame} {w : World} {c : Code} : step P (lone (b.atR a (.inScope c :: k)) cs w) = .next (lone (b.atR a k) cs w) :=
  step_lone_go (by simp [stepG, stepG.exec, Frame.atR])
theorem wpIn_scopeFs {F : Fence} {n : Nat} {Q : Exit → Act → World → Prop} {a : Act} {w : World} {c : Code} (h : c.wpIn F n P (Exit.noGoto Q) a w) : (Code.scope c).wpIn F n P Q a w := by
  intro b k cs hro hb hr; have h0 : (lone (b.atR a (.code (.scope c) :: k)) cs w).fenced P F := fenced_calm hb hr rfl; obtain ⟨e, a₁, w₁, hq, harr⟩ := h b (.inScope c :: k) cs hro hb hr
  cases e with
  | normal => exact ⟨.normal, a₁, w₁, hq, .head h0 stepR_scopeFs (StepsIn.trans harr (.one (fenced_calm hb hr rfl) stepR_inScopeFs))⟩
  | exit id =>
    have hx : exitTo id (.inScope c :: k) = exitTo id k := by simp [exitTo]
    exact ⟨.exit id, a₁, w₁, hq, fun k' hk => .head h0 stepR_scopeFs (harr.1 k' (by rw [hx]; exact hk)),
      fun hr' hk => let ⟨k₁, h1, h2⟩ := harr.2 hr' (by rw [hx]; exact hk); ⟨k₁, h1, .head h0 stepR_scopeFs h2⟩⟩
  | goto l => exact hq.elim
  | ret => exact ⟨_, a₁, w₁, hq, .of_steps (.one h0 stepR_scopeFs) harr⟩
  | panic ch => exact ⟨_, a₁, w₁, hq, .of_steps (.one h0 stepR_scopeFs) harr⟩
  | outgrown => exact ⟨_, a₁, w₁, hq, .of_steps (.one h0 stepR_scopeFs) harr⟩
end Go
namespace Go.Fs
open Go.RowKit (Below)
variable {P : Program} {ρ ρ' : Ren} {S S' : Nat → Prop} {B : Nat} {w0 w w' w1 w2 : World} {h h' h1 h2 : Heap}
theorem call_sound (hP : ProgOk P) {orc : FuncId → List Value → Heap → Option (Value × Heap)} (horc : CallSound P B w0 orc) {m : Nat} {rec : Rec} (hrec : SoundR P B w0 m rec) : CallSnd P B w0 (callOf P orc rec) := by
  intro f args h v h' hf; unfold callOf at hf; split at hf
  · rename_i r hr; simp only [Option.some.injEq] at hf; subst hf; exact .inl (horc _ _ _ _ _ hr)
  split at hf
  · rename_i r hr; simp only [Option.some.injEq] at hf; subst hf; refine .inr fun ρ S w args' hr2 ha => ?_; unfold fsExt at hr; split at hr
    · rename_i fn hfn; obtain ⟨hb, hr3⟩ := bif_some hr; obtain ⟨hb1, hb2⟩ := band hb; split at hr3
      · rename_i e h1 h2; obtain ⟨haf, hr4⟩ := bif_some hr3; obtain ⟨hp, rfl⟩ := map_pair hr4; obtain ⟨h3, h4⟩ := purely_ok hp w; have he : args' = args := ha.eq_of_af haf; subst he; refine ⟨w, v, ?_, ρ, Moved.same hr2, .of_af h4⟩; unfold callFunc
        have hb2' : (fn.name == "runtime.NumGoroutine") = false := by simpa using hb2
        simp only [Sem.run_bind, run_program, Result.andThen_ok, hfn, hb1, hb2', Bool.false_eq_true, if_false, if_true, h1, h2]; have hm : (mark (Mark.extern f)).run P w = .ok () w := rfl; rw [hm]; simp only [Result.andThen_ok, h3, Sem.run_pure]
      cases hr3
    cases hr
  exact .inl (enter_sound hP hrec _ _ _ _ _ hf)
theorem Post.same {fr : Fr} {a : Act} (hr : HR P ρ S B w0 h w) (ht : TrR ρ S fr.t fr.n a.tmps) (hm : MarksR ρ S fr.marks a.defers) : Post P B w0 ρ ρ S h w fr h w a :=
  ⟨Moved.same hr, ht.mono fun _ hb => ⟨.inl hb, rfl⟩, hm.mono fun _ hb => ⟨.inl hb, rfl⟩⟩
theorem step_sound (hP : ProgOk P) {orc : FuncId → List Value → Heap → Option (Value × Heap)} (horc : CallSound P B w0 orc) {m : Nat} {rec : Rec} (hrec : SoundR P B w0 m rec) : SoundR P B w0 (m + 1) (fsStep P orc rec) := by
  intro rnd c fr h e fr' h' hok hf ρ S w a nn Q hr ht hm hs k; have hcs : CallSnd P B w0 (callOf P orc rec) := call_sound hP horc hrec; have hys : YieldSound P B w0 (fsYield rec) := yield_sound hrec
  cases c with
  | skip =>
    simp only [fsStep, Option.some.injEq, Prod.mk.injEq] at hf; obtain ⟨rfl, rfl, rfl⟩ := hf
    exact wpIn_skip (k _ _ _ (Post.same hr ht hm))
  | label l =>
    simp only [fsStep, Option.some.injEq, Prod.mk.injEq] at hf; obtain ⟨rfl, rfl, rfl⟩ := hf
    exact wpIn_label (k _ _ _ (Post.same hr ht hm))
  | exit id =>
    simp only [fsStep, Option.some.injEq, Prod.mk.injEq] at hf; obtain ⟨rfl, rfl, rfl⟩ := hf
    exact wpIn_exit (k _ _ _ (Post.same hr ht hm))
  | ret =>
    simp only [fsStep, Option.some.injEq, Prod.mk.injEq] at hf; obtain ⟨rfl, rfl, rfl⟩ := hf
    exact wpIn_ret (k _ _ _ (Post.same hr ht hm))
  | goto l => simp only [fsStep] at hf; cases hf
  | refuse l => simp only [fsStep] at hf; cases hf
  | scope b =>
    simp only [fsStep] at hf; refine wpIn_scopeFs ?_; refine (hrec rnd b fr h e fr' h' hok hf ρ S w a nn _ hr ht hm hs fun ρ1 w1 a1 p1 => ?_).wpIn; have hq := k _ _ _ p1
    cases e with
    | normal => exact hq
    | exit id => exact hq
    | ret => exact hq
  | seq x y =>
    simp only [fsStep] at hf; obtain ⟨ok1, ok2⟩ := band (show (codeOk x && codeOk y) = true from hok); refine wpIn_seq ?_; split at hf
    · rename_i fr1 h1 hrun; refine (hrec rnd x fr h _ fr1 h1 ok1 hrun ρ S w a nn _ hr ht hm hs fun ρ1 w1 a1 p1 => ?_).wpIn; show y.wpIn (rndF ρ rnd) nn P Q a1 w1; rw [← rndF_eq hs p1.moved.agree]; exact (hrec rnd y fr1 h1 e fr' h' ok2 hf ρ1 _ w1 a1 nn Q p1.moved.hr p1.tmps p1.marks (fun l hl => .inl (hs l hl)) fun ρ2 w2 a2 p2 => k _ _ _ (Post.trans (fr1 := fr1) (a1 := a1) p1.moved p2)).wpIn
    rename_i hne; refine (hrec rnd x fr h e fr' h' ok1 hf ρ S w a nn _ hr ht hm hs fun ρ1 w1 a1 p1 => ?_).wpIn; have hq := k _ _ _ p1
    cases e with
    | normal => exact (hne _ _ hf).elim
    | exit id => exact hq
    | ret => exact hq
  | cond x y z =>
    simp only [fsStep] at hf; obtain ⟨ok1, ok2⟩ := band (show (codeOk y && codeOk z) = true from hok); have hev := ht.eval a.defers x; split at hf
    · rename_i hx; rw [hx] at hev; exact wpIn_cond_true hev.bool_inv (hrec rnd y fr h e fr' h' ok1 hf ρ S w a nn Q hr ht hm hs k).wpIn
    · rename_i hx; rw [hx] at hev; exact wpIn_cond_false hev.bool_inv (hrec rnd z fr h e fr' h' ok2 hf ρ S w a nn Q hr ht hm hs k).wpIn
    cases hf
  | block id b =>
    simp only [fsStep] at hf; refine wpIn_block ?_; split at hf
    · rename_i id' fr1 h1 hrun; refine (hrec rnd b fr h _ fr1 h1 hok hrun ρ S w a nn _ hr ht hm hs fun ρ1 w1 a1 p1 => ?_).wpIn
      cases hb : Nat.beq id' id with
      | true =>
        rw [hb] at hf; simp only [cond_true, Option.some.injEq, Prod.mk.injEq] at hf; obtain ⟨rfl, rfl, rfl⟩ := hf; have := k _ _ _ p1; simp only [exOf, Exit.inBlock, nbeq hb, if_true]
        exact this
      | false =>
        rw [hb] at hf; simp only [cond_false, Option.some.injEq, Prod.mk.injEq] at hf; obtain ⟨rfl, rfl, rfl⟩ := hf; have := k _ _ _ p1; simp only [exOf, Exit.inBlock, if_neg (ne_of_no hb)]; exact this
    rename_i hne; refine (hrec rnd b fr h e fr' h' hok hf ρ S w a nn _ hr ht hm hs fun ρ1 w1 a1 p1 => ?_).wpIn; have hq := k _ _ _ p1
    cases e with
    | normal => exact hq
    | exit id' => exact (hne _ _ _ hf).elim
    | ret => exact hq
  | loop b =>
    simp only [fsStep] at hf; show Code.roundsIn (rndF ρ rnd) nn P b Q (m + 1) a w; rw [roundsIn_succ]; split at hf
    · rename_i fr1 h1 hrun; refine (hrec rnd b fr h _ fr1 h1 hok hrun ρ S w a nn _ hr ht hm hs fun ρ1 w1 a1 p1 => ?_).wpIn; show Code.roundsIn (rndF ρ rnd) nn P b Q m a1 w1; rw [← rndF_eq hs p1.moved.agree]; exact hrec rnd (.loop b) fr1 h1 e fr' h' hok hf ρ1 _ w1 a1 nn Q p1.moved.hr p1.tmps p1.marks (fun l hl => .inl (hs l hl)) fun ρ2 w2 a2 p2 => k _ _ _ (Post.trans (fr1 := fr1) (a1 := a1) p1.moved p2)
    rename_i hne; refine (hrec rnd b fr h e fr' h' hok hf ρ S w a nn _ hr ht hm hs fun ρ1 w1 a1 p1 => ?_).wpIn; have hq := k _ _ _ p1
    cases e with
    | normal => exact (hne _ _ hf).elim
    | exit id => exact hq
    | ret => exact hq
  | region id ops draw =>
    cases draw with
    | false =>
      simp only [fsStep] at hf; split at hf
      · rename_i t h1 hrun; simp only [Option.some.injEq, Prod.mk.injEq] at hf; obtain ⟨rfl, rfl, rfl⟩ := hf; refine wpIn_region ?_; exact ops_wp (step := fsOpM P (callOf P orc rec) (fsYield rec)) rfl hcs hys _ _ ρ S w a fr.t h range_map hr ht hrun fun ρ1 w1 a1 m1 ht1 hd1 => k _ _ _ ⟨m1, ht1, by rw [hd1]; exact hm.mono fun b hb => ⟨.inl hb, m1.agree b hb⟩⟩
      cases hf
    | true =>
      simp only [fsStep] at hf
      cases hl : lateB ops with
      | false =>
        rw [hl] at hf; simp only [cond_false] at hf; split at hf
        · rename_i s hrun; simp only [Option.some.injEq, Prod.mk.injEq] at hf; obtain ⟨rfl, rfl, rfl⟩ := hf; refine wpIn_region_draw fun t => ?_; rw [hP.mixed]; exact drawn_wp (call := callOf P orc rec) (yield := fsYield rec) hcs hys hok hrun (hr.drew _) ht (fun ρ1 w1 a1 m1 ht1 hd1 => k _ _ _ ⟨Moved.ofDrew m1, ht1, by rw [hd1]; exact hm.mono fun b hb => ⟨.inl hb, m1.agree b hb⟩⟩) t
        cases hf
      | true =>
        rw [hl] at hf; simp only [cond_true] at hf; split at hf
        · rename_i s hrun; simp only [Option.some.injEq, Prod.mk.injEq] at hf; obtain ⟨rfl, rfl, rfl⟩ := hf; refine wpIn_region_draw fun t => ?_; rw [hP.mixed]; exact drawn_wpL (call := callOf P orc rec) (yield := fsYield rec) hcs hys hok hrun (hr.drew _) ht (fun ρ1 w1 a1 m1 ht1 hd1 => k _ _ _ ⟨Moved.ofDrew m1, ht1, by rw [hd1]; exact hm.mono fun b hb => ⟨.inl hb, m1.agree b hb⟩⟩) t
        cases hf
  | rangeFunc g ps assign body =>
    simp only [fsStep] at hf; obtain ⟨ok1, ok2⟩ := band (show (codeOk assign && codeOk body) = true from hok); exact rangeFunc_sound hP hrec ok1 ok2 hf hr ht hm hs k
theorem code_sound (hP : ProgOk P) {orc : FuncId → List Value → Heap → Option (Value × Heap)} (horc : CallSound P B w0 orc) : ∀ m, SoundR P B w0 m (fsCode P orc m)
  | 0 => fun rnd c fr h e fr' h' _ hf => by cases hf
  | m + 1 => step_sound hP horc (code_sound hP horc m)
end Go.Fs
namespace Go.Fs
open Go.RowKit (Below)
variable {P : Program}
theorem fs_open (hP : ProgOk P) {B : Nat} {w0 w : World} {orc : FuncId → List Value → Heap → Option (Value × Heap)} (horc : CallSound P B w0 orc) {ρ : Ren} {S : Nat → Prop} {h : Heap} {f : FuncId} {args args' : List Value} {v : Value}
    (hE : Enters P f) (hr : HR P ρ S B w0 h w) (ha : LR ρ S args args') (he : EvF P orc f args h fun u _ => u = v) (hv : af v = true) : Calls P f args'.toArray w fun | .returned v', w' => v' = v ∧ Below B w0 w' | _, _ => False := by
  obtain ⟨m, u, h', h1, rfl⟩ := he
  have hc : CallsIn Fence.wide 0 P f args'.toArray w (RetR P B w0 ρ S h w u h') := by
    rcases call_sound hP horc (code_sound hP horc m) f args h u h' h1 with h2 | h2
    · exact h2.2 ρ S w args' hr ha 0
    obtain ⟨w', v', h3, _⟩ := h2 ρ S w args' hr ha; rw [callFunc_run hE] at h3; simp at h3
  refine Calls.mono (callsIn_wide.1 hc) fun e w' he => ?_
  cases e with
  | returned v' =>
    obtain ⟨ρ', m1, hv1⟩ := he
    exact ⟨hv1.eq_of_af hv, m1.hr.below⟩
  | panicked c => exact he.elim
  | outgrown => exact he.elim
end Go.Fs
namespace Go.Fs
open Go.RowKit (Below)
variable {P : Program}
def digs : Nat → Nat → List UInt8
  | 0, _ => []
  | f + 1, n => bif Nat.blt n 10 then [UInt8.ofNat (48 + n)] else digs f (n / 10) ++ [UInt8.ofNat (48 + n % 10)]
def itoaF (n : Int) : List UInt8 := match n with
  | .ofNat k => digs 20 k
  | .negSucc k => 45 :: digs 20 (k + 1)
def joinF (sep : List UInt8) : List (List UInt8) → List UInt8
  | [] => []
  | [w] => w
  | w :: r => w ++ sep ++ joinF sep r
def strs : List Value → Option (List ByteArray)
  | [] => some []
  | .string s :: r => (strs r).map (s :: ·)
  | _ => none
theorem digs_eq : ∀ (f n : Nat), n < 10 ^ (f + 1) → digs (f + 1) n = Lib.decDigits n
  | f, n, h => by
    unfold digs Lib.decDigits
    cases hb : Nat.blt n 10 with
    | true => rw [dif_pos (nblt hb)]; rfl
    | false =>
      have h1 : ¬ n < 10 := by have := nble_no hb; omega
      rw [dif_neg h1]; simp only [cond_false]
      cases f with
      | zero => simp at h; omega
      | succ f => rw [digs_eq f (n / 10) (by rw [Nat.pow_succ] at h; omega)]
theorem itoaF_eq {n : Int} (h0 : -1000000000000000000 < n) (h1 : n < 1000000000000000000) : itoaF n = Lib.itoa n := by
  unfold Lib.itoa
  cases n with
  | ofNat k =>
    rw [if_neg (by simp)]; show digs 20 k = _; rw [digs_eq 19 k (by have : (k : Int) < 1000000000000000000 := h1; have : (10 : Nat) ^ (19 + 1) = 100000000000000000000 := (by decide); omega)]
    rfl
  | negSucc k =>
    rw [if_pos (by omega)]; show 45 :: digs 20 (k + 1) = _; rw [digs_eq 19 (k + 1) (by have h2 : -1000000000000000000 < Int.negSucc k := h0; have : (10 : Nat) ^ (19 + 1) = 100000000000000000000 := (by decide); omega)]; rfl
def orcS (fi fj : FuncId) : FuncId → List Value → Heap → Option (Value × Heap) := fun f xs h =>
  bif Nat.beq f fi then
    match xs with
    | [.int .i64 n] => bif decide (-1000000000000000000 < n) && decide (n < 1000000000000000000) then some (.string ⟨(itoaF n).toArray⟩, h) else none
    | _ => none
  else bif Nat.beq f fj then
    match xs with
    | [.slice (some ⟨b, o, none⟩) n _, .string sep] =>
      match h.get b with
      | some (.row _ cs _ _) =>
        bif Nat.ble (o + n) cs.length && Nat.ble n 1000000 then
          match strs ((cs.drop o).take n) with
          | some ss => let r := joinF sep.data.toList (ss.map (·.data.toList))
            bif Nat.ble r.length 1000000000 then some (.string ⟨r.toArray⟩, h) else none
          | none => none
        else none
      | _ => none
    | _ => none
  else none
variable {B : Nat} {w0 w w' : World} {ρ : Ren} {S : Nat → Prop} {h : Heap}
end Go.Fs
namespace Go.Fs
open Go.RowKit (Below)
variable {P : Program}
def orcA (fi fj fa : FuncId) : FuncId → List Value → Heap → Option (Value × Heap) := fun f xs h =>
  bif Nat.beq f fa then
    match xs with
    | [] => some (.bool true, h)
    | _ => none
  else orcS fi fj f xs h
theorem orcA_sound {B : Nat} {w0 : World} {fi fj fa : FuncId} (hz : w0.drawn = 0) (hS : CallSound P B w0 (orcS fi fj)) (ha : Enters P fa)
    (hA : ∀ w, Below B w0 w → Calls P fa #[] w fun | .returned v', w' => v' = .bool true ∧ Below w.heap.size w w' | _, _ => False) : CallSound P B w0 (orcA fi fj fa) := by
  intro f xs h v h' hf; unfold orcA at hf
  cases hb : Nat.beq f fa with
  | true =>
    have := nbeq hb; subst this; rw [hb] at hf; simp only [cond_true] at hf; split at hf
    · simp only [Option.some.injEq, Prod.mk.injEq] at hf; obtain ⟨rfl, rfl⟩ := hf; refine ⟨ha, fun ρ S w args' hr har nn => ?_⟩; have he : args' = [] := List.eq_nil_of_length_eq_zero har.1.symm; subst he; have hC : CallsIn Fence.wide nn P f #[] w _ := callsIn_wide.2 (hA w hr.below); refine hC.mono fun e w' hret => ?_
      cases e with
      | returned v' =>
        obtain ⟨rfl, hb⟩ := hret
        exact ⟨ρ, Moved.grewWorld hr hb (by rw [hz]; exact Nat.zero_le _), .lit rfl⟩
      | panicked c => exact hret.elim
      | outgrown => exact hret.elim
    cases hf
  | false =>
    rw [hb] at hf; exact hS f xs h v h' hf
end Go.Fs
namespace Go.Fs
variable {P : Program} {fl : VL} {σ γ : Sto} {Q : PV → Sto → Prop} {fn : Func}
variable {p q r : ByteArray}
variable {x y : Operand} {T T' : TypeId}
end Go.Fs
namespace Go.Fs
variable {P : Program} {orc : FuncId → List Value → Heap → Option (Value × Heap)} {rnd : Option Nat} {h h' h0 h1 h2 : Heap} {S S' S0 : List Nat} {σ σ' : Sto} {t t' : Tr} {ms : List Nat} {fl : VL} {ops : Array Oper} {n i mem : Nat} {l : List Oper} {K : VL → Sto → Prop}
  {d : Tmp} {ty : TypeId} {pos : String} {after : Array Edge} {op : Op} {v pv : PV} {g : Option (Nat × Bool)} {x y z : Operand} {T T' e : TypeId} {τ τ' : Ty}
inductive FnL : List PV → List PV → Prop where
  | nil : FnL [] []
  | same {p : PV} {l l' : List PV} (hl : FnL l l') : FnL (p :: l) (p :: l')
  | fn {f : FuncId} {l l' : List PV} (hl : FnL l l') : FnL (.clo f [] [] :: l) (.v .fn (some f) :: l')
end Go.Fs
namespace Go.Fs
variable {P : Program} {orc : FuncId → List Value → Heap → Option (Value × Heap)} {rnd : Option Nat} {h h' h0 h1 h2 hr : Heap} {S S' S0 B G A : List Nat} {σ σ' σr ρ : Sto} {t t' : Tr} {ms : List Nat} {fl : VL} {ops : Array Oper} {n i mem : Nat} {l : List Oper} {K : VL → Sto → Prop} {Q : Ex → VL → Sto → Prop}
  {d : Tmp} {ty : TypeId} {pos : String} {after : Array Edge} {op : Op} {v pv : PV} {g : Option (Nat × Bool)} {x y z : Operand} {T T' e : TypeId} {τ τ' : Ty} {bs nw rd chg : List Nat} {segs : List (Nat × Nat × Nat)} {tail tl : Bool} {w w' : Value}
section
variable (P orc)
def EvL (hr : Heap) (ops : Array Oper) (n : Nat) (l : List Oper) (i : Nat) (x : LSt) (Q : LSt → Prop) : Prop := ∃ m x', lateDrawn P hr (stepAt P orc m) ops n l i x = some x' ∧ Q x'
end
theorem EvL.nil {x : LSt} {QL : LSt → Prop} (hq : QL x) : EvL P orc hr ops n [] i x QL := ⟨0, x, rfl, hq⟩
theorem EvL.opr {o : Oper} {x x' : LSt} {QL : LSt → Prop} (hs : lateDraw P hr (stepO P) ops n o i x = some x') (hl : EvL P orc hr ops n l (i + 1) x' QL) : EvL P orc hr ops n (o :: l) i x QL := by
  obtain ⟨m, s2, hf, hq⟩ := hl; refine ⟨m, s2, ?_, hq⟩; simp only [lateDrawn, lateDraw_mono (stepO_le m) fsOp_eqC hs]; exact hf
def quietOp : Op → Bool
  | .load .. => true
  | .call { callee := .builtin .len, .. } => true
  | .slice .. => true
  | .convert .. => true
  | _ => false
theorem quiet_no {ev : Operand → Value} {nx : Nat} (hq : quietOp op = false) : quietV P hr op ev nx = none := by
  unfold quietV; split
  · cases hq
  · cases hq
  · cases hq
  · cases hq
  rfl
theorem EvL.call {o : Oper} {s : DSt} {c : Call} {f : Operand} {gf : FuncId} {a b : Array Value} {QL : LSt → Prop} (hw : fsWanted ops s.t o = some true) (ho : o.op = .call c) (hc : c.callee = .value f) (hf : evalO s.t f = .func (.func gf) a b)
    (hord : Nat.beq (s.mem &&& beforeOf s.bs o) s.mem = true)
    (hl : EvF P orc gf (a.toList ++ c.args.toList.map (evalO s.t) ++ b.toList) (entry s.h) fun v h' => Nat.blt h'.next s.h.next = false ∧ Nat.ble s.h.next h'.low = true ∧
      ∃ t', put n s.t o.dst v = some t' ∧ EvL P orc hr ops n l (i + 1) (drewOn o i s t' h', rd, chg) QL) : EvL P orc hr ops n (o :: l) i (s, rd, chg) QL := by
  obtain ⟨m, v, h1, hf1, hnx, hlo, t1, hp, k, s2, hr2, hq⟩ := hl; refine ⟨max m k, s2, ?_, hq⟩; have h3 := LeC.callOf' (P := P) (orc := orc) (Nat.le_max_left m k) _ _ _ _ hf1
  have hcalm : calm o.op = false := by rw [ho]; obtain ⟨cl, as_, ats⟩ := c; obtain rfl : cl = .value f := hc; rfl
  have hqo : quietOp o.op = false := by
    rw [ho]; obtain ⟨cal, args, ats⟩ := c; simp only at hc; subst hc; rfl
  have hd : lateDraw P hr (stepAt P orc (max m k)) ops n o i (s, rd, chg) = some (drewOn o i s t1 h1, rd, chg) := by
    unfold lateDraw; simp only [hw, hcalm, Bool.false_eq_true, if_false, quiet_no hqo]; unfold lateMem; simp only [hord, Bool.not_true, Bool.and_false, cond_false, cond_true]; rw [stepAt_call ho hc hf]; unfold entry at h3; rw [h3]; simp only [hnx, cond_false, hp, hlo, cond_true]; unfold drewOn; simp only [hlo, cond_true]
  simp only [lateDrawn, hd]; exact lateDrawn_mono (stepAt_mono (Nat.le_max_right m k)) fsOp_eqC _ _ _ _ hr2
theorem EvC.late {id : Nat} {fr : Fr} {QC : Ex → Fr → Heap → Prop} (hl : lateB ops = true) (hlk : lateK ops = false) (ho : EvL P orc h ops fr.n ops.toList 0 (⟨fr.t, h, [], [], 0, false⟩, [], []) fun x => apartB x = true ∧ QC .normal { t := x.1.t, n := fr.n, marks := fr.marks } x.1.h) : EvC P orc rnd (.region id ops true) fr h QC := by
  obtain ⟨m, x, hf, ha, hq⟩ := ho; refine ⟨m + 1, .normal, _, _, ?_, hq⟩; show fsStep P orc (fsCode P orc m) rnd (.region id ops true) fr h = _; unfold stepAt at hf; simp only [fsStep, hl, cond_true, drawnL, hlk, cond_false, hf, ha]
structure Late (hr h : Heap) (S0 A : List Nat) (σ ρ : Sto) (t : Tr) (fl : VL) (nw rd chg : List Nat) : Prop where
  ok : HOk hr
  lt : SLt hr (A ++ S0)
  next : hr.next ≤ h.next
  goes : Goes hr (A ++ S0) h (own σ ++ S0)
  slots : ∀ k pv, lkV fl k = some pv → nwHas nw k = false → RepPV hr (A ++ S0) pv (t.get k)
  suf : ∃ σ1, σ = σ1 ++ ρ
  cells : ∀ c ∈ ρ, CellR hr (A ++ S0) c.1 c.2
  fix : ∀ b ∈ own ρ, b ∈ A
  new : ∀ b ∈ own σ, b ∈ A ∨ hr.next ≤ b
  rd : ∀ b ∈ rd, b < hr.next ∧ (b ∈ own ρ ∨ b ∉ A)
  chg : ∀ k ∈ chg, k ∉ own ρ ∧ (k ∈ A ∨ hr.next ≤ k)
section
variable (P orc)
def VLt (ops : Array Oper) (n : Nat) (l : List Oper) (i : Nat) (fl : VL) (nw : List Nat) (σ ρ : Sto) (bs : List Nat) (mem : Nat) (tl : Bool) (K : VL → Sto → Prop) : Prop :=
  ∀ (hr h0 : Heap) (G S0 A : List Nat) (t : Tr) (h : Heap) (ms rd chg : List Nat) (segs : List (Nat × Nat × Nat)) (tail : Bool), (tl = false → tail = false) → Iv h0 G S0 h σ t ms fl → Late hr h S0 A σ ρ t fl nw rd chg →
    EvL P orc hr ops n l i (⟨t, h, bs, segs, mem, tail⟩, rd, chg) fun x => apartB x = true ∧ ∃ fl' σ', Iv h0 G S0 x.1.h σ' x.1.t ms fl' ∧ K fl' σ'
end
theorem VC.late {id : Nat} {ops : Array Oper} (ρ : Sto) (hs : ∃ σ1, σ = σ1 ++ ρ) (hx : VLt P orc ops n ops.toList 0 fl [] σ ρ [] 0 false fun fl' σ' => Q .normal fl' σ') (hl : lateB ops = true := by kernel_rfl) (hlk : lateK ops = false := by kernel_rfl) : VC P orc rnd (.region id ops true) n fl σ Q := fun h0 G S0 t h ms I => by
  refine EvC.late hl hlk ?_; have hA := I.lc.lt
  have hfix : ∀ b ∈ own ρ, b ∈ own σ := fun b hb => by
    obtain ⟨σ1, rfl⟩ := hs; rw [own_app]; exact List.mem_append_right _ hb
  obtain ⟨m, x, h1, ha, fl', σ', h2, h3⟩ := hx h h0 G S0 (own σ) t h ms [] [] [] false (fun _ => rfl) I
    { ok := I.ok, lt := I.slots.1.slt I.ok hA, next := Nat.le_refl _, goes := fun b o hg hb => ⟨hg, hb⟩, slots := fun k pv hk _ => I.slots k pv hk, suf := hs,
      cells := fun c hc => I.cells c (by obtain ⟨σ1, rfl⟩ := hs; exact List.mem_append_right _ hc), fix := hfix, new := fun b hb => .inl hb, rd := fun b hb => (by cases hb), chg := fun k hk => (by cases hk) }
  exact ⟨m, x, h1, ha, rfl, fl', σ', h2, h3⟩
theorem VLt.nil (hk : K fl σ) : VLt P orc ops n [] i fl nw σ ρ bs mem tl K := fun hr h0 G S0 A t h ms rd chg segs tail ht I L => by
  refine EvL.nil ⟨?_, fl, σ, I, hk⟩; refine List.all_eq_true.2 fun b hb => List.all_eq_true.2 fun k hk => ?_; obtain ⟨r1, r2⟩ := L.rd b hb; obtain ⟨c1, c2⟩ := L.chg k hk
  have hne : b ≠ k := by
    intro e; subst e; rcases r2 with r2 | r2
    · exact c1 r2
    rcases c2 with c2 | c2
    · exact r2 c2
    omega
  rw [beq_no hne]; rfl
theorem VLt.go {b : Code} (hx : VC P orc rnd b n fl σ Q) : VLt P orc ops n [] i fl nw σ ρ bs mem tl fun fl σ => thenV P orc rnd n b Q .normal fl σ := VLt.nil hx
theorem Late.set {u : Value} {old : Bool} (L : Late hr h S0 A σ ρ t fl nw rd chg) (hd : d < 4000) (hu : old = true → RepPV hr (A ++ S0) v u) : Late hr h S0 A σ ρ (t.set depth d u) ((d, v) :: fl) (nwSet old d nw) rd chg :=
  { L with
    slots := fun k pv hk hn => by
      rw [get_setD t d u k hd]; simp only [lkV] at hk
      cases hb : Nat.beq d k with
      | true =>
        rw [hb] at hk; simp only [cond_true, Option.some.injEq] at hk; subst hk; rw [if_pos (nbeq hb).symm]
        cases old with
        | true => exact hu rfl
        | false =>
          simp only [nwSet, cond_false, nwHas, hb, cond_true] at hn
          cases hn
      | false =>
        rw [hb] at hk; simp only [cond_false] at hk; have hne := ne_of_no hb; rw [if_neg (Ne.symm hne)]; refine L.slots k pv hk ?_
        cases old with
        | true => rw [nwSet, cond_true, nwHas_filter (Ne.symm hne)] at hn; exact hn
        | false => simpa only [nwSet, cond_false, nwHas, hb] using hn }
theorem Late.read (L : Late hr h S0 A σ ρ t fl nw rd chg) {b : Nat} (hb : b < hr.next ∧ (b ∈ own ρ ∨ b ∉ A)) : Late hr h S0 A σ ρ t fl nw (b :: rd) chg :=
  { L with
    rd := fun k hk => by
      rcases List.mem_cons.1 hk with rfl | hk
      · exact hb
      exact L.rd k hk }
theorem Late.made (L : Late hr h S0 A σ ρ t fl nw rd chg) (I : Iv h0 G S0 h σ t ms fl) (m : Made S0 h h' σ σ') (hs : ∃ σ1, σ' = σ1 ++ ρ) : Late hr h' S0 A σ' ρ t fl nw rd chg :=
  { L with
    next := Nat.le_trans L.next m.aft.next
    goes := L.goes.trans (I.goes (fun _ hb => hb) m.aft m.new)
    suf := hs
    new := fun b hb => by
      rcases m.new b hb with h3 | h3
      · exact L.new b h3
      have := L.next
      exact .inr (by omega) }
theorem VLt.c {b : Nat} (hc : CalmV P fl [] op v) (hk : VLt P orc ops n l (i + 1) ((d, v) :: fl) (nwSet (oldOp nw op || v.flat0) d nw) σ ρ (bs ++ [b]) mem tl K)
    (hb : beforeOf bs ⟨some d, op, ty, pos, after, g⟩ = b := by rfl) (hw : wantV ops fl g = some true := by rfl) (hn : (Nat.blt d n && Nat.ble n 4000) = true := by rfl) :
    VLt P orc ops n (⟨some d, op, ty, pos, after, g⟩ :: l) i fl nw σ ρ bs mem tl K := fun hr h0 G S0 A t h ms rd chg segs tail ht I L => by
  obtain ⟨n1, n2⟩ := fits hn; obtain ⟨u, e1, e2⟩ := hc.2 h (own σ ++ S0) t I.slots.sees (fun _ hc => by cases hc); refine EvL.opr (x' := (⟨t.set depth d u, h, bs ++ [b], segs, mem, tail⟩, rd, chg)) ?_ (hk hr h0 G S0 A _ h ms rd chg segs tail ht (I.set e1 n2) (L.set n2 fun hold => ?_))
  · unfold lateDraw; have hwt : fsWanted ops t ⟨some d, op, ty, pos, after, g⟩ = some true := want_ok I.slots hw; simp only [hwt, hc.1, if_true, e2, Nat.beq_refl, cond_true, put_fits n1, Option.map_some, hb]
  rcases Bool.or_eq_true_iff.1 hold with hold | hold
  · obtain ⟨u', f1, f2⟩ := hc.2 hr (A ++ S0) t (old_op L.slots hold) (fun _ hc => by cases hc)
    have : u' = u := by
      have g1 := e2 none 0 "" #[] none h; rw [f2 none 0 "" #[] none h] at g1; simpa using g1
    rw [← this]; exact f1
  exact (RepPV.flat0 hold e1).2 _ _
theorem fsLoad_at {b o : Nat} {ob : AObj} {H : Heap} {nx : Nat} {u : Value} (hg : H.get b = some ob) (hv : fsLoad P T (.pointer (some ⟨b, o, none⟩)) H = some u) : fsLoad P T (.pointer (some ⟨b, o, none⟩)) { next := nx, low := nx, objs := [(b, ob)] } = some u := by
  unfold fsLoad at hv ⊢; simp only at hv ⊢
  have : Heap.get { next := nx, low := nx, objs := [(b, ob)] } b = some ob := by
    show look [(b, ob)] b = some ob; simp [look]
  rw [this]; rw [hg] at hv; exact hv
theorem late_quiet {b b0 o0 : Nat} {ob : AObj} {u : Value} (hx : evalO t x = .pointer (some ⟨b0, o0, none⟩)) (hg : hr.get b0 = some ob) (hlt : b0 < hr.next) (hv : fsLoad P T (.pointer (some ⟨b0, o0, none⟩)) hr = some u)
    (hb : beforeOf bs ⟨some d, .load T x, ty, pos, after, g⟩ = b) (hw : fsWanted ops t ⟨some d, .load T x, ty, pos, after, g⟩ = some true) (n1 : Nat.blt d n = true) :
    lateDraw P hr (stepO P) ops n ⟨some d, .load T x, ty, pos, after, g⟩ i (⟨t, h, bs, segs, mem, tail⟩, rd, chg) = some (⟨t.set depth d u, h, bs ++ [b], segs, mem, tail⟩, b0 :: rd, chg) := by
  have hq : quietV P hr (.load T x) (evalO t) h.next = some (u, [b0]) := by
    have hbl : Nat.blt b0 hr.next = true := by rw [Nat.blt_eq]; exact hlt
    simp only [quietV, hx, hg, hbl, cond_true, fsLoad_at (nx := h.next) hg hv, Option.map_some]
  unfold lateDraw; simp only [hw, show calm (Op.load T x) = false from rfl, Bool.false_eq_true, if_false, hq, put_fits n1, Option.map_some, hb]; rfl
theorem VLt.q {b : Nat} {dx : τ.den} (hx : evV fl x = some (.p τ dx)) (hc : ReadV P fl [] (.load T x) v) (hk : VLt P orc ops n l (i + 1) ((d, v) :: fl) (nwSet true d nw) σ ρ (bs ++ [b]) mem tl K)
    (hb : beforeOf bs ⟨some d, .load T x, ty, pos, after, g⟩ = b := by rfl) (hold : oldX nw x = true := by rfl) (hw : wantV ops fl g = some true := by rfl) (hn : (Nat.blt d n && Nat.ble n 4000) = true := by rfl) :
    VLt P orc ops n (⟨some d, .load T x, ty, pos, after, g⟩ :: l) i fl nw σ ρ bs mem tl K := fun hr h0 G S0 A t h ms rd chg segs tail ht I L => by
  obtain ⟨n1, n2⟩ := fits hn; obtain ⟨b0, o0, e', rs, own', more, h1, h2, h3, h4⟩ := (old_sees L.slots hx hold : RepP hr (A ++ S0) τ (evalO t x) dx)
  obtain ⟨u, e1, e2⟩ := hc.2 hr (A ++ S0) t (fun z hz pv hp => by
    obtain rfl : z = x := by simpa [Op.operands] using hz
    exact old_sees L.slots hp hold) (fun _ hc => by cases hc)
  have hst := e2 hr (fun _ _ hg => hg) none 0 "" #[] none
  have hv : fsLoad P T (.pointer (some ⟨b0, o0, none⟩)) hr = some u := by
    have h5 : (fsLoad P T (evalO t x) hr).map (fun v => (v, hr)) = some (u, hr) := hst; obtain ⟨v', h6, h7⟩ := Option.map_eq_some_iff.1 h5; simp only [Prod.mk.injEq, and_true] at h7; rw [← h1, h6, h7]
  have hlt := L.ok b0 _ h3; refine EvL.opr (late_quiet h1 h3 hlt hv hb (want_ok I.slots hw) n1) (hk hr h0 G S0 A _ h ms _ chg segs tail ht (I.set (e1.nx L.goes) n2) ((L.set (old := true) n2 fun _ => e1).read ⟨hlt, .inr fun hm => h2 (List.mem_append_left _ hm)⟩))
theorem fsSlice_at {b o n' mk : Nat} {lo hi mx : Option Value} {ob : AObj} {H : Heap} {nx : Nat} (hg : H.get b = some ob) : fsSlice P T (.slice (some ⟨b, o, none⟩) n' mk) lo hi mx { next := nx, low := nx, objs := [(b, ob)] } = fsSlice P T (.slice (some ⟨b, o, none⟩) n' mk) lo hi mx H := by
  have e : Heap.get { next := nx, low := nx, objs := [(b, ob)] } b = H.get b := by
    rw [hg]; show look [(b, ob)] b = some ob; simp [look]
  unfold fsSlice markOf; simp only [e]
def flatO (fl : VL) (z : Operand) : Bool := match evV fl z with
  | some pv => pv.flat0
  | none => true
theorem VLt.sl {b : Nat} {xs : List τ.den} {lo hi mx : Option Operand} (hx : evV fl x = some (.v (.sl τ) xs)) (hc : ReadV P fl [] (.slice T x lo hi mx) v) (hk : VLt P orc ops n l (i + 1) ((d, v) :: fl) (nwSet true d nw) σ ρ (bs ++ [b]) mem tl K)
    (hfo : ((lo.toList ++ hi.toList ++ mx.toList).all (flatO fl)) = true := by rfl) (hb : beforeOf bs ⟨some d, .slice T x lo hi mx, ty, pos, after, g⟩ = b := by rfl) (hold : oldOp nw (.slice T x lo hi mx) = true := by rfl) (hw : wantV ops fl g = some true := by rfl) (hn : (Nat.blt d n && Nat.ble n 4000) = true := by rfl) :
    VLt P orc ops n (⟨some d, .slice T x lo hi mx, ty, pos, after, g⟩ :: l) i fl nw σ ρ bs mem tl K := fun hr h0 G S0 A t h ms rd chg segs tail ht I L => by
  obtain ⟨n1, n2⟩ := fits hn; have hsee : Sees hr (A ++ S0) t fl (.slice T x lo hi mx) := old_op L.slots hold; have hwt : fsWanted ops t ⟨some d, .slice T x lo hi mx, ty, pos, after, g⟩ = some true := want_ok I.slots hw; have hsl := RepV.sl (hsee x (by simp [Op.operands]) _ hx : RepV hr (A ++ S0) (.sl τ) (evalO t x) xs)
  have hfin : ∀ {u : Value} {r : List Nat}, quietV P hr (.slice T x lo hi mx) (evalO t) h.next = some (u, r) → RepPV hr (A ++ S0) v u → Late hr h S0 A σ ρ (t.set depth d u) ((d, v) :: fl) (nwSet true d nw) (r ++ rd) chg →
      EvL P orc hr ops n (⟨some d, .slice T x lo hi mx, ty, pos, after, g⟩ :: l) i (⟨t, h, bs, segs, mem, tail⟩, rd, chg) fun x' => apartB x' = true ∧ ∃ fl' σ', Iv h0 G S0 x'.1.h σ' x'.1.t ms fl' ∧ K fl' σ' := fun {u r} hq e1 hL => by
    refine EvL.opr (x' := (⟨t.set depth d u, h, bs ++ [b], segs, mem, tail⟩, r ++ rd, chg)) ?_ (hk hr h0 G S0 A _ h ms _ chg segs tail ht (I.set (e1.nx L.goes) n2) hL); unfold lateDraw; simp only [hwt, show calm (Op.slice T x lo hi mx) = false from rfl, Bool.false_eq_true, if_false, hq, put_fits n1, Option.map_some, hb]
  cases xs with
  | nil =>
    have hemp : RepPV { next := h.next, low := h.next, objs := [] } (A ++ S0) (.v (.sl τ) []) (evalO t x) := by
      rcases hsl with ⟨hu, _⟩ | ⟨bl, o, mk, hu, _⟩
      · exact (show SlV _ (A ++ S0) τ (evalO t x) [] from .inl ⟨hu, rfl⟩).rep
      exact (show SlV _ (A ++ S0) τ (evalO t x) [] from .inr ⟨bl, o, mk, hu, .inl rfl⟩).rep
    have hsee0 : Sees { next := h.next, low := h.next, objs := [] } (A ++ S0) t fl (.slice T x lo hi mx) := fun z hz pv hp => by
      rcases List.mem_cons.1 (show z ∈ x :: (lo.toList ++ hi.toList ++ mx.toList) by simpa [Op.operands] using hz) with rfl | hz'
      · rw [hx] at hp; obtain rfl := Option.some.inj hp; exact hemp
      have hf := List.all_eq_true.1 hfo z hz'; unfold flatO at hf; rw [hp] at hf; exact (RepPV.flat0 hf (hsee z hz pv hp)).2 _ _
    obtain ⟨u, e1, e2⟩ := hc.2 { next := h.next, low := h.next, objs := [] } (A ++ S0) t hsee0 (fun _ hc => by cases hc); have hst := e2 { next := h.next, low := h.next, objs := [] } (fun _ _ hg => hg) none 0 "" #[] none; have h5 : (fsSlice P T (evalO t x) (lo.map (evalO t)) (hi.map (evalO t)) (mx.map (evalO t)) { next := h.next, low := h.next, objs := [] }).map (fun v => (v, ({ next := h.next, low := h.next, objs := [] } : Heap))) = some (u, { next := h.next, low := h.next, objs := [] }) := hst; obtain ⟨v', h6, h7⟩ := Option.map_eq_some_iff.1 h5; simp only [Prod.mk.injEq, and_true] at h7; subst h7
    have e3 : RepPV hr (A ++ S0) v v' := e1.nx fun b o hg hb => by cases hg
    refine hfin (r := []) ?_ e3 (L.set (old := true) n2 fun _ => e3); rcases hsl with ⟨hu, _⟩ | ⟨bl, o, mk, hu, _⟩
    · rw [hu] at h6; simp only [quietV, hu, h6, Option.map_some]
    have hu' : evalO t x = .slice (some ⟨bl, o, none⟩) 0 mk := hu; rw [hu'] at h6
    simp only [quietV, hu', h6, Option.map_some]
  | cons y ys =>
    rcases hsl with ⟨_, hnil⟩ | ⟨bl, o, mk, hu, hnil | ⟨hS, e', rs, own', more, hg, _⟩⟩
    · cases hnil
    · cases hnil
    obtain ⟨u, e1, e2⟩ := hc.2 hr (A ++ S0) t hsee (fun _ hc => by cases hc); have hst := e2 hr (fun _ _ hg => hg) none 0 "" #[] none; have h5 : (fsSlice P T (evalO t x) (lo.map (evalO t)) (hi.map (evalO t)) (mx.map (evalO t)) hr).map (fun v => (v, hr)) = some (u, hr) := hst; obtain ⟨v', h6, h7⟩ := Option.map_eq_some_iff.1 h5; simp only [Prod.mk.injEq, and_true] at h7; subst h7; have hlt := L.ok bl _ hg; refine hfin (r := [bl]) ?_ e1 ((L.set (old := true) n2 fun _ => e1).read ⟨hlt, .inr fun hm => hS (List.mem_append_left _ hm)⟩)
    have hbl : Nat.blt bl hr.next = true := by rw [Nat.blt_eq]; exact hlt
    have hu' : evalO t x = .slice (some ⟨bl, o, none⟩) (ys.length + 1) mk := hu; rw [hu'] at h6; simp only [quietV, hu', hg, hbl, cond_true, fsSlice_at hg, h6, Option.map_some]
theorem late_make {b : Nat} {o : Oper} {u : Value} {t2 : Tr} (hb : beforeOf bs o = b) (hp : put n t o.dst u = some t2) (hcalm : calm o.op = false) (hqo : quietOp o.op = false) (hw : fsWanted ops t o = some true) (hord : Nat.beq (mem &&& b) mem = true) (hok : HOk h) (hst : stepO P o (evalO t) (entry h) = some (u, h')) (hB : Aft (entry h) h' B)
    (htu : h.next ≤ h'.low ∨ ∃ k, turned o.op (evalO t) = some k) :
    ∃ h2 tail' chg', lateDraw P hr (stepO P) ops n o i (⟨t, h, bs, segs, mem, tail⟩, rd, chg) = some (⟨t2, h2, bs ++ [b], (i, h.next, h'.next) :: segs, mem ||| 2 ^ i, tail'⟩, rd, chg') ∧ (∀ b, h2.get b = h'.get b) ∧ h2.next = h'.next ∧ Aft h h2 B ∧ ((chg' = chg ∧ tail' = tail) ∨ ∃ k, turned o.op (evalO t) = some k ∧ ¬ h.next ≤ h'.low ∧ chg' = k :: chg) := by
  have hnx := hB.next; have hnx' : Nat.blt h'.next h.next = false := blt_of_le hnx; unfold lateDraw; simp only [hw, hcalm, Bool.false_eq_true, if_false, quiet_no hqo]; unfold lateMem; simp only [hb, hord, Bool.not_true, Bool.and_false, cond_false, cond_true]; unfold entry at hst; rw [hst]; simp only [hnx', cond_false, hp]
  cases hlow : Nat.ble h.next h'.low with
  | true =>
    have hl := nble hlow
    have hsame : ∀ b, b < h.next → h'.get b = h.get b := fun b hb => by
      rcases hB.chg b hb with h3 | h3
      · exact h3
      omega
    have hget : ∀ b, look (newer h.next h'.next h'.objs ++ h.objs) b = h'.get b := fun b => by
      rw [look_append]; by_cases hb : b < h.next
      · cases hl2 : look (newer h.next h'.next h'.objs) b with
        | some o => have := (newer_some _ _ _ hl2).1; omega
        | none => exact (hsame b hb).symm
      have hold : look h.objs b = none := by
        cases hl2 : look h.objs b with
        | none => rfl
        | some o => exact absurd (hok b o hl2) hb
      rw [hold, Option.or_none]
      cases hl2 : look h'.objs b with
      | some o =>
        have : b < h'.next := hB.ok hok b o hl2; rw [newer_in _ _ (by omega) this, hl2]
        exact hl2.symm
      | none =>
        cases hl3 : look (newer h.next h'.next h'.objs) b with
        | none => exact hl2.symm
        | some o => rw [(newer_some _ _ _ hl3).2] at hl2; cases hl2
    refine ⟨_, _, _, rfl, hget, rfl, ⟨hnx, fun b hb hn => (hget b).trans (hB.get b hb hn), fun _ b o hg => ?_, fun e h3 _ _ => h3, fun b hb => .inl ((hget b).trans (hsame b hb)), Nat.le_refl _⟩, .inl ⟨rfl, rfl⟩⟩
    exact hB.ok hok b o ((hget b).symm.trans hg)
  | false =>
    rcases htu with htu | ⟨k, htu⟩
    · have : Nat.ble h.next h'.low = true := by rw [Nat.ble_eq]; exact htu
      rw [this] at hlow; cases hlow
    simp only [htu, cond_false, cond_true]; refine ⟨_, _, _, rfl, fun _ => rfl, rfl, ⟨hnx, hB.get, fun _ => hB.ok hok, fun e h3 h4 h5 => Nat.le_min.2 ⟨h3, hB.low e h4 h4 h5⟩, fun b hb => ?_, Nat.min_le_left _ _⟩, .inr ⟨k, rfl, fun hle => (by have e : Nat.ble h.next h'.low = true := (by rw [Nat.ble_eq]; exact hle); rw [e] at hlow; cases hlow), rfl⟩⟩; rcases hB.chg b hb with h3 | h3
    · exact .inl h3
    exact .inr (Nat.le_trans (Nat.min_le_right _ _) h3)
def TurnV (P : Program) (fl : VL) (op : Op) (w : Value) (c : Cell) : Prop := quietOp op = false ∧ ∀ (h h' : Heap) (S : List Nat) (t : Tr) (u : Value) (d : Option Tmp) (ty : TypeId) (pos : String) (after : Array Edge) (g : Option (Nat × Bool)), Sees h S t fl op → CellR h S w c → stepO P ⟨d, op, ty, pos, after, g⟩ (evalO t) h = some (u, h') →
  (∀ k, turned op (evalO t) = some k → k ∈ blk w) ∧ (h.low ≤ h'.low ∨ ∃ k, turned op (evalO t) = some k)
theorem TurnV.store {q : Value} {cs : List PV} (hx : evV fl x = some (.raw q)) (hq : q = w ∨ ∃ k, q = padd w k) : TurnV P fl (.store T x y) w (.var cs) := ⟨rfl, fun h h' S t u d ty pos after g hs hc _ => by
  have hxq : evalO t x = q := (hs x (by simp [Op.operands]) _ hx : RepPV _ _ (.raw q) _); obtain ⟨b0, e', vs, h1, h2, h3, h4, h5⟩ := hc
  obtain ⟨o0, hqb⟩ : ∃ o0, q = .pointer (some ⟨b0, o0, none⟩) := by
    rcases hq with hq | ⟨k, hq⟩
    · exact ⟨0, hq.trans h1⟩
    exact ⟨0 + k, by rw [hq, h1]; rfl⟩
  have ht : turned (.store T x y) (evalO t) = some b0 := by simp only [turned, hxq, hqb]
  refine ⟨fun k hk => ?_, .inr ⟨b0, ht⟩⟩; rw [ht] at hk; obtain rfl := Option.some.inj hk
  rw [h1]; exact List.mem_cons_self⟩
theorem grow_none_low {i : TypeInfo} {m : Nat} {news : List Value} {u : Value} (hf : fsGrow e i (.slice none 0 0) m news h = some (u, h')) : h.low ≤ h'.low := by
  unfold fsGrow at hf; simp only at hf
  cases h1 : Nat.beq m 0 with
  | true =>
    rw [h1] at hf; simp only [cond_true, Option.some.injEq, Prod.mk.injEq] at hf
    rw [← hf.2]; exact Nat.le_refl _
  | false =>
    rw [h1] at hf; simp only [cond_false] at hf; obtain ⟨_, hf⟩ := bif_some hf; unfold grown at hf; simp only [Option.some.injEq, Prod.mk.injEq] at hf; rw [← hf.2]; exact Nat.le_refl _
theorem append_none_low {a : Array TypeId} {xv u : Value} (hf : fsAppend P a (.slice none 0 0) xv h = some (u, h')) : h.low ≤ h'.low := by
  unfold fsAppend at hf; split at hf
  · split at hf
    · split at hf
      · split at hf
        · split at hf
          · obtain ⟨_, hf⟩ := bif_some hf; exact grow_none_low hf
          cases hf
        cases hf
      cases hf
    cases hf
  cases hf
def headB : Value → Option Nat
  | .slice (some ⟨b, _, none⟩) _ _ => some b
  | _ => none
theorem turned_app {a : Array TypeId} (hx : evalO t x = w) : turned (.call { callee := .builtin .append, args := #[x, y], argTypes := a }) (evalO t) = headB w := by
  simp only [turned, List.map_cons, hx]
  cases w with
  | slice p m k =>
    cases p with
    | none => rfl
    | some p =>
      obtain ⟨b, o, sp⟩ := p
      cases sp with
      | none => rfl
      | some _ => rfl
  | _ => rfl
theorem TurnV.app {xs : List τ.den} {a : Array TypeId} (hx : evV fl x = some (.raw w)) : TurnV P fl (.call { callee := .builtin .append, args := #[x, y], argTypes := a }) w (.row e τ xs) := ⟨rfl, fun h h' S t u d ty pos after g hs hc hst => by
  have hxq : evalO t x = w := (hs x (by simp [Op.operands, Call.operands]) _ hx : RepPV _ _ (.raw w) _); rcases hc with ⟨rfl, _⟩ | ⟨b, rs, m, rfl, h2, h3, h4⟩
  · refine ⟨fun k hk => ?_, .inl ?_⟩
    · rw [turned_app hxq] at hk; cases hk
    have hst' : fsAppend P a (evalO t x) (evalO t y) h = some (u, h') := hst; rw [hxq] at hst'; exact append_none_low hst'
  refine ⟨fun k hk => ?_, .inr ⟨b, turned_app hxq⟩⟩; rw [turned_app hxq] at hk; obtain rfl := Option.some.inj hk
  exact List.mem_cons_self⟩
theorem Late.turn {c : Cell} (L : Late hr h S0 A ((w, c) :: σr) ρ t fl nw rd chg) (hap : (own ((w, c) :: σr)).Nodup) (hs : ∃ σ1, σr = σ1 ++ ρ) {k : Nat} (hk : k ∈ blk w) : Late hr h S0 A ((w, c) :: σr) ρ t fl nw rd (k :: chg) :=
  { L with
    chg := fun j hj => by
      rcases List.mem_cons.1 hj with rfl | hj
      · rw [own_cons] at hap; refine ⟨fun hm => (List.nodup_append.1 hap).2.2 j hk j ?_ rfl, L.new j (by rw [own_cons]; exact List.mem_append_left _ hk)⟩; obtain ⟨σ1, rfl⟩ := hs; rw [own_app]; exact List.mem_append_right _ hm
      exact L.chg j hj }
theorem VLt.mk {c : Cell} {b : Nat} {Tt : PV → Sto → Prop} (hs : MakeV P fl ((w, c) :: σr) op Tt) (hT : TurnV P fl op w c) (hρ : ∃ σ1, σr = σ1 ++ ρ) (hk : ∀ v σ', Tt v σ' → (∃ σ1, σ' = σ1 ++ ρ) ∧ VLt P orc ops n l (i + 1) ((d, v) :: fl) (nwSet false d nw) σ' ρ (bs ++ [b]) (mem ||| 2 ^ i) true K)
    (hb : beforeOf bs ⟨some d, op, ty, pos, after, g⟩ = b := by rfl) (hord : Nat.beq (mem &&& b) mem = true := by rfl) (hw : wantV ops fl g = some true := by rfl) (hn : (Nat.blt d n && Nat.ble n 4000) = true := by rfl) :
    VLt P orc ops n (⟨some d, op, ty, pos, after, g⟩ :: l) i fl nw ((w, c) :: σr) ρ bs mem tl K := fun hr h0 G S0 A t h ms rd chg segs tail ht I L => by
  obtain ⟨n1, n2⟩ := fits hn; have Le := I.lc.objs (h' := entry h) (fun _ => rfl) rfl; obtain ⟨u, h', v, σ', e1, e2, e3, e4⟩ := hs.2 S0 (entry h) t Le; have hst := e4 (some d) ty pos after g; obtain ⟨t1, t2⟩ := hT.2 (entry h) h' _ t u _ _ _ _ _ Le.slots.sees (Le.cells _ List.mem_cons_self) hst; obtain ⟨h2, tail', chg', f1, f2, f3, f4, f5⟩ := late_make (hr := hr) (rd := rd) (chg := chg) (i := i) (segs := segs) (tail := tail) hb (put_fits n1 t u) hs.1 hT.1 (want_ok I.slots hw) hord I.ok hst e2.aft t2; have m2 := made_objs e2 f2 f4; obtain ⟨hσ, hk⟩ := hk v σ' e1
  have L2 : Late hr h S0 A ((w, c) :: σr) ρ t fl nw rd chg' := by
    rcases f5 with ⟨rfl, _⟩ | ⟨k, g1, _, rfl⟩
    · exact L
    exact L.turn I.apart hρ (t1 k g1)
  exact EvL.opr f1 (hk hr h0 G S0 A _ _ ms rd chg' _ tail' (fun e => by cases e) ((I.made m2).set (e3.nx (Goes.objs f2)) n2) ((L2.made I m2 hσ).set (old := false) n2 fun e => by cases e))
theorem VLt.mk0 {c : Cell} {b : Nat} {Tt : PV → Sto → Prop} (hs : MakeV P fl ((w, c) :: σr) op Tt) (hT : TurnV P fl op w c) (hρ : ∃ σ1, σr = σ1 ++ ρ) (hk : ∀ v σ', Tt v σ' → (∃ σ1, σ' = σ1 ++ ρ) ∧ VLt P orc ops n l (i + 1) fl nw σ' ρ (bs ++ [b]) (mem ||| 2 ^ i) true K)
    (hb : beforeOf bs ⟨none, op, ty, pos, after, g⟩ = b := by rfl) (hord : Nat.beq (mem &&& b) mem = true := by rfl) (hw : wantV ops fl g = some true := by rfl) :
    VLt P orc ops n (⟨none, op, ty, pos, after, g⟩ :: l) i fl nw ((w, c) :: σr) ρ bs mem tl K := fun hr h0 G S0 A t h ms rd chg segs tail ht I L => by
  have Le := I.lc.objs (h' := entry h) (fun _ => rfl) rfl; obtain ⟨u, h', v, σ', e1, e2, e3, e4⟩ := hs.2 S0 (entry h) t Le; have hst := e4 none ty pos after g; obtain ⟨t1, t2⟩ := hT.2 (entry h) h' _ t u _ _ _ _ _ Le.slots.sees (Le.cells _ List.mem_cons_self) hst; obtain ⟨h2, tail', chg', f1, f2, f3, f4, f5⟩ := late_make (n := n) (hr := hr) (rd := rd) (chg := chg) (i := i) (segs := segs) (tail := tail) (o := ⟨none, op, ty, pos, after, g⟩) hb (put_none n t u) hs.1 hT.1 (want_ok I.slots hw) hord I.ok hst e2.aft t2; have m2 := made_objs e2 f2 f4; obtain ⟨hσ, hk⟩ := hk v σ' e1
  have L2 : Late hr h S0 A ((w, c) :: σr) ρ t fl nw rd chg' := by
    rcases f5 with ⟨rfl, _⟩ | ⟨k, g1, _, rfl⟩
    · exact L
    exact L.turn I.apart hρ (t1 k g1)
  exact EvL.opr f1 (hk hr h0 G S0 A _ _ ms rd chg' _ tail' (fun e => by cases e) (I.made m2) (L2.made I m2 hσ))
theorem VLt.callO {b : Nat} {f : Operand} {args : Array Operand} {ats : Array TypeId} {F r : PV} {asl : List PV} (hf : evV fl f = some F) (ha : evVs fl args.toList = some asl) (hc : VCall P orc F asl r)
    (hk : VLt P orc ops n l (i + 1) ((d, r) :: fl) (nwSet r.flat d nw) σ ρ (bs ++ [b]) (mem ||| 2 ^ i) tl K)
    (hb : beforeOf bs ⟨some d, .call { callee := .value f, args := args, argTypes := ats }, ty, pos, after, g⟩ = b := by rfl) (hord : Nat.beq (mem &&& b) mem = true := by rfl) (hw : wantV ops fl g = some true := by rfl) (hn : (Nat.blt d n && Nat.ble n 4000) = true := by rfl) :
    VLt P orc ops n (⟨some d, .call { callee := .value f, args := args, argTypes := ats }, ty, pos, after, g⟩ :: l) i fl nw σ ρ bs mem tl K := fun hr h0 G S0 A t h ms rd chg segs tail ht I L => by
  obtain ⟨n1, n2⟩ := fits hn; have Le := I.lc.objs (h' := entry h) (fun _ => rfl) rfl; obtain ⟨fid, ca, cc, h1, h2⟩ := hc.ev Le.ok Le.sokA (evV_ok Le.slots hf) (evVs_ok Le.slots ha); refine EvL.call (s := ⟨t, h, bs, segs, mem, tail⟩) (o := ⟨some d, .call { callee := .value f, args := args, argTypes := ats }, ty, pos, after, g⟩) (want_ok I.slots hw) rfl rfl h1 (by simp only [hb, hord]) ?_; refine h2.mono fun u h' hq => ?_; obtain ⟨q1, q2, q3⟩ := hq; have hA := q1.after; have hl : h.next ≤ h'.low := hA.low h.next (Nat.le_refl _) (Nat.le_refl _)
  have hlow : Nat.ble h.next h'.low = true := by rw [Nat.ble_eq]; exact hl
  have hnx : h.next ≤ h'.next := hA.next; refine ⟨blt_of_le hnx, hlow, _, put_fits n1 t u, ?_⟩
  have hd : drewOn ⟨some d, .call { callee := .value f, args := args, argTypes := ats }, ty, pos, after, g⟩ i ⟨t, h, bs, segs, mem, tail⟩ (t.set depth d u) h' =
      ⟨t.set depth d u, { next := h'.next, low := h.low, objs := newer h.next h'.next h'.objs ++ h.objs }, bs ++ [b], (i, h.next, h'.next) :: segs, mem ||| 2 ^ i, tail⟩ := by
    unfold drewOn; simp only [hlow, cond_true, hb]
  rw [hd]; obtain ⟨e1, e2⟩ := newer_left (M := entry h) (h' := h') I.ok (fun b o hg => hg) rfl hA Le.ok; have eA : Aft h { next := h'.next, low := h.low, objs := newer h.next h'.next h'.objs ++ h.objs } [] := ⟨e1.next, fun b hb _ => e1.get b hb, e1.ok, fun e h3 h4 _ => e1.low e h3 h4, fun b hb => .inl (e1.get b hb), Nat.le_refl _⟩; have I2 := I.calm eA
  have L2 : Late hr { next := h'.next, low := h.low, objs := newer h.next h'.next h'.objs ++ h.objs } S0 A σ ρ t fl nw rd chg :=
    { L with next := Nat.le_trans L.next eA.next, goes := L.goes.trans (I.goes (B := []) (σ' := σ) (fun b hb => by cases hb) eA fun b hb => .inl hb) }
  exact hk hr h0 G S0 A _ _ ms rd chg _ tail ht (I2.set (q2.nx (e2 _)) n2) (L2.set n2 fun hfl => (q2.flat hfl).2 _ _)
theorem VLt.nws {nw0 : List Nat} (nw1 : List Nat) (hk : VLt P orc ops n l i fl nw1 σ ρ bs mem tl K) (he : nw0 = nw1 := by rfl) : VLt P orc ops n l i fl nw0 σ ρ bs mem tl K := he ▸ hk
end Go.Fs
namespace Ieee
theorem cut_zero (neg : Bool) (n : Nat) : Toward.even.cut neg n 0 = n := by
  unfold Toward.cut; simp [Nat.mod_one]
theorem log2_le_of_dvd {n d : Nat} (hn : n ≠ 0) (h : 2 ^ d ∣ n) : d ≤ n.log2 := (Nat.le_log2 hn).2 (Nat.le_of_dvd (Nat.pos_of_ne_zero hn) h)
theorem cut_exact {neg : Bool} {way : Toward} {n d : Nat} (hn : n ≠ 0) (h : 2 ^ d ∣ n) : way.cut neg n d = n / 2 ^ d := by
  have h1 := log2_le_of_dvd hn h
  have h2 : min d (n.log2 + 2) = d := by omega
  have h3 : n % 2 ^ d = 0 := Nat.mod_eq_zero_of_dvd h; unfold Toward.cut; simp only [h2, Nat.one_shiftLeft, h3]; have hp : 0 < 2 ^ d := Nat.two_pow_pos d; cases way <;> simp <;> omega
namespace Format
variable (f : Format)
theorem read_word_sub {neg : Bool} {r : Nat} (h : r < f.binade) (hw : r < f.signWeight) : f.read (f.word neg r) = .number neg r f.leastPlace := by
  have e1 : f.word neg r % f.signWeight = r := by
    unfold word; cases neg
    · exact Nat.mod_eq_of_lt hw
    simp only [if_true]; rw [Nat.add_mod_left]; exact Nat.mod_eq_of_lt hw
  have e2 : (f.word neg r / f.signWeight % 2 == 1) = neg := by
    unfold word; have hp : 0 < f.signWeight := Nat.two_pow_pos _; cases neg
    · simp [Nat.div_eq_of_lt hw]
    simp only [if_true]; rw [Nat.add_div_left _ hp, Nat.div_eq_of_lt hw]; rfl
  unfold read; simp only [e1, e2, h, if_true]
theorem read_word_nor {neg : Bool} {r : Nat} (h : f.binade ≤ r) (hi : r < f.infRung) (hw : r < f.signWeight) : f.read (f.word neg r) = .number neg (f.binade + r % f.binade) (f.leastPlace + (r / f.binade - 1 : Nat)) := by
  have e1 : f.word neg r % f.signWeight = r := by
    unfold word; cases neg
    · exact Nat.mod_eq_of_lt hw
    simp only [if_true]; rw [Nat.add_mod_left]; exact Nat.mod_eq_of_lt hw
  have e2 : (f.word neg r / f.signWeight % 2 == 1) = neg := by
    unfold word; have hp : 0 < f.signWeight := Nat.two_pow_pos _; cases neg
    · simp [Nat.div_eq_of_lt hw]
    simp only [if_true]; rw [Nat.add_div_left _ hp, Nat.div_eq_of_lt hw]; rfl
  unfold read; simp only [e1, e2]; rw [if_neg (by omega), if_pos hi]
theorem infRung_sw : f.infRung < f.signWeight := by
  have h : 0 < 2 ^ f.exponentBits := Nat.two_pow_pos _; have hb : 0 < f.binade := Nat.two_pow_pos _
  have : f.infRung + f.binade = f.signWeight := by
    unfold infRung signWeight; rw [Nat.pow_add, ← Nat.succ_mul]; exact congrArg (· * f.binade) (by omega)
  omega
def lastOf (mag : Nat) (place : Int) : Int := max (place + mag.log2 - f.fractionBits) f.leastPlace
def keptOf (neg : Bool) (mag : Nat) (place : Int) : Nat := Toward.even.cut neg (mag <<< (place - f.lastOf mag place).toNat) (f.lastOf mag place - place).toNat
theorem read_nearest {neg : Bool} {mag : Nat} {place : Int} (hm : mag ≠ 0) {k : Nat} (hk : f.keptOf neg mag place = k) (hk2 : k < 2 * f.binade) (hsub : f.lastOf mag place = f.leastPlace ∨ f.binade ≤ k)
    (hfin : (f.lastOf mag place - f.leastPlace).toNat * f.binade + k < f.infRung) : f.read (f.nearest neg mag place) = .number neg k (f.lastOf mag place) := by
  have hl : f.leastPlace ≤ f.lastOf mag place := by unfold lastOf; omega
  have hb : 0 < f.binade := Nat.two_pow_pos _; have hsw := f.infRung_sw
  have hn : f.nearest neg mag place = f.word neg ((f.lastOf mag place - f.leastPlace).toNat * f.binade + k) := by
    unfold nearest; rw [if_neg hm]; show f.word neg (min ((f.lastOf mag place - f.leastPlace).toNat * f.binade + f.keptOf neg mag place) f.infRung) = _; rw [hk, Nat.min_eq_left (by omega)]
  rw [hn]; generalize hL : f.lastOf mag place = L at *; obtain ⟨d, rfl⟩ : ∃ d : Nat, L = f.leastPlace + d := ⟨(L - f.leastPlace).toNat, by omega⟩
  have e0 : (f.leastPlace + (d : Int) - f.leastPlace).toNat = d := by omega
  rw [e0] at hfin ⊢; by_cases hkb : k < f.binade
  · have hd : d = 0 := by rcases hsub with h | h <;> omega
    subst hd; rw [Nat.zero_mul, Nat.zero_add] at hfin ⊢; rw [f.read_word_sub hkb (by omega)]; simp
  have h1 : f.binade ≤ d * f.binade + k := by have := Nat.zero_le (d * f.binade); omega
  rw [f.read_word_nor h1 hfin (by omega)]
  have e1 : (d * f.binade + k) % f.binade = k - f.binade := by
    rw [Nat.add_comm, Nat.add_mul_mod_self_right, show k = (k - f.binade) + f.binade by omega, Nat.add_mod_right, Nat.mod_eq_of_lt (by omega)]; omega
  have e2 : (d * f.binade + k) / f.binade = d + 1 := by
    rw [Nat.add_comm, Nat.add_mul_div_right _ _ hb, show k = (k - f.binade) + f.binade by omega, Nat.add_div_right _ hb, Nat.div_eq_of_lt (by omega)]; omega
  rw [e1, e2]; congr 1; omega
theorem log2_mul_two_pow {c k : Nat} (hc : c ≠ 0) : (c * 2 ^ k).log2 = c.log2 + k := by
  have hp : 0 < 2 ^ k := Nat.two_pow_pos k; refine (Nat.log2_eq_iff (Nat.mul_ne_zero hc (by omega))).2 ⟨?_, ?_⟩
  · rw [Nat.pow_add]; exact Nat.mul_le_mul_right _ (Nat.log2_self_le hc)
  rw [show c.log2 + k + 1 = (c.log2 + 1) + k by omega, Nat.pow_add]; exact Nat.mul_lt_mul_of_pos_right (Nat.lt_log2_self) hp
theorem write_exact {neg : Bool} {mag c : Nat} {place q base : Int} (hm : mag ≠ 0) (hb1 : base ≤ place) (hb2 : base ≤ q) (hq : f.leastPlace ≤ q) (hc : c < 2 ^ (f.fractionBits + 1)) (heq : mag * 2 ^ (place - base).toNat = c * 2 ^ (q - base).toNat)
    (hfin : (q - f.leastPlace).toNat + 2 ≤ 2 ^ f.exponentBits - 1) : ∃ m p, f.read (f.nearest neg mag place) = .number neg m p ∧ f.leastPlace ≤ p ∧ m ≠ 0 ∧ m * 2 ^ (p - f.leastPlace).toNat = c * 2 ^ (q - f.leastPlace).toNat := by
  have hc0 : c ≠ 0 := by
    rintro rfl; rw [Nat.zero_mul] at heq; have hp : 0 < 2 ^ (place - base).toNat := Nat.two_pow_pos _; rcases Nat.mul_eq_zero.1 heq with h | h
    · exact hm h
    omega
  have hlog : mag.log2 + (place - base).toNat = c.log2 + (q - base).toNat := by
    rw [← log2_mul_two_pow hm, ← log2_mul_two_pow hc0, heq]
  have hcl : c.log2 ≤ f.fractionBits := by
    have := (Nat.log2_lt hc0).2 hc; omega
  obtain ⟨L, hL⟩ : ∃ L, f.lastOf mag place = L := ⟨_, rfl⟩
  have hLq : L ≤ q := by rw [← hL]; unfold lastOf; omega
  have hLl : f.leastPlace ≤ L := by rw [← hL]; unfold lastOf; omega
  have hLn : place + mag.log2 - f.fractionBits ≤ L := by rw [← hL]; unfold lastOf; omega
  have hLc : L = f.leastPlace ∨ L = place + mag.log2 - f.fractionBits := by rw [← hL]; unfold lastOf; omega
  -- what is kept is c * 2 ^ (q - L)
  have hkept : f.keptOf neg mag place = c * 2 ^ (q - L).toNat := by
    unfold keptOf; rw [hL]; by_cases hle : L ≤ place
    · have e1 : (L - place).toNat = 0 := by omega
      rw [e1, cut_zero, Nat.shiftLeft_eq]
      have hbL : min base L ≤ L := by omega
      have hp : 0 < 2 ^ (L - min base L).toNat := Nat.two_pow_pos _
      -- both sides times 2 ^ (L - b)
      have h1 : mag * 2 ^ (place - min base L).toNat = c * 2 ^ (q - min base L).toNat := by
        have e2 : (place - min base L).toNat = (place - base).toNat + (base - min base L).toNat := by omega
        have e3 : (q - min base L).toNat = (q - base).toNat + (base - min base L).toNat := by omega
        rw [e2, e3, Nat.pow_add, Nat.pow_add, ← Nat.mul_assoc, ← Nat.mul_assoc, heq]
      refine Nat.eq_of_mul_eq_mul_right hp ?_; rw [Nat.mul_assoc, Nat.mul_assoc, ← Nat.pow_add, ← Nat.pow_add]; rw [show (place - L).toNat + (L - min base L).toNat = (place - min base L).toNat by omega, show (q - L).toNat + (L - min base L).toNat = (q - min base L).toNat by omega]; exact h1
    have e1 : (place - L).toNat = 0 := by omega
    rw [e1, Nat.shiftLeft_zero]; have hbase : base ≤ place := hb1
    have hmag : mag = c * 2 ^ (q - place).toNat := by
      have hp : 0 < 2 ^ (place - base).toNat := Nat.two_pow_pos _; refine Nat.eq_of_mul_eq_mul_right hp ?_; rw [heq, Nat.mul_assoc, ← Nat.pow_add, show (q - place).toNat + (place - base).toNat = (q - base).toNat by omega]
    have hd : 2 ^ (L - place).toNat ∣ mag := by
      rw [hmag, show (q - place).toNat = (q - L).toNat + (L - place).toNat by omega, Nat.pow_add, ← Nat.mul_assoc]; exact Nat.dvd_mul_left _ _
    rw [cut_exact hm hd]; refine Nat.div_eq_of_eq_mul_left (Nat.two_pow_pos _) ?_; rw [hmag, Nat.mul_assoc, ← Nat.pow_add, show (q - L).toNat + (L - place).toNat = (q - place).toNat by omega]
  have hkl : (c * 2 ^ (q - L).toNat).log2 ≤ f.fractionBits := by
    rw [log2_mul_two_pow hc0]; omega
  have hk0 : c * 2 ^ (q - L).toNat ≠ 0 := by
    have := Nat.two_pow_pos (q - L).toNat; exact Nat.mul_ne_zero hc0 (by omega)
  have hkb : c * 2 ^ (q - L).toNat < 2 * f.binade := by
    have := (Nat.log2_lt hk0).1 (show (c * 2 ^ (q - L).toNat).log2 < f.fractionBits + 1 by omega); rw [Nat.pow_succ] at this; unfold binade; omega
  have hsub : f.lastOf mag place = f.leastPlace ∨ f.binade ≤ c * 2 ^ (q - L).toNat := by
    rw [hL]; rcases hLc with h | h
    · exact .inl h
    refine .inr ?_; unfold binade; refine (Nat.le_log2 hk0).1 ?_; rw [log2_mul_two_pow hc0]; omega
  have hfin2 : (f.lastOf mag place - f.leastPlace).toNat * f.binade + c * 2 ^ (q - L).toNat < f.infRung := by
    rw [hL]; unfold infRung
    have h1 : (L - f.leastPlace).toNat * f.binade + 2 * f.binade ≤ (2 ^ f.exponentBits - 1) * f.binade := by
      rw [← Nat.add_mul]; exact Nat.mul_le_mul_right _ (by omega)
    omega
  refine ⟨_, L, by have := f.read_nearest (neg := neg) hm hkept hkb hsub hfin2; rw [hL] at this; exact this, hLl, hk0, ?_⟩; rw [Nat.mul_assoc, ← Nat.pow_add, show (q - L).toNat + (L - f.leastPlace).toNat = (q - f.leastPlace).toNat by omega]
end Format
end Ieee
namespace Ieee
def sg (s : Bool) (r : Nat) : Int := if s then -(r : Int) else r
theorem signed_eq (s : Bool) (m k : Nat) : signed s m k = sg s (m * 2 ^ k) := by
  unfold signed sg; rw [Nat.shiftLeft_eq]
theorem sg_mul (s : Bool) (a b : Nat) : sg s (a * b) = sg s a * b := by
  unfold sg; cases s <;> simp [Int.neg_mul]
theorem sg_prod (s t : Bool) (a b : Nat) : sg s a * sg t b = sg (s ^^ t) (a * b) := by
  unfold sg; cases s <;> cases t <;> simp [Int.neg_mul, Int.mul_neg]
theorem sg_natAbs (s : Bool) (a : Nat) : (sg s a).natAbs = a := by unfold sg; cases s <;> simp
theorem sg_zero (s : Bool) : sg s 0 = 0 := by unfold sg; cases s <;> rfl
namespace Format
variable (f : Format)
def units (x : Nat) : Option Int := match f.read x with
  | .number s m p => some (sg s (m * 2 ^ (p - f.leastPlace).toNat))
  | _ => none
def Rep (r : Nat) : Prop := ∃ c k, r = c * 2 ^ k ∧ c < 2 ^ (f.fractionBits + 1) ∧ k + 2 ≤ 2 ^ f.exponentBits - 1
variable {f}
theorem units_inv {x : Nat} {u : Int} (h : f.units x = some u) : ∃ s m p, f.read x = .number s m p ∧ f.leastPlace ≤ p ∧ u = sg s (m * 2 ^ (p - f.leastPlace).toNat) := by
  unfold units at h; split at h
  · rename_i s m p hr; refine ⟨s, m, p, hr, ?_, (Option.some.inj h).symm⟩; unfold read at hr; dsimp only at hr; split at hr
    · cases hr; omega
    split at hr
    · cases hr; omega
    split at hr <;> cases hr
  cases h
theorem units_none {x : Nat} (h : f.units x = none) : (∃ s, f.read x = .infinity s) ∨ ∃ s t, f.read x = .nan s t := by
  unfold units at h; split at h
  · cases h
  rename_i hn
  cases hr : f.read x with
  | number s m p => exact absurd hr (hn s m p)
  | infinity s => exact .inl ⟨s, rfl⟩
  | nan s t => exact .inr ⟨s, t, rfl⟩
theorem sub_zero_place (p : Int) : (p - p).toNat = 0 := by omega
theorem write_units {s : Bool} {m r : Nat} {p : Int} (base : Int) (hb1 : base ≤ p) (hb2 : base ≤ f.leastPlace) (heq : m * 2 ^ (p - base).toNat = r * 2 ^ (f.leastPlace - base).toNat) (hr : f.Rep r) (hg : 0 < f.exponentBits ∧ 0 < f.fractionBits) :
    f.units (f.write (.number s m p)) = some (sg s r) := by
  have hp1 : 0 < 2 ^ (p - base).toNat := Nat.two_pow_pos _; have hp2 : 0 < 2 ^ (f.leastPlace - base).toNat := Nat.two_pow_pos _; by_cases hm : m = 0
  · subst hm
    have h0 : r = 0 := by
      rw [Nat.zero_mul] at heq; rcases Nat.mul_eq_zero.1 heq.symm with h | h
      · exact h
      omega
    subst h0; have hbin : 0 < f.binade := Nat.two_pow_pos _; have hsw : 0 < f.signWeight := Nat.two_pow_pos _
    have : f.read (f.write (.number s 0 p)) = .number s 0 f.leastPlace := by
      show f.read (f.nearest s 0 p) = _; unfold nearest; rw [if_pos rfl]; exact f.read_word_sub hbin hsw
    unfold units; rw [this]; simp
  obtain ⟨c, k, rfl, hc, hk⟩ := hr
  have heq2 : m * 2 ^ (p - base).toNat = c * 2 ^ ((f.leastPlace + k) - base).toNat := by
    rw [heq, Nat.mul_assoc, ← Nat.pow_add]; congr 2; omega
  obtain ⟨m', p', h1, h2, h3, h4⟩ := f.write_exact (neg := s) hm hb1 (show base ≤ f.leastPlace + k by omega) (by omega) hc heq2 (by omega); unfold units; show (match f.read (f.nearest s m p) with | .number s m p => some (sg s (m * 2 ^ (p - f.leastPlace).toNat)) | _ => none) = _; rw [h1]; simp only; rw [h4]; congr 4; omega
theorem order_units {x y : Nat} {u v : Int} (hx : f.units x = some u) (hy : f.units y = some v) : f.order x y = some (compare u v) := by
  obtain ⟨s, m, p, h1, h2, rfl⟩ := units_inv hx; obtain ⟨t, n, q, h3, h4, rfl⟩ := units_inv hy; unfold order; rw [h1, h3]; unfold Datum.order; simp only; rw [signed_eq, signed_eq]; congr 1
  have hb : f.leastPlace ≤ min p q := by omega
  have e1 : sg s (m * 2 ^ (p - f.leastPlace).toNat) = sg s (m * 2 ^ (p - min p q).toNat) * ((2 ^ (min p q - f.leastPlace).toNat : Nat) : Int) := by
    rw [← sg_mul, Nat.mul_assoc, ← Nat.pow_add]; congr 3; omega
  have e2 : sg t (n * 2 ^ (q - f.leastPlace).toNat) = sg t (n * 2 ^ (q - min p q).toNat) * ((2 ^ (min p q - f.leastPlace).toNat : Nat) : Int) := by
    rw [← sg_mul, Nat.mul_assoc, ← Nat.pow_add]; congr 3; omega
  rw [e1, e2]
  have hp : (0 : Int) < ((2 ^ (min p q - f.leastPlace).toNat : Nat) : Int) := by have := Nat.two_pow_pos (min p q - f.leastPlace).toNat; omega
  generalize sg s (m * 2 ^ (p - min p q).toNat) = a; generalize sg t (n * 2 ^ (q - min p q).toNat) = b; generalize ((2 ^ (min p q - f.leastPlace).toNat : Nat) : Int) = k at hp; show compareOfLessAndEq a b = compareOfLessAndEq (a * k) (b * k); unfold compareOfLessAndEq; have h1 : a < b ↔ a * k < b * k := (Int.mul_lt_mul_right hp).symm; have h2 : a = b ↔ a * k = b * k := ⟨fun h => by rw [h], fun h => Int.eq_of_mul_eq_mul_right (by omega) h⟩; by_cases h3 : a < b
  · rw [if_pos h3, if_pos (h1.1 h3)]
  rw [if_neg h3, if_neg (fun h => h3 (h1.2 h))]; by_cases h4 : a = b
  · rw [if_pos h4, if_pos (h2.1 h4)]
  rw [if_neg h4, if_neg (fun h => h4 (h2.2 h))]
end Format
end Ieee
namespace Ieee
namespace Format
variable {f g : Format}
theorem sg_neg_of (t : Int) (h : t ≠ 0) : sg (decide (t < 0)) t.natAbs = t := by
  unfold sg; by_cases h1 : t < 0
  · rw [if_pos (by simpa using h1)]; omega
  rw [if_neg (by simpa using h1)]; omega
theorem sg_zero_of (s : Bool) {t : Int} (h : t = 0) : sg s t.natAbs = t := by
  subst h; simp [sg_zero]
theorem mul_exact {x y : Nat} {u v r : Int} (hx : f.units x = some u) (hy : f.units y = some v) (hl : f.leastPlace ≤ 0) (h : u * v = r * (2 ^ (-f.leastPlace).toNat : Nat)) (hr : f.Rep r.natAbs) (hg : 0 < f.exponentBits ∧ 0 < f.fractionBits) :
    ∃ w, f.mul x y = some w ∧ f.units w = some r := by
  obtain ⟨s, m, p, h1, h2, rfl⟩ := units_inv hx; obtain ⟨t, n, q, h3, h4, rfl⟩ := units_inv hy; unfold mul; rw [h1, h3]; refine ⟨_, rfl, ?_⟩; have hk := congrArg Int.natAbs h; rw [sg_prod, sg_natAbs, Int.natAbs_mul, Int.natAbs_natCast] at hk
  have hb : 2 * f.leastPlace ≤ p + q := by omega
  rw [write_units (r := r.natAbs) (2 * f.leastPlace) hb (by omega) ?_ hr hg]
  · congr 1
    have hs : sg (s ^^ t) (m * 2 ^ (p - f.leastPlace).toNat * (n * 2 ^ (q - f.leastPlace).toNat)) = r * (2 ^ (-f.leastPlace).toNat : Nat) := by rw [← sg_prod, h]
    have hpos : (0 : Int) < ((2 ^ (-f.leastPlace).toNat : Nat) : Int) := by have := Nat.two_pow_pos (-f.leastPlace).toNat; omega
    rw [hk, sg_mul] at hs; exact Int.eq_of_mul_eq_mul_right (by omega) hs
  rw [show (p + q - 2 * f.leastPlace).toNat = (p - f.leastPlace).toNat + (q - f.leastPlace).toNat by omega, show (f.leastPlace - 2 * f.leastPlace).toNat = (-f.leastPlace).toNat by omega, ← hk, Nat.pow_add]; simp only [Nat.mul_comm, Nat.mul_left_comm, Nat.mul_assoc]
theorem sum_units {x y : Nat} {u v : Int} (hx : f.units x = some u) (hy : f.units y = some v) : ∃ s m p, (f.read x).sum (f.read y) = some (.number s m p) ∧ f.leastPlace ≤ p ∧ sg s (m * 2 ^ (p - f.leastPlace).toNat) = u + v := by
  obtain ⟨s, m, p, h1, h2, rfl⟩ := units_inv hx; obtain ⟨t, n, q, h3, h4, rfl⟩ := units_inv hy; rw [h1, h3]; refine ⟨_, _, _, rfl, by omega, ?_⟩; rw [signed_eq, signed_eq]
  have e1 : sg s (m * 2 ^ (p - f.leastPlace).toNat) = sg s (m * 2 ^ (p - min p q).toNat) * ((2 ^ (min p q - f.leastPlace).toNat : Nat) : Int) := by
    rw [← sg_mul, Nat.mul_assoc, ← Nat.pow_add]; congr 3; omega
  have e2 : sg t (n * 2 ^ (q - f.leastPlace).toNat) = sg t (n * 2 ^ (q - min p q).toNat) * ((2 ^ (min p q - f.leastPlace).toNat : Nat) : Int) := by
    rw [← sg_mul, Nat.mul_assoc, ← Nat.pow_add]; congr 3; omega
  rw [e1, e2, ← Int.add_mul]; generalize sg s (m * 2 ^ (p - min p q).toNat) + sg t (n * 2 ^ (q - min p q).toNat) = T; rw [sg_mul]; congr 1; by_cases hT : T = 0
  · rw [if_pos hT]; exact sg_zero_of _ hT
  rw [if_neg hT]; exact sg_neg_of T hT
theorem add_exact {x y : Nat} {u v r : Int} (hx : f.units x = some u) (hy : f.units y = some v) (h : u + v = r) (hr : f.Rep r.natAbs) (hg : 0 < f.exponentBits ∧ 0 < f.fractionBits) : ∃ w, f.add x y = some w ∧ f.units w = some r := by
  obtain ⟨s, m, p, h1, h2, h3⟩ := sum_units hx hy; unfold add; rw [h1]; refine ⟨_, rfl, ?_⟩
  have hk : m * 2 ^ (p - f.leastPlace).toNat = r.natAbs := by
    rw [← h, ← h3, sg_natAbs]
  rw [write_units (r := r.natAbs) f.leastPlace h2 (Int.le_refl _) (by rw [hk, sub_zero_place]; simp) hr hg, ← hk, h3, h]
theorem opp_read {y : Nat} {v : Int} (hy : f.units y = some v) : ∃ s m p, (f.read y).opposite = .number s m p ∧ f.leastPlace ≤ p ∧ sg s (m * 2 ^ (p - f.leastPlace).toNat) = -v := by
  obtain ⟨t, n, q, h3, h4, rfl⟩ := units_inv hy; rw [h3]; refine ⟨_, _, _, rfl, h4, ?_⟩; unfold sg; cases t <;> simp
theorem sub_exact {x y : Nat} {u v r : Int} (hx : f.units x = some u) (hy : f.units y = some v) (h : u - v = r) (hr : f.Rep r.natAbs) (hg : 0 < f.exponentBits ∧ 0 < f.fractionBits) : ∃ w, f.sub x y = some w ∧ f.units w = some r := by
  obtain ⟨s, m, p, h1, h2, rfl⟩ := units_inv hx; obtain ⟨t, n, q, h3, h4, h5⟩ := opp_read hy; unfold sub; rw [h1, h3]; refine ⟨_, rfl, ?_⟩
  have e1 : sg s (m * 2 ^ (p - f.leastPlace).toNat) = sg s (m * 2 ^ (p - min p q).toNat) * ((2 ^ (min p q - f.leastPlace).toNat : Nat) : Int) := by
    rw [← sg_mul, Nat.mul_assoc, ← Nat.pow_add]; congr 3; omega
  have e2 : sg t (n * 2 ^ (q - f.leastPlace).toNat) = sg t (n * 2 ^ (q - min p q).toNat) * ((2 ^ (min p q - f.leastPlace).toNat : Nat) : Int) := by
    rw [← sg_mul, Nat.mul_assoc, ← Nat.pow_add]; congr 3; omega
  have hT : (signed s m (p - min p q).toNat + signed t n (q - min p q).toNat) * ((2 ^ (min p q - f.leastPlace).toNat : Nat) : Int) = r := by
    rw [signed_eq, signed_eq, Int.add_mul, ← e1, ← e2, h5, ← h]; omega
  generalize signed s m (p - min p q).toNat + signed t n (q - min p q).toNat = T at hT ⊢
  have hk : T.natAbs * 2 ^ (min p q - f.leastPlace).toNat = r.natAbs := by
    rw [← hT, Int.natAbs_mul, Int.natAbs_natCast]
  rw [write_units (r := r.natAbs) f.leastPlace (by omega) (Int.le_refl _) (by rw [hk, sub_zero_place]; simp) hr hg, ← hk, sg_mul, ← hT]; congr 2; by_cases hT : T = 0
  · rw [if_pos hT]; exact sg_zero_of _ hT
  rw [if_neg hT]; exact sg_neg_of T hT
theorem sub_self_none {x : Nat} (hx : f.units x = none) : f.sub x x = none := by
  unfold sub; rcases units_none hx with ⟨s, h⟩ | ⟨s, t, h⟩ <;> rw [h]
  · cases s <;> rfl
  rfl
theorem toInt_units {x : Nat} {u : Int} (hx : f.units x = some u) (hl : f.leastPlace ≤ 0) : (f.read x).toInt .zero = some (u.tdiv (2 ^ (-f.leastPlace).toNat : Nat)) := by
  obtain ⟨s, m, p, h1, h2, rfl⟩ := units_inv hx; rw [h1]; show some (signed s (Toward.zero.cut s (m <<< p.toNat) (-p).toNat) 0) = _; congr 1; rw [signed_eq, Nat.pow_zero, Nat.mul_one]
  have hcut : Toward.zero.cut s (m <<< p.toNat) (-p).toNat = (m * 2 ^ p.toNat) / 2 ^ (-p).toNat := by
    rw [Nat.shiftLeft_eq]; generalize m * 2 ^ p.toNat = M; unfold Toward.cut; simp only [Nat.one_shiftLeft, Bool.toNat_false, Nat.add_zero]; by_cases hle : (-p).toNat ≤ M.log2 + 2
    · rw [Nat.min_eq_left hle]
    rw [Nat.min_eq_right (by omega)]; have hM : M < 2 ^ (M.log2 + 2) := Nat.lt_trans (Nat.lt_log2_self) (Nat.pow_lt_pow_right (by omega) (by omega)); rw [Nat.div_eq_of_lt hM, Nat.div_eq_of_lt (Nat.lt_of_lt_of_le hM (Nat.pow_le_pow_right (by omega) (by omega)))]
  rw [hcut]
  have hdiv : m * 2 ^ (p - f.leastPlace).toNat / 2 ^ (-f.leastPlace).toNat = m * 2 ^ p.toNat / 2 ^ (-p).toNat := by
    by_cases hp : 0 ≤ p
    · rw [show (p - f.leastPlace).toNat = p.toNat + (-f.leastPlace).toNat by omega, Nat.pow_add, ← Nat.mul_assoc, Nat.mul_div_cancel _ (Nat.two_pow_pos _), show (-p).toNat = 0 by omega]; simp
    rw [show (-f.leastPlace).toNat = (-p).toNat + (p - f.leastPlace).toNat by omega, Nat.pow_add, Nat.mul_div_mul_right _ _ (Nat.two_pow_pos _), show p.toNat = 0 by omega]; simp
  rw [← hdiv]; generalize m * 2 ^ (p - f.leastPlace).toNat = a; unfold sg
  cases s with
  | false => simp
  | true => simp [Int.neg_tdiv]
theorem ofInt_units {n : Int} (hl : f.leastPlace ≤ 0) (hr : f.Rep (n.natAbs * 2 ^ (-f.leastPlace).toNat)) (hg : 0 < f.exponentBits ∧ 0 < f.fractionBits) : f.units (f.write (.number (n < 0) n.natAbs 0)) = some (n * (2 ^ (-f.leastPlace).toNat : Nat)) := by
  rw [write_units (r := n.natAbs * 2 ^ (-f.leastPlace).toNat) f.leastPlace hl (Int.le_refl _) (by rw [sub_zero_place, show (0 - f.leastPlace).toNat = (-f.leastPlace).toNat by omega]; simp) hr hg, sg_mul]; congr 2; by_cases h : n = 0
  · subst h; rfl
  exact sg_neg_of n h
theorem widen_units {x : Nat} {u : Int} (hx : f.units x = some u) (hle : g.leastPlace ≤ f.leastPlace) (hr : g.Rep (u.natAbs * 2 ^ (f.leastPlace - g.leastPlace).toNat)) (hg : 0 < g.exponentBits ∧ 0 < g.fractionBits) : g.units (g.write (f.read x)) = some (u * (2 ^ (f.leastPlace - g.leastPlace).toNat : Nat)) := by
  obtain ⟨s, m, p, h1, h2, rfl⟩ := units_inv hx; rw [h1]; rw [sg_natAbs] at hr; rw [write_units (r := m * 2 ^ (p - f.leastPlace).toNat * 2 ^ (f.leastPlace - g.leastPlace).toNat) g.leastPlace (by omega) (Int.le_refl _) ?_ hr hg, sg_mul]; rw [sub_zero_place, Nat.pow_zero, Nat.mul_one, Nat.mul_assoc, ← Nat.pow_add]; congr 2; omega
theorem floor_units {x : Nat} {u : Int} (hx : f.units x = some u) (hl : f.leastPlace ≤ 0) (hr : f.Rep (u.fdiv (2 ^ (-f.leastPlace).toNat : Nat) * (2 ^ (-f.leastPlace).toNat : Nat)).natAbs) (hg : 0 < f.exponentBits ∧ 0 < f.fractionBits) :
    f.units (f.write ((f.read x).integral .down)) = some (u.fdiv (2 ^ (-f.leastPlace).toNat : Nat) * (2 ^ (-f.leastPlace).toNat : Nat)) := by
  obtain ⟨s, m, p, h1, h2, rfl⟩ := units_inv hx; rw [h1]; show f.units (f.write (.number s (Toward.down.cut s (m <<< p.toNat) (-p).toNat) 0)) = _
  have hcut : sg s (Toward.down.cut s (m <<< p.toNat) (-p).toNat) = (sg s (m * 2 ^ (p - f.leastPlace).toNat)).fdiv (2 ^ (-f.leastPlace).toNat : Nat) := by
    have key : ∀ (M d : Nat), sg s (Toward.down.cut s M d) = (sg s M).fdiv (2 ^ d : Nat) := by
      intro M d
      have hsmall : Toward.down.cut s M d = M / 2 ^ d + (s && decide (M % 2 ^ d ≠ 0)).toNat := by
        unfold Toward.cut; simp only [Nat.one_shiftLeft]; by_cases hle : d ≤ M.log2 + 2
        · rw [Nat.min_eq_left hle]; congr 2; cases s <;> first | rfl | (by_cases hz : M % 2 ^ d = 0 <;> simp [hz])
        rw [Nat.min_eq_right (by omega)]; have hM : M < 2 ^ (M.log2 + 2) := Nat.lt_trans (Nat.lt_log2_self) (Nat.pow_lt_pow_right (by omega) (by omega)); have hM2 : M < 2 ^ d := Nat.lt_of_lt_of_le hM (Nat.pow_le_pow_right (by omega) (by omega)); rw [Nat.div_eq_of_lt hM, Nat.div_eq_of_lt hM2, Nat.mod_eq_of_lt hM, Nat.mod_eq_of_lt hM2]; congr 2; cases s <;> first | rfl | (by_cases hz : M = 0 <;> simp [hz])
      rw [hsmall]; have hp : 0 < 2 ^ d := Nat.two_pow_pos d; generalize 2 ^ d = D at hp; unfold sg
      cases s with
      | false =>
        simp only [Bool.false_and, Bool.toNat_false, Nat.add_zero, Bool.false_eq_true, if_false]
        rw [Int.fdiv_eq_ediv_of_nonneg _ (by omega)]; rfl
      | true =>
        simp only [Bool.true_and, if_true]; rw [Int.fdiv_eq_ediv_of_nonneg _ (by omega)]; have hd := Nat.div_add_mod M D; have hm := Nat.mod_lt M hp; by_cases hz : M % D = 0
        · rw [show decide (M % D ≠ 0) = false by simpa using hz]; rw [Bool.toNat_false, Nat.add_zero]; refine (Int.ediv_eq_of_eq_mul_left (by omega) ?_).symm
          have : M = D * (M / D) := by omega
          have h3 : ((M : Nat) : Int) = (D : Int) * ((M / D : Nat) : Int) := by rw [← Int.natCast_mul, ← this]
          rw [h3, Int.neg_mul, Int.mul_comm]
        rw [show decide (M % D ≠ 0) = true by simpa using hz]; rw [Bool.toNat_true]
        have h3 : ((M : Nat) : Int) = (D : Int) * ((M / D : Nat) : Int) + ((M % D : Nat) : Int) := by rw [← Int.natCast_mul, ← Int.natCast_add, hd]
        have h4 : (-(M : Int)) = ((D : Int) - ((M % D : Nat) : Int)) + (D : Int) * (-(((M / D + 1 : Nat)) : Int)) := by
          rw [h3, Int.natCast_add, Int.mul_neg, Int.mul_add]; simp; omega
        rw [h4, Int.add_mul_ediv_left _ _ (by omega), Int.ediv_eq_zero_of_lt (by omega) (by omega)]; omega
    rw [key, Nat.shiftLeft_eq]; by_cases hp : 0 ≤ p
    · rw [show (p - f.leastPlace).toNat = p.toNat + (-f.leastPlace).toNat by omega, Nat.pow_add, ← Nat.mul_assoc, show (-p).toNat = 0 by omega, sg_mul s (m * 2 ^ p.toNat)]
      have hq : (0 : Int) < ((2 ^ (-f.leastPlace).toNat : Nat) : Int) := by have := Nat.two_pow_pos (-f.leastPlace).toNat; omega
      rw [Int.mul_fdiv_cancel _ (by omega)]; simp
    rw [show (-f.leastPlace).toNat = (-p).toNat + (p - f.leastPlace).toNat by omega, Nat.pow_add, show p.toNat = 0 by omega, Nat.pow_zero, Nat.mul_one, sg_mul s m, Int.natCast_mul]
    have hq : (0 : Int) < ((2 ^ (p - f.leastPlace).toNat : Nat) : Int) := by have := Nat.two_pow_pos (p - f.leastPlace).toNat; omega
    have hq2 : (0 : Int) < ((2 ^ (-p).toNat : Nat) : Int) := by have := Nat.two_pow_pos (-p).toNat; omega
    rw [Int.fdiv_eq_ediv_of_nonneg _ (by omega), Int.fdiv_eq_ediv_of_nonneg _ (by have := Int.mul_pos hq2 hq; omega), Int.mul_ediv_mul_of_pos_left _ _ hq]
  rw [← hcut] at hr ⊢; rw [← sg_mul, sg_natAbs] at hr; rw [write_units (r := Toward.down.cut s (m <<< p.toNat) (-p).toNat * 2 ^ (-f.leastPlace).toNat) f.leastPlace hl (Int.le_refl _) (by rw [sub_zero_place, show (0 - f.leastPlace).toNat = (-f.leastPlace).toNat by omega]; simp) hr hg, sg_mul]
end Format
end Ieee
namespace Ieee
open Format
theorem sng_good : 0 < single.exponentBits ∧ 0 < single.fractionBits := by decide
theorem dbl_good : 0 < double.exponentBits ∧ 0 < double.fractionBits := by decide
theorem units_repr {f : Format} {x : Nat} {u : Int} (h : f.units x = some u) : ∃ c k, u.natAbs = c * 2 ^ k ∧ c < 2 ^ (f.fractionBits + 1) ∧ (c = 0 → k = 0) := by
  obtain ⟨s, m, p, h1, h2, rfl⟩ := units_inv h
  have hm : m < 2 ^ (f.fractionBits + 1) := by
    have hb : 0 < f.binade := Nat.two_pow_pos _
    have h2b : 2 ^ (f.fractionBits + 1) = 2 * f.binade := by rw [Nat.pow_succ, Nat.mul_comm]; rfl
    rw [h2b]; unfold Format.read at h1; dsimp only at h1; split at h1
    · cases h1; omega
    split at h1
    · cases h1; have := Nat.mod_lt (x % f.signWeight) hb; omega
    split at h1 <;> cases h1
  rw [sg_natAbs]; by_cases h0 : m = 0
  · exact ⟨0, 0, by rw [h0]; simp, Nat.two_pow_pos _, fun _ => rfl⟩
  exact ⟨m, _, rfl, hm, fun e => absurd e h0⟩
theorem rep_of {f g : Format} {x : Nat} {u : Int} (h : f.units x = some u) (hle : f.fractionBits ≤ g.fractionBits) {B j : Nat} (hB : u.natAbs ≤ 2 ^ B) (hj : B + j + 2 ≤ 2 ^ g.exponentBits - 1) : g.Rep (u.natAbs * 2 ^ j) := by
  obtain ⟨c, k, h1, h2, h3⟩ := units_repr h; by_cases h0 : c = 0
  · refine ⟨0, 0, by rw [h1, h0]; simp, Nat.two_pow_pos _, by omega⟩
  refine ⟨c, k + j, by rw [h1, Nat.mul_assoc, ← Nat.pow_add], Nat.lt_of_lt_of_le h2 (Nat.pow_le_pow_right (by omega) (by omega)), ?_⟩
  have hk : k ≤ B := by
    have : 2 ^ k ≤ 2 ^ B := by
      refine Nat.le_trans ?_ hB; rw [h1]; exact Nat.le_mul_of_pos_left _ (by omega)
    exact (Nat.pow_le_pow_iff_right (by omega)).1 this
  omega
theorem rep_small {f : Format} {n j : Nat} (hn : n < 2 ^ (f.fractionBits + 1)) (hj : j + 2 ≤ 2 ^ f.exponentBits - 1) : f.Rep (n * 2 ^ j) := ⟨n, j, rfl, hn, hj⟩
abbrev u32 (x : Nat) : Option Int := single.units x
abbrev u64 (x : Nat) : Option Int := double.units x
theorem m149 : (2 ^ (-single.leastPlace).toNat : Nat) = 713623846352979940529142984724747568191373312 := by decide
def lvlE (x : Nat) : Int := match u32 x with
  | none => 1
  | some u => if (-45671926166590716193865151022383844364247891968 ≤ u ∧ u ≤ 45671926166590716193865151022383844364247891968) ∧ u % 44601490397061246283071436545296723011960832 = 0 then 0 else 3
def sxE (x : Nat) : Int := match u32 x with
  | none => 0
  | some u => u / 44601490397061246283071436545296723011960832
theorem lvl_ok {x : Nat} (h : lvlE x = 0) : u32 x = some (sxE x * 44601490397061246283071436545296723011960832) ∧ -1024 ≤ sxE x ∧ sxE x ≤ 1024 := by
  unfold lvlE at h; split at h
  · cases h
  rename_i u hu; split at h
  · rename_i hc; unfold sxE; rw [hu]; simp only; have hd := Int.mul_ediv_add_emod u 44601490397061246283071436545296723011960832; refine ⟨?_, by omega, by omega⟩; congr 1; omega
  cases h
theorem lvl_of {x : Nat} {n : Int} (h : u32 x = some (n * 44601490397061246283071436545296723011960832)) (h0 : -1024 ≤ n) (h1 : n ≤ 1024) : lvlE x = 0 ∧ sxE x = n := by
  unfold lvlE sxE; rw [h]; simp only; refine ⟨?_, ?_⟩
  · rw [if_pos]; exact ⟨by omega, by rw [Int.mul_emod_left]⟩
  rw [Int.mul_ediv_cancel _ (by decide)]
theorem mul16 {x w : Nat} {u : Int} (hw : u32 w = some (16 * 713623846352979940529142984724747568191373312)) (h : u32 x = some u) (h0 : u.natAbs ≤ 45671926166590716193865151022383844364247891968) : ∃ r, single.mul x w = some r ∧ u32 r = some (16 * u) := by
  refine mul_exact h hw (by decide) ?_ ?_ sng_good
  · rw [m149, Int.mul_comm 16 u, Int.mul_assoc]; rfl
  have := rep_of (g := single) h (Nat.le_refl _) (B := 155) (j := 4) (Nat.le_trans h0 (by decide)) (by decide)
  rwa [show (16 * u).natAbs = u.natAbs * 2 ^ 4 by omega]
theorem toInt32 {x : Nat} {u : Int} (h : u32 x = some u) : (single.read x).toInt .zero = some (u.tdiv 713623846352979940529142984724747568191373312) := by
  rw [toInt_units h (by decide), m149]; rfl
theorem ofInt32 {n : Int} (h : n.natAbs < 2 ^ 24) : u32 (single.write (.number (n < 0) n.natAbs 0)) = some (n * 713623846352979940529142984724747568191373312) := by
  rw [u32, ofInt_units (by decide) (rep_small h (by decide)) sng_good, m149]; rfl
theorem add32 {x y : Nat} {u v : Int} (hx : u32 x = some u) (hy : u32 y = some v) (hr : single.Rep (u + v).natAbs) : ∃ r, single.add x y = some r ∧ u32 r = some (u + v) := add_exact hx hy rfl hr sng_good
theorem sub_self32 {x : Nat} {u : Int} (hx : u32 x = some u) : ∃ r, single.sub x x = some r ∧ u32 r = some 0 := sub_exact hx hx (by omega) ⟨0, 0, rfl, by decide, by decide⟩ sng_good
def kW : Nat := 2 ^ (single.leastPlace - double.leastPlace).toNat
theorem kW_pos : 0 < kW := Nat.two_pow_pos _
def e300 : Nat := 300
theorem widen {x : Nat} {u : Int} (hx : u32 x = some u) (h0 : u.natAbs ≤ 2 ^ e300) : u64 (double.write (single.read x)) = some (u * (kW : Nat)) := by
  have := widen_units (g := double) hx (by decide) (rep_of (g := double) hx (by decide) (B := e300) h0 (by decide +kernel)) dbl_good; rw [u64, this]; rfl
end Ieee
namespace Ieee
open Format
theorem n1074 : (2 ^ (-double.leastPlace).toNat : Nat) = 713623846352979940529142984724747568191373312 * kW := by decide +kernel
theorem u32_bound {x : Nat} {u : Int} (h : u32 x = some u) : u.natAbs ≤ 2 ^ e300 := by
  obtain ⟨s, m, p, h1, h2, rfl⟩ := units_inv h; rw [sg_natAbs]; have hb : 0 < single.binade := Nat.two_pow_pos _
  have eb : single.binade = 8388608 := by decide
  have ei : single.infRung = 2139095040 := by decide
  have hm : m < 2 ^ 24 ∧ (p - single.leastPlace).toNat ≤ 253 := by
    unfold Format.read at h1; dsimp only at h1; split at h1
    · cases h1; omega
    split at h1
    · rename_i h3 h4; cases h1; have h5 := Nat.mod_lt (x % single.signWeight) hb; rw [eb] at h5 ⊢; rw [ei] at h4; omega
    split at h1 <;> cases h1
  have h3 : 2 ^ (p - single.leastPlace).toNat ≤ 2 ^ 253 := Nat.pow_le_pow_right (by omega) hm.2; have h4 : m * 2 ^ (p - single.leastPlace).toNat ≤ 2 ^ 24 * 2 ^ 253 := Nat.mul_le_mul (by omega) h3; exact Nat.le_trans h4 (by decide +kernel)
theorem mul16w {x y w : Nat} {u : Int} (hw : u64 w = some ((16 : Int) * ((713623846352979940529142984724747568191373312 * kW : Nat) : Int))) (hx : u32 x = some u) (hy : u64 y = some (u * (kW : Nat))) (h0 : u.natAbs ≤ 2 ^ e300) : ∃ r, double.mul w y = some r ∧ u64 r = some (16 * (u * (kW : Nat))) := by
  refine mul_exact hw hy (by decide) ?_ ?_ dbl_good
  · rw [n1074, Int.mul_assoc, Int.mul_comm _ (u * (kW : Nat)), ← Int.mul_assoc]
  have := rep_of (g := double) hx (by decide) (B := e300) (j := 4 + (single.leastPlace - double.leastPlace).toNat) h0 (by decide +kernel); rw [Nat.pow_add, ← Nat.mul_assoc] at this
  rwa [show (16 * (u * (kW : Nat))).natAbs = u.natAbs * 2 ^ 4 * kW by rw [Int.natAbs_mul, Int.natAbs_mul, Int.natAbs_natCast, ← Nat.mul_assoc, Nat.mul_comm u.natAbs]; rfl]
theorem floor_mul {a k : Int} (hk : 0 < k) : (a * k).fdiv (713623846352979940529142984724747568191373312 * k) = a / 713623846352979940529142984724747568191373312 := by
  rw [Int.fdiv_eq_ediv_of_nonneg _ (by omega), Int.mul_ediv_mul_of_pos_left _ _ hk]
theorem kW_int : (0 : Int) < (kW : Int) := by have := kW_pos; omega
theorem cast_mk : ((713623846352979940529142984724747568191373312 * kW : Nat) : Int) = 713623846352979940529142984724747568191373312 * (kW : Int) := by rw [Int.natCast_mul]; rfl
theorem floorw {r : Nat} {u : Int} (hr : u64 r = some (16 * (u * (kW : Nat)))) (h0 : -45671926166590716193865151022383844364247891968 ≤ u ∧ u ≤ 45671926166590716193865151022383844364247891968) :
    u64 (double.write ((double.read r).integral .down)) = some (16 * u / 713623846352979940529142984724747568191373312 * (713623846352979940529142984724747568191373312 * kW : Nat)) := by
  have hf : (16 * (u * (kW : Nat))).fdiv (2 ^ (-double.leastPlace).toNat : Nat) = 16 * u / 713623846352979940529142984724747568191373312 := by
    rw [n1074, cast_mk, ← Int.mul_assoc]; exact floor_mul kW_int
  have := floor_units hr (by decide) (by
    rw [hf, Int.natAbs_mul, Int.natAbs_natCast]; refine rep_small ?_ (by decide)
    have : (16 * u / 713623846352979940529142984724747568191373312).natAbs < 2000 := by omega
    exact Nat.lt_of_lt_of_le this (by decide)) dbl_good
  rw [hf, n1074] at this; exact this
theorem whole_iff {u : Int} : (16 * (u * (kW : Nat)) = 16 * u / 713623846352979940529142984724747568191373312 * (713623846352979940529142984724747568191373312 * kW : Nat)) ↔ u % 44601490397061246283071436545296723011960832 = 0 := by
  rw [cast_mk, ← Int.mul_assoc, ← Int.mul_assoc]; have hk := kW_int; constructor
  · intro h; have := Int.eq_of_mul_eq_mul_right (by omega) h; omega
  intro h; congr 1; omega
theorem whole_iff32 {u : Int} (h0 : -45671926166590716193865151022383844364247891968 ≤ u ∧ u ≤ 45671926166590716193865151022383844364247891968) : ((16 * u).tdiv 713623846352979940529142984724747568191373312 * 713623846352979940529142984724747568191373312 = 16 * u) ↔ u % 44601490397061246283071436545296723011960832 = 0 := by
  have h1 := Int.mul_tdiv_add_tmod (16 * u) 713623846352979940529142984724747568191373312; have h2 : (16 * u).tmod 713623846352979940529142984724747568191373312 = 0 ↔ (713623846352979940529142984724747568191373312 : Int) ∣ 16 * u := (Int.dvd_iff_tmod_eq_zero).symm; constructor
  · intro h; have h3 : (713623846352979940529142984724747568191373312 : Int) ∣ 16 * u := h2.1 (by omega); omega
  intro h
  have h3 : (713623846352979940529142984724747568191373312 : Int) ∣ 16 * u := by omega
  have := h2.2 h3; omega
end Ieee
namespace Go.Fs
variable {P : Program} {h : Heap} {S : List Nat} {σ : Sto} {t : Tr} {fl : VL} {x y : Operand} {T T' : TypeId} {v pv : PV} {k k' : FloatKind} {p q : Nat}
def fcmpE (b : BinOp) (k : FloatKind) (p q : Nat) : Bool := match b with
  | .eql => k.format.order p q == some .eq
  | .neq => k.format.order p q != some .eq
  | .lss => k.format.order p q == some .lt
  | .leq => k.format.order p q == some .lt || k.format.order p q == some .eq
  | .gtr => k.format.order p q == some .gt
  | .geq => k.format.order p q == some .gt || k.format.order p q == some .eq
  | _ => false
def isCmpF : BinOp → Bool
  | .eql | .neq | .lss | .leq | .gtr | .geq => true
  | _ => false
theorem CalmV.fcmp (b : BinOp) (hb : isCmpF b = true := by rfl) (hx : evV fl x = some (.v (.flt k) p) := by rfl) (hy : evV fl y = some (.v (.flt k) q) := by rfl) : CalmV P fl σ (.binOp b T x y T') (.v .bool (fcmpE b k p q)) :=
  .bin hx hy fun h S a c ha hc => by
    obtain rfl := RepV.flt ha; obtain rfl := RepV.flt hc; refine ⟨.bool (fcmpE b k p q), RepV.ofBool _, rfl, ?_⟩; cases b <;> first | (cases hb; done) | skip
    all_goals simp [purely, eqGuard, binOp, Op.floatCmp, fcmpE, runPure_bind, runPure_pure, runPure, af, af1, af0]
def fopE (b : BinOp) (k : FloatKind) (p q : Nat) : Option Nat := match b with
  | .add => k.format.add p q
  | .sub => k.format.sub p q
  | .mul => k.format.mul p q
  | .quo => k.format.div p q
  | _ => none
theorem CalmV.fop {b : BinOp} {r : Nat} (hr : fopE b k p q = some r) (hx : evV fl x = some (.v (.flt k) p) := by rfl) (hy : evV fl y = some (.v (.flt k) q) := by rfl) : CalmV P fl σ (.binOp b T x y T') (.v (.flt k) r) :=
  .bin hx hy fun h S a c ha hc => by
    obtain rfl := RepV.flt ha; obtain rfl := RepV.flt hc; refine ⟨.float k r, RepV.ofFlt _ _, rfl, ?_⟩; cases b <;> first | (cases hr; done) | skip
    all_goals
      simp only [fopE] at hr; simp [purely, eqGuard, binOp, Op.floatArith, hr, runPure_bind, runPure_pure, runPure, af, af1, af0]
theorem CalmV.fnan {b : BinOp} (hn : nanOp b k p q = true) (hx : evV fl x = some (.v (.flt k) p) := by rfl) (hy : evV fl y = some (.v (.flt k) q) := by rfl) : CalmV P fl σ (.binOp b T x y T') (.raw (nanJ k)) :=
  ⟨rfl, fun h S t hs _ => by
    have ha := RepV.flt (hs x (by simp [Op.operands]) _ hx : RepV h S (.flt k) _ p); have hc := RepV.flt (hs y (by simp [Op.operands]) _ hy : RepV h S (.flt k) _ q); refine ⟨nanJ k, rfl, fun _ _ _ _ _ H => ?_⟩; show (if (af (evalO t x) && af (evalO t y)) = true then ((purely P (do eqGuard b T x y (evalO t x) (evalO t y); binOp b T (evalO t x) (evalO t y))).or (fsNanA b (evalO t x) (evalO t y))).map _ else _) = _; rw [ha, hc, if_pos (show (af (Value.float k p) && af (Value.float k q)) = true from rfl)]
    have h1 : purely P (do eqGuard b T x y (.float k p) (.float k q); binOp b T (.float k p) (.float k q)) = none := by
      unfold nanOp at hn; split at hn
      all_goals first | (cases hn; done) | skip
      all_goals
        rw [Option.isNone_iff_eq_none] at hn; simp [purely, eqGuard, binOp, Op.floatArith, hn, runPure_bind, runPure_pure, runPure, choose, Sem.bind]
        exact fun a ha => by have h0 : (none : Option Value) = some a := ha; cases h0
    have h2 : fsNanA b (.float k p) (.float k q) = some (nanJ k) := by
      unfold fsNanA; simp [hn]
    rw [h1, h2]; rfl⟩
theorem CalmV.fnancmp {b : BinOp} {r : Bool} (hr : nanCmp b = some r) (hx : evV fl x = some (.raw (nanJ k)) := by rfl) (hy : evV fl y = some (.v (.flt k) q) := by rfl) : CalmV P fl σ (.binOp b T x y T') (.v .bool r) :=
  ⟨rfl, fun h S t hs _ => by
    have ha : evalO t x = nanJ k := hs x (by simp [Op.operands]) _ hx; have hc := RepV.flt (hs y (by simp [Op.operands]) _ hy : RepV h S (.flt k) _ q); refine ⟨.bool r, RepV.ofBool _, fun _ _ _ _ _ H => ?_⟩; show (if (af (evalO t x) && af (evalO t y)) = true then _ else ((fsNil P b T (evalO t x) (evalO t y)).or (fsNanC b (evalO t x) (evalO t y))).map _) = _; rw [ha, hc, if_neg (by simp [af, af1, af0, nanJ])]
    have h2 : fsNanC b (nanJ k) (.float k q) = some r := by
      simp [fsNanC, fkind, nanJ, isNanJ, hr]
    rw [h2]; rfl⟩
theorem CalmV.fnancmp2 {b : BinOp} {r : Bool} (hr : nanCmp b = some r) (hx : evV fl x = some (.raw (nanJ k)) := by rfl) (hy : evV fl y = some (.raw (nanJ k)) := by rfl) : CalmV P fl σ (.binOp b T x y T') (.v .bool r) :=
  ⟨rfl, fun h S t hs _ => by
    have ha : evalO t x = nanJ k := hs x (by simp [Op.operands]) _ hx; have hc : evalO t y = nanJ k := hs y (by simp [Op.operands]) _ hy; refine ⟨.bool r, RepV.ofBool _, fun _ _ _ _ _ H => ?_⟩; show (if (af (evalO t x) && af (evalO t y)) = true then _ else ((fsNil P b T (evalO t x) (evalO t y)).or (fsNanC b (evalO t x) (evalO t y))).map _) = _; rw [ha, hc, if_neg (by simp [af, af1, af0, nanJ])]
    have h2 : fsNanC b (nanJ k) (nanJ k) = some r := by
      simp [fsNanC, fkind, nanJ, isNanJ, hr]
    rw [h2]; rfl⟩
def convFB (P : Program) (s D : TypeId) (k2 : FloatKind) : Bool := (P.underlying s).isSome && (match P.underlying D with | some (.float k) => decide (k = k2) | _ => false)
theorem CalmV.cvIF {n : Int} {s D : TypeId} {κ : IntKind} (k2 : FloatKind) (hx : evV fl x = some (.v (.int κ) n) := by rfl) (hb : convFB P s D k2 = true := by kernel_rfl) : CalmV P fl σ (.convert s D x) (.v (.flt k2) (k2.nearest n)) :=
  .conv hx fun h S a ha => by
    obtain rfl := RepV.int ha; unfold convFB at hb; obtain ⟨b1, b2⟩ := band hb; obtain ⟨td, hs⟩ := Option.isSome_iff_exists.1 b1; split at b2
    · rename_i k3 hd; obtain rfl : k3 = k2 := of_decide_eq_true b2; refine ⟨.float k3 (k3.nearest n), RepV.ofFlt _ _, rfl, ?_⟩; unfold purely convert; simp only [runPure_bind, runPure_underlying hs, runPure_underlying hd, Option.bind_some]; show (runPure P (Conv.intToFloat k3 n)).bind _ = _; simp only [Conv.intToFloat, runPure_pure, Option.bind_some]; rfl
    cases b2
theorem CalmV.cvFI {n : Int} {s D : TypeId} (hn : (k.decode p).toInt .zero = some n) (hf : fit n) (hx : evV fl x = some (.v (.flt k) p) := by rfl) (hb : convB P s D .i64 = true := by kernel_rfl) : CalmV P fl σ (.convert s D x) (.v (.int .i64) n) :=
  .conv hx fun h S a ha => by
    obtain rfl := RepV.flt ha; unfold convB at hb; obtain ⟨b1, b2⟩ := band hb; obtain ⟨td, hs⟩ := Option.isSome_iff_exists.1 b1; split at b2
    · rename_i k3 hd; obtain rfl : k3 = .i64 := of_decide_eq_true b2; refine ⟨.int .i64 n, RepV.ofInt _ _, rfl, ?_⟩; unfold purely convert; simp only [runPure_bind, runPure_underlying hs, runPure_underlying hd, Option.bind_some]; show (runPure P (Conv.floatToInt k p .i64)).bind _ = _; have hr : IntKind.i64.min ≤ n ∧ n ≤ IntKind.i64.max := ⟨hf.1, hf.2⟩; simp only [Conv.floatToInt, hn, hr, and_self, if_true, runPure_pure, Option.bind_some]; rfl
    cases b2
theorem CalmV.cvFF {s D : TypeId} (k2 : FloatKind) (hne : ¬ k = k2) {u : Int} (hu : k.format.units p = some u) {r : Nat} {u' : Int} (hr : k2.format.write (k.format.read p) = r) (hr2 : k2.format.units r = some u') (hx : evV fl x = some (.v (.flt k) p) := by rfl) (hb : convFB P s D k2 = true := by kernel_rfl) : CalmV P fl σ (.convert s D x) (.v (.flt k2) r) :=
  .conv hx fun h S a ha => by
    obtain rfl := RepV.flt ha; unfold convFB at hb; obtain ⟨b1, b2⟩ := band hb; obtain ⟨td, hs⟩ := Option.isSome_iff_exists.1 b1; split at b2
    · rename_i k3 hd; obtain rfl : k3 = k2 := of_decide_eq_true b2; refine ⟨.float k3 r, RepV.ofFlt _ _, rfl, ?_⟩; unfold purely convert; simp only [runPure_bind, runPure_underlying hs, runPure_underlying hd, Option.bind_some]; show (runPure P (Conv.floatToFloat k p k3)).bind _ = _; obtain ⟨sg, m, pl, h1, _, _⟩ := Ieee.Format.units_inv hu; have h1' : k.decode p = .number sg m pl := h1
      have h2 : k3.encode (.number sg m pl) = r := by rw [← hr, h1]; rfl
      obtain ⟨sg', m', pl', h3, _, _⟩ := Ieee.Format.units_inv hr2; have h3' : k3.decode r = .number sg' m' pl' := h3; simp only [Conv.floatToFloat, hne, if_false, h1', h2, h3', Ieee.Datum.isInfinity, Bool.false_eq_true, runPure_pure, Option.bind_some]; rfl
    cases b2
theorem CalmV.cvInf {s D : TypeId} {sg : Bool} (k2 : FloatKind) (hne : ¬ k = k2) (hu : k.format.read p = .infinity sg) (hx : evV fl x = some (.v (.flt k) p) := by rfl) (hb : convFB P s D k2 = true := by kernel_rfl) : CalmV P fl σ (.convert s D x) (.v (.flt k2) (k2.format.write (.infinity sg))) :=
  .conv hx fun h S a ha => by
    obtain rfl := RepV.flt ha; unfold convFB at hb; obtain ⟨b1, b2⟩ := band hb; obtain ⟨td, hs⟩ := Option.isSome_iff_exists.1 b1; split at b2
    · rename_i k3 hd; obtain rfl : k3 = k2 := of_decide_eq_true b2; refine ⟨.float k3 (k3.encode (.infinity sg)), RepV.ofFlt _ _, rfl, ?_⟩; unfold purely convert; simp only [runPure_bind, runPure_underlying hs, runPure_underlying hd, Option.bind_some]; show (runPure P (Conv.floatToFloat k p k3)).bind _ = _; have h1' : k.decode p = .infinity sg := hu; simp only [Conv.floatToFloat, hne, if_false, h1', runPure_pure, Option.bind_some]; rfl
    cases b2
theorem CalmV.cvNan {s D : TypeId} {sg : Bool} {m : Nat} (k2 : FloatKind) (hne : ¬ k = k2) (hu : k.format.read p = .nan sg m) (hx : evV fl x = some (.v (.flt k) p) := by rfl) (hb : convFB P s D k2 = true := by kernel_rfl) : CalmV P fl σ (.convert s D x) (.raw (nanJ k2)) :=
  ⟨rfl, fun h S t hs _ => by
    have ha := RepV.flt (hs x (by simp [Op.operands]) _ hx : RepV h S (.flt k) _ p); refine ⟨nanJ k2, rfl, fun _ _ _ _ _ H => ?_⟩; show (if af (evalO t x) = true then ((purely P (convert s D (evalO t x))).or (fsNanV P s D (evalO t x))).map _ else _) = _; rw [ha, if_pos (show af (Value.float k p) = true from rfl)]; unfold convFB at hb; obtain ⟨b1, b2⟩ := band hb; obtain ⟨td, hs⟩ := Option.isSome_iff_exists.1 b1; split at b2
    · rename_i k3 hd; obtain rfl : k3 = k2 := of_decide_eq_true b2; have h1' : k.decode p = .nan sg m := hu
      have e1 : purely P (convert s D (.float k p)) = none := by
        unfold purely convert; simp only [runPure_bind, runPure_underlying hs, runPure_underlying hd, Option.bind_some]; show (runPure P (Conv.floatToFloat k p k3)).bind _ = _; simp [Conv.floatToFloat, hne, h1', choose, runPure_bind, runPure]
        try exact fun a ha => by have h0 : (none : Option Value) = some a := ha; cases h0
      have e2 : fsNanV P s D (.float k p) = some (nanJ k3) := by
        simp [fsNanV, hs, hd, hne, h1', Ieee.Datum.isNaN]
      rw [e1, e2]; rfl
    cases b2⟩
theorem compare_int (u v : Int) : compare u v = if u < v then .lt else if u = v then .eq else .gt := rfl
theorem fcmp_units {u v : Int} (hp : k.format.units p = some u) (hq : k.format.units q = some v) :
    fcmpE .eql k p q = decide (u = v) ∧ fcmpE .neq k p q = decide (u ≠ v) ∧ fcmpE .lss k p q = decide (u < v) ∧ fcmpE .leq k p q = decide (u ≤ v) ∧ fcmpE .gtr k p q = decide (v < u) ∧ fcmpE .geq k p q = decide (v ≤ u) := by
  have ho : k.format.order p q = some (compare u v) := Ieee.Format.order_units hp hq; simp only [fcmpE, ho, compare_int]; by_cases h1 : u < v
  · have : ¬ u = v := by omega
    simp [h1, this]; omega
  by_cases h2 : u = v
  · subst h2; simp
  simp [h1, h2]; omega
end Go.Fs
namespace Go.Fs
variable {P : Program} {orc : FuncId → List Value → Heap → Option (Value × Heap)} {rnd : Option Nat} {h h' h0 h1 h2 : Heap} {S S' S0 B G : List Nat} {σ σ' : Sto} {t t' : Tr} {ms : List Nat} {fl : VL} {ops : Array Oper} {n : Nat} {l : List Oper} {K : VL → Sto → Prop} {Q : Ex → VL → Sto → Prop}
  {d : Tmp} {ty : TypeId} {pos : String} {after : Array Edge} {op : Op} {v pv : PV} {g : Option (Nat × Bool)} {x y z : Operand} {T T' e : TypeId} {κ ν : Ty} {w : Value}
section
variable {α β : Type} [DecidableEq α]
end
structure KeyT (P : Program) (K : TypeId) (κ : Ty) : Prop where
  flat : κ.isFlat = true
  und : ∃ td, P.underlying K = some td ∧ ((∀ {h : Heap} {S : List Nat} (u v : Value) (x y : κ.den) (inst : Decidable (x = y)), RepV h S κ u x → RepV h S κ v y → Instr.sameNow td u v = some (@decide (x = y) inst)) ∨
    ((∀ u v, Instr.sameNow td u v = none) ∧ ∀ {h : Heap} {S : List Nat} (u v : Value) (x y : κ.den) (inst : Decidable (x = y)), RepV h S κ u x → RepV h S κ v y → runPure P (Op.equal K u v) = some (@decide (x = y) inst)))
  chk : ∀ {h : Heap} {S : List Nat} (em : Bool) (u : Value) (x : κ.den), RepV h S κ u x → (runPure P (Instr.checkKey em 10000 K u)).isSome = true
  bits : ∀ {h : Heap} {S : List Nat} (u : Value) (x : κ.den), RepV h S κ u x → Instr.sameBits 10000 u u = true
structure MapT (P : Program) (T : TypeId) (κ ν : Ty) : Prop where
  key : ∃ K E, P.underlying T = some (.map K E) ∧ KeyT P K κ ∧ ZerT P E ν
section
variable [DecidableEq κ.den] {k : κ.den} {kvs : List (κ.den × ν.den)}
end
end Go.Fs
namespace Go.Fs
variable {P : Program} {orc : FuncId → List Value → Heap → Option (Value × Heap)} {h : Heap} {S : List Nat} {σ : Sto} {t : Tr} {fl : VL} {x y : Operand} {T T' : TypeId} {v pv : PV} {k k' : FloatKind} {p q : Nat}
theorem CalmV.fcmpD {b : BinOp} {r : Bool} (he : fcmpE b k p q = r) (hb : isCmpF b = true := by rfl) (hx : evV fl x = some (.v (.flt k) p) := by rfl) (hy : evV fl y = some (.v (.flt k) q) := by rfl) : CalmV P fl σ (.binOp b T x y T') (.v .bool r) := he ▸ CalmV.fcmp b hb hx hy
theorem VF.ext {f : FuncId} {args : List PV} {r : PV} {fn : Func} {e : Array Value → Sem Value} {us : List Value} {w : Value} (hfn : P.funcs[f]? = some fn) (ho : ∀ us h, orc f us h = none) (hb : (fn.body.isNone && !(fn.name == "runtime.NumGoroutine")) = true) (h1 : (Extern.findNext fn).isNone = true) (h2 : Extern.find fn = some e)
    (ha : us.all af = true) (hus : ∀ (h : Heap) (S : List Nat) (us' : List Value), RepL h S args us' → us' = us) (hv : purely P (e us.toArray) = some w) (hr : ∀ (h : Heap) (S : List Nat), RepPV h S r w) : VF P orc f args r := fun h S us' hok hS hrep => by
  obtain rfl := hus h S us' hrep; exact EvF.ext (ho _ _) hfn hb h1 h2 ha hv ⟨Aft.refl _ _, hr _ _, fun _ => rfl⟩
theorem repl_flt {h : Heap} {S : List Nat} {us : List Value} {k : FloatKind} {p : Nat} (hr : RepL h S [.v (.flt k) p] us) : us = [.float k p] := by
  obtain ⟨u, r, rfl, h2, h3⟩ := hr; obtain rfl : r = [] := h3; rw [RepV.flt h2]
theorem VF.extFlt {f : FuncId} {r : PV} {fn : Func} {e : Array Value → Sem Value} {w : Value} (hfn : P.funcs[f]? = some fn) (ho : ∀ us h, orc f us h = none) (hb : (fn.body.isNone && !(fn.name == "runtime.NumGoroutine")) = true) (h1 : (Extern.findNext fn).isNone = true) (h2 : Extern.find fn = some e)
    (hv : purely P (e #[.float k p]) = some w) (hr : ∀ (h : Heap) (S : List Nat), RepPV h S r w) : VF P orc f [.v (.flt k) p] r :=
  VF.ext (us := [.float k p]) hfn ho hb h1 h2 rfl (fun _ _ _ hr => repl_flt hr) hv hr
theorem VF.extInt {f : FuncId} {r : PV} {κ : IntKind} {n : Int} {fn : Func} {e : Array Value → Sem Value} {w : Value} (hfn : P.funcs[f]? = some fn) (ho : ∀ us h, orc f us h = none) (hb : (fn.body.isNone && !(fn.name == "runtime.NumGoroutine")) = true) (h1 : (Extern.findNext fn).isNone = true) (h2 : Extern.find fn = some e)
    (hv : purely P (e #[.int κ n]) = some w) (hr : ∀ (h : Heap) (S : List Nat), RepPV h S r w) : VF P orc f [.v (.int κ) n] r :=
  VF.ext (us := [.int κ n]) hfn ho hb h1 h2 rfl (fun _ _ _ hr => repl_int _ _ _ hr) hv hr
theorem mul32E {p q r : Nat} (h : Ieee.single.mul p q = some r) : fopE .mul .f32 p q = some r := h
theorem sub32E {p q r : Nat} (h : Ieee.single.sub p q = some r) : fopE .sub .f32 p q = some r := h
theorem add32E {p q r : Nat} (h : Ieee.single.add p q = some r) : fopE .add .f32 p q = some r := h
theorem mul64E {p q r : Nat} (h : Ieee.double.mul p q = some r) : fopE .mul .f64 p q = some r := h
theorem nan32E {p : Nat} (h : Ieee.u32 p = none) : nanOp .sub .f32 p p = true := by
  show (Ieee.single.sub p p).isNone = true; rw [Ieee.Format.sub_self_none h]; rfl
theorem toInt32E {p : Nat} {n : Int} (h : (Ieee.single.read p).toInt .zero = some n) : (FloatKind.f32.decode p).toInt .zero = some n := h
theorem fneq_self {p : Nat} (h : Ieee.double.order p p = some .eq) : fcmpE .neq .f64 p p = false := by
  show (Ieee.double.order p p != some .eq) = false; rw [h]; rfl
theorem fcmp32 {p q : Nat} {u v : Int} (hp : Ieee.u32 p = some u) (hq : Ieee.u32 q = some v) :
    fcmpE .eql .f32 p q = decide (u = v) ∧ fcmpE .neq .f32 p q = decide (u ≠ v) ∧ fcmpE .lss .f32 p q = decide (u < v) ∧ fcmpE .leq .f32 p q = decide (u ≤ v) ∧ fcmpE .gtr .f32 p q = decide (v < u) ∧ fcmpE .geq .f32 p q = decide (v ≤ u) := fcmp_units (k := .f32) hp hq
theorem fcmp64 {p q : Nat} {u v : Int} (hp : Ieee.u64 p = some u) (hq : Ieee.u64 q = some v) :
    fcmpE .eql .f64 p q = decide (u = v) ∧ fcmpE .neq .f64 p q = decide (u ≠ v) ∧ fcmpE .lss .f64 p q = decide (u < v) ∧ fcmpE .leq .f64 p q = decide (u ≤ v) ∧ fcmpE .gtr .f64 p q = decide (v < u) ∧ fcmpE .geq .f64 p q = decide (v ≤ u) := fcmp_units (k := .f64) hp hq
theorem CalmV.widen {s D : TypeId} {u u' : Int} (hu : Ieee.u32 p = some u) (hr : Ieee.u64 (Ieee.double.write (Ieee.single.read p)) = some u') (hx : evV fl x = some (.v (.flt .f32) p) := by rfl) (hb : convFB P s D .f64 = true := by kernel_rfl) : CalmV P fl σ (.convert s D x) (.v (.flt .f64) (Ieee.double.write (Ieee.single.read p))) :=
  CalmV.cvFF (k := .f32) .f64 (by decide) hu rfl hr hx hb
theorem CalmV.widenI {s D : TypeId} {sg : Bool} (hu : Ieee.single.read p = .infinity sg) (hx : evV fl x = some (.v (.flt .f32) p) := by rfl) (hb : convFB P s D .f64 = true := by kernel_rfl) : CalmV P fl σ (.convert s D x) (.v (.flt .f64) (Ieee.double.write (.infinity sg))) :=
  CalmV.cvInf (k := .f32) .f64 (by decide) hu hx hb
theorem CalmV.widenN {s D : TypeId} {sg : Bool} {m : Nat} (hu : Ieee.single.read p = .nan sg m) (hx : evV fl x = some (.v (.flt .f32) p) := by rfl) (hb : convFB P s D .f64 = true := by kernel_rfl) : CalmV P fl σ (.convert s D x) (.raw (nanJ .f64)) :=
  CalmV.cvNan (k := .f32) .f64 (by decide) hu hx hb
theorem floor_run {P : Program} {y : Nat} {s : Bool} {m : Nat} {pl : Int} (h : Ieee.double.read y = .number s m pl) : purely P (Extern.MathFloor.toIntegral "math.archFloor" .down #[.float .f64 y]) = some (.float .f64 (Ieee.double.write ((Ieee.double.read y).integral .down))) := by
  have e : Extern.MathFloor.toIntegral "math.archFloor" .down #[.float .f64 y] = (match FloatKind.f64.decode y with
    | .nan s t =>
      if FloatKind.f64.format.quiet t = t then pure (.float .f64 y) else do
      let kept ← choose (.extern "math.Floor,Ceil,Trunc,RoundToEven.signallingNaN kept" 2)
      pure (.float .f64 (if kept == 1 then y else FloatKind.f64.encode (.nan s (FloatKind.f64.format.quiet t))))
    | d => pure (.float .f64 (FloatKind.f64.encode (d.integral .down)))) := rfl
  have h2 : FloatKind.f64.decode y = .number s m pl := h; rw [e, h2, h]; rfl
theorem clr63 {b : Nat} : ((BitVec.ofInt 64 (b : Int)) &&& ~~~(BitVec.ofInt 64 9223372036854775808)).toNat = b % 9223372036854775808 := by
  rw [BitVec.toNat_and]
  have e1 : (~~~(BitVec.ofInt 64 9223372036854775808)).toNat = 2 ^ 63 - 1 := by decide
  have e2 : (BitVec.ofInt 64 (b : Int)).toNat = b % 2 ^ 64 := by
    rw [BitVec.toNat_ofInt]; omega
  rw [e1, e2, Nat.and_two_pow_sub_one_eq_mod]; omega
theorem CalmV.clr63 {b : Nat} (hx : evV fl x = some (.v (.int .u64) ((b : Nat) : Int))) (hy : evV fl y = some (.v (.int .u64) 9223372036854775808)) : CalmV P fl σ (.binOp .andNot T x y T') (.v (.int .u64) ((b % 9223372036854775808 : Nat) : Int)) :=
  .binI hx hy (u := .int .u64 ((b % 9223372036854775808 : Nat) : Int)) (by
    show (runPure P (Op.intBits .andNot .u64 (b : Int) 9223372036854775808)).bind _ = _; have e1 : Op.intBits .andNot .u64 (b : Int) 9223372036854775808 = pure (.int .u64 (IntKind.u64.wrap (((BitVec.ofInt 64 (b : Int)) &&& ~~~(BitVec.ofInt 64 9223372036854775808)).toNat : Int))) := rfl; rw [e1, Fs.clr63, runPure_pure]
    have e2 : IntKind.u64.wrap ((b % 9223372036854775808 : Nat) : Int) = ((b % 9223372036854775808 : Nat) : Int) := by
      have e3 : IntKind.u64.wrap ((b % 9223372036854775808 : Nat) : Int) = ((b % 9223372036854775808 : Nat) : Int) % 18446744073709551616 := rfl; rw [e3]; omega
    rw [e2]; rfl) fun h S => RepV.ofInt _ _
end Go.Fs
namespace Ieee
open Format
theorem read_clr {b : Nat} : double.read (b % 9223372036854775808) = match double.read b with
    | .number _ m p => .number false m p
    | .infinity _ => .infinity false
    | .nan _ f => .nan false f := by
  have e0 : double.signWeight = 9223372036854775808 := by decide
  have e1 : b % 9223372036854775808 % double.signWeight = b % double.signWeight := by rw [e0]; omega
  have e2 : (b % 9223372036854775808 / double.signWeight % 2 == 1) = false := by
    rw [e0, show b % 9223372036854775808 / 9223372036854775808 = 0 by omega]; rfl
  unfold Format.read; simp only [e1, e2]; split
  · rfl
  split
  · rfl
  split <;> rfl
theorem units_clr {b : Nat} {v : Int} (h : double.units b = some v) : double.units (b % 9223372036854775808) = some (v.natAbs : Int) := by
  obtain ⟨s, m, p, h1, h2, rfl⟩ := units_inv h; unfold units; rw [read_clr, h1]; simp only; rw [sg_natAbs]; rfl
def topW : Int := (2 ^ 53 - 1) * (((2 ^ (2045 : Nat) : Nat)) : Int)
theorem top64 : u64 9218868437227405311 = some topW := by decide +kernel
theorem top_bound {u : Int} (h : u.natAbs ≤ 2 ^ e300) : ((u * (kW : Nat)).natAbs : Int) ≤ topW := by
  have h1 : 2 ^ e300 * kW ≤ topW.natAbs := by decide +kernel
  have h2 : (u * (kW : Nat)).natAbs ≤ 2 ^ e300 * kW := by
    rw [Int.natAbs_mul, Int.natAbs_natCast]; exact Nat.mul_le_mul_right _ h
  have h3 : (topW.natAbs : Int) = topW := by decide +kernel
  omega
end Ieee
namespace Go.Fs
variable {P : Program} {orc : FuncId → List Value → Heap → Option (Value × Heap)} {rnd : Option Nat} {h : Heap} {S : List Nat} {σ : Sto} {t : Tr} {fl : VL} {x y : Operand} {T : TypeId} {n : Nat} {τ τ' : Ty} {Q : Ex → VL → Sto → Prop}
theorem VC.unroll {c : Code} (hx : VC P orc rnd c n fl σ (thenV P orc rnd n (.loop c) Q)) : VC P orc rnd (.loop c) n fl σ Q := fun h0 G S0 t h ms I => by
  refine EvC.loop ((hx h0 G S0 t h ms I).mono fun e fr h' hq => ?_); obtain ⟨hn, fl', σ', I', q⟩ := hq
  cases e with
  | normal =>
    obtain ⟨t', n', ms'⟩ := fr; obtain rfl : n' = n := hn
    exact q h0 G S0 t' h' ms' I'
  | exit i => exact ⟨hn, fl', σ', I', q⟩
  | ret => exact ⟨hn, fl', σ', I', q⟩
def aofB (P : Program) (T : TypeId) (j k : Nat) (τ' : Ty) : Bool :=
  match P.underlying T with
  | some (.array n e) => match P.info? e with
    | some i => Nat.blt j n && Nat.beq k (j * i.size) && valB P e τ'
    | none => false
  | _ => false
theorem aofB_inv {j k : Nat} (hb : aofB P T j k τ' = true) : ∃ m e i, P.underlying T = some (.array m e) ∧ P.info? e = some i ∧ j < m ∧ k = j * i.size ∧ ValT P e τ' := by
  unfold aofB at hb; split at hb
  · rename_i m e hu; split at hb
    · rename_i i hi; obtain ⟨h1, h2⟩ := band hb; obtain ⟨h3, h4⟩ := band h1; exact ⟨m, e, i, hu, hi, nblt h3, nbeq h4, valT_of h2⟩
    cases hb
  cases hb
theorem CalmV.ixA (j : Nat) {k : Nat} {dx : τ.den} {dy : τ'.den} (hs : Sub τ dx k τ' dy) (ha : τ.agg = true := by rfl) (hb : aofB P T j k τ' = true := by kernel_rfl) (hx : evV fl x = some (.v τ dx) := by rfl) (hy : evV fl y = some (.v (.int .i64) ((j : Nat) : Int)) := by rfl) : CalmV P fl σ (.index T x y) (.v τ' dy) :=
  ⟨rfl, fun h S t hq _ => by
    have hv : RepV h S τ (evalO t x) dx := hq x (by simp [Op.operands]) _ hx; have hi : evalO t y = .int .i64 ((j : Nat) : Int) := RepV.int (hq y (by simp [Op.operands]) _ hy : RepV h S (.int .i64) _ ((j : Nat) : Int)); obtain ⟨m, e, i, u1, u2, u3, u4, u5⟩ := aofB_inv hb; obtain ⟨cs, hcs⟩ := aggOf ha hv; rw [hcs] at hv; obtain ⟨h6, h7⟩ := hs.repC hv.2; obtain ⟨v, v1, v2⟩ := part_rep u5 (cs := cs) (o := k) h7; refine ⟨v, v2, fun _ _ _ _ _ H => ?_⟩; show (if af (evalO t y) then (runPure P (Instr.index T (evalO t x) (evalO t y))).map _ else none) = _; rw [hi, hcs, if_pos (show af (Value.int .i64 ((j : Nat) : Int)) = true from rfl)]
    have h8 : (0 : Int) ≤ ((j : Nat) : Int) ∧ ((j : Nat) : Int) < (m : Nat) := by omega
    have h9 : runPure P (Instr.index T (.agg cs) (.int .i64 ((j : Nat) : Int))) = some v := by
      unfold Instr.index; simp only [runPure_bind, asIntOf, runPure_pure, Option.bind_some, runPure_underlying u1, if_pos h8, runPure_sizeOf u2, Int.toNat_natCast, ← u4]; exact v1
    rw [h9]; rfl⟩
section
variable {T' : TypeId}
end
end Go.Fs
namespace Go.Fs
variable {P : Program} {orc : FuncId → List Value → Heap → Option (Value × Heap)} {rnd : Option Nat} {h h' h0 h1 h2 : Heap} {S S' S0 B G : List Nat} {σ σ' : Sto} {t t' : Tr} {ms : List Nat} {fl nw : VL} {ops : Array Oper} {n : Nat} {l : List Oper} {K : VL → Sto → Prop} {Q : Ex → VL → Sto → Prop}
  {d : Tmp} {ty : TypeId} {pos : String} {after : Array Edge} {op : Op} {v pv : PV} {g : Option (Nat × Bool)} {x y z : Operand} {T T' e : TypeId} {w : Value} {s : ByteArray} {p : Nat}
theorem FreshO.rng (hT : P.underlying T = some .string := by kernel_rfl) (hx : evV fl x = some (.v .str s) := by rfl) : FreshO P fl (.range T x) (.it s 0) :=
  ⟨rfl, fun h S t hs hok hS => by
    have hv : evalO t x = .string s := RepV.str (hs x (by simp [Op.operands]) _ hx : RepV h S .str _ s); refine ⟨fun k => .pointer (some ⟨k, 0, none⟩), .iter s 0, fun _ => rfl, fun S' hN hm => ⟨h.next, rfl, hm, by rw [Heap.get_push, if_pos rfl]⟩, fun H _ _ _ _ _ => ?_⟩; show fsRange P T (evalO t x) H = _; rw [hv]
    simp [fsRange, hT]⟩
theorem MakeV.nextT (hp : p < s.size) (hx : evV fl x = some (.raw w)) : MakeV P fl ((w, .it s p) :: σ) (.next x true) fun v σ' => v = .tup [.v .bool true, .v (.int .i64) ((p : Nat) : Int), .v (.int .i32) (((Utf8.decode s p).1 : Nat) : Int)] ∧ σ' = (w, .it s (p + (Utf8.decode s p).2)) :: σ :=
  ⟨rfl, fun S0 h t L => by
    have h1 : evalO t x = w := evV_ok L.slots hx; obtain ⟨b, h3, h4, hg⟩ := L.cells _ List.mem_cons_self; have hw : w = .pointer (some ⟨b, 0, none⟩) := h3
    have hbk : blk w = [b] := by rw [hw]; rfl
    refine ⟨.tuple #[.bool true, .int .i64 ((p : Nat) : Int), .int .i32 (((Utf8.decode s p).1 : Nat) : Int)], h.set b (.iter s (p + (Utf8.decode s p).2)), _, _, ⟨rfl, rfl⟩, Made.head L (Aft.set hg (by rw [hbk]; simp)) (fun b hb => .inl hb) (by rw [hbk]; simp) fun hN => ?_, ?_, fun _ _ _ _ _ => ?_⟩
    · refine ⟨b, h3, ?_, by rw [Heap.get_set hg, if_pos rfl]⟩; rw [own_cons]; exact List.mem_append_left _ (List.mem_append_left _ (by rw [hbk]; simp))
    · exact ⟨_, rfl, _, _, rfl, RepV.ofBool _, _, _, rfl, RepV.ofInt _ _, _, _, rfl, RepV.ofInt _ _, rfl⟩
    show fsNext (evalO t x) true h = _; rw [h1, hw]
    simp [fsNext, hg, hp]⟩
theorem MakeV.nextF (hp : ¬ p < s.size) (hx : evV fl x = some (.raw w)) : MakeV P fl ((w, .it s p) :: σ) (.next x true) fun v σ' => v = .tup [.v .bool false] ∧ σ' = (w, .it s p) :: σ :=
  ⟨rfl, fun S0 h t L => by
    have h1 : evalO t x = w := evV_ok L.slots hx; obtain ⟨b, h3, h4, hg⟩ := L.cells _ List.mem_cons_self; have hw : w = .pointer (some ⟨b, 0, none⟩) := h3; refine ⟨.tuple #[.bool false], h, _, _, ⟨rfl, rfl⟩, Made.same L (Aft.refl h []), ⟨_, rfl, _, _, rfl, RepV.ofBool _, rfl⟩, fun _ _ _ _ _ => ?_⟩; show fsNext (evalO t x) true h = _; rw [h1, hw]
    simp [fsNext, hg, hp]⟩
theorem VO.next (hx : evV fl x = some (.raw w)) (h1 : p < s.size → VO P orc ops n l ((d, .tup [.v .bool true, .v (.int .i64) ((p : Nat) : Int), .v (.int .i32) (((Utf8.decode s p).1 : Nat) : Int)]) :: fl) ((w, .it s (p + (Utf8.decode s p).2)) :: σ) K) (h2 : ¬ p < s.size → VO P orc ops n l ((d, .tup [.v .bool false]) :: fl) ((w, .it s p) :: σ) K)
    (hw : wantV ops fl g = some true := by rfl) (hn : (Nat.blt d n && Nat.ble n 4000) = true := by rfl) : VO P orc ops n (⟨some d, .next x true, ty, pos, after, g⟩ :: l) fl ((w, .it s p) :: σ) K := by
  by_cases hp : p < s.size
  · exact VO.mk (MakeV.nextT hp hx) (by rintro _ _ ⟨rfl, rfl⟩; exact h1 hp) hw hn
  exact VO.mk (MakeV.nextF hp hx) (by rintro _ _ ⟨rfl, rfl⟩; exact h2 hp) hw hn
theorem CalmV.ext0 {b : Bool} (hx : evV fl x = some (.tup [.v .bool b]) := by rfl) : CalmV P fl σ (.extract x 0) (.v .bool b) := ⟨rfl, fun h S t hs _ => by
  obtain ⟨us, h1, u, r, rfl, h2, h3⟩ := (hs x (by simp [Op.operands]) _ hx : RepPV h S (.tup [.v .bool b]) _); obtain rfl : r = [] := h3; have hu : u = .bool b := RepV.bool h2; subst hu; refine ⟨.bool b, RepV.ofBool _, fun _ _ _ _ _ H => ?_⟩; show (bif isJunk (evalO t x) then none else (runPure P (Instr.extract (evalO t x) 0)).map _) = _; rw [h1]; have hj : isJunk (.tuple [Value.bool b].toArray) = false := rfl; rw [hj]
  rfl⟩
theorem decode_low {i : Nat} (h : (s.get! i).toNat < 128) : Utf8.decode s i = ((s.get! i).toNat, 1) := by
  unfold Utf8.decode; simp only [Nat.add_zero]; rw [if_pos h]
theorem decode_high {i : Nat} (h : ¬ (s.get! i).toNat < 128) : 128 ≤ (Utf8.decode s i).1 := by
  unfold Utf8.decode; simp only [Nat.add_zero]; rw [if_neg h]
  have hr : 128 ≤ Utf8.runeError := by decide
  split
  · split
    · assumption
    exact hr
  split
  · split
    · rename_i hc; have := (Bool.and_eq_true .. ▸ hc : _ ∧ _).1; have := of_decide_eq_true this; simp only; omega
    exact hr
  split
  · split
    · rename_i hc; have := (Bool.and_eq_true .. ▸ hc : _ ∧ _).1; have := of_decide_eq_true this; simp only; omega
    exact hr
  exact hr
structure GdT (ops : Array Oper) (fl : VL) (g : Option (Nat × Bool)) (b : Bool) : Prop where
  want : ∀ {h : Heap} {S : List Nat} {t : Tr}, Slots h S t fl → ∀ o : Oper, o.guard = g → fsWanted ops t o = some b
end Go.Fs
namespace Go.Fs
instance : DecidableEq (Ty.den .str) := inferInstanceAs (DecidableEq ByteArray)
instance {k : IntKind} : DecidableEq (Ty.den (.int k)) := inferInstanceAs (DecidableEq Int)
instance : DecidableEq (Ty.den .bool) := inferInstanceAs (DecidableEq Bool)
instance {a b : Ty} [DecidableEq a.den] [DecidableEq b.den] : DecidableEq (Ty.den (.pair a b)) := inferInstanceAs (DecidableEq (a.den × b.den))
variable {P : Program} {orc : FuncId → List Value → Heap → Option (Value × Heap)} {fl : VL} {σ γ : Sto} {T : TypeId} {τ : Ty}
theorem repL_raw {h : Heap} {S : List Nat} : ∀ (us : List Value), RepL h S (us.map PV.raw) us
  | [] => rfl
  | u :: r => ⟨u, r, rfl, rfl, repL_raw r⟩
theorem CalmV.buildA {pl : List (Nat × Nat)} {parts : Array (Nat × Operand)} {zs : List Value} {ps cs : List PV} (hT : BldT P T τ pl) (hz : zeroC τ = zs := by rfl) (hps : evVs fl (parts.toList.map (·.2)) = some ps := by rfl) (hb : bldL pl (zs.map .raw) (parts.toList.map (·.1)) ps = some cs := by rfl) : CalmV P fl σ (.build T parts) (.agg cs) :=
  ⟨rfl, fun h S t hs _ => by
    obtain ⟨z, z1, z2, z3⟩ := hT.zer.zero; obtain ⟨y1, y2⟩ := zero_rep h S τ; have hr : RepL h S ps ((parts.toList.map (·.2)).map (evalO t)) := sees_list (fun x hx => hs x (by simpa [Op.operands] using hx)) hps; obtain ⟨cs', f1, f2, f3, f4⟩ := fill_bld hb hr (show RepL h S (zs.map .raw) (zeroC τ) from by rw [hz]; exact repL_raw zs) (af0_one y2); refine ⟨.agg cs'.toArray, ⟨cs', rfl, f2⟩, fun _ _ _ _ _ H => ?_⟩; show (bif (parts.toList.all fun p => (evalO t p.2).cells.toList.all oneCell) && ((((P.info? T).bind (·.zero)).map fun z => z.cells.toList.all af0) == some true) then (runPure P (Instr.build T (parts.map fun p => (p.1, evalO t p.2)))).map fun v => (v, H) else none) = _
    have c1 : (parts.toList.all fun p => (evalO t p.2).cells.toList.all oneCell) = true := by
      rw [List.map_map, List.all_map] at f3; exact f3
    have c2 : ((((P.info? T).bind (·.zero)).map fun z => z.cells.toList.all af0) == some true) = true := by
      rw [z1]
      have e : z.cells.toList.all af0 = true := by rw [z2]; exact y2
      simp only [Option.map_some, e]; rfl
    have hrun := hT.run z (parts.map fun p => (p.1, evalO t p.2)) cs'.toArray z1 (by
      rw [← f1, Array.toList_map, ← zip_map, List.map_map]; congr 1
      rw [← z2])
    rw [c1, c2, hrun]
    rfl⟩
def byteE (s : ByteArray) (i : Int) : Int := (((s.get! i.toNat).toNat : Nat) : Int)
theorem byteE_nat (s : ByteArray) (i : Nat) : byteE s i = (((s.get! i).toNat : Nat) : Int) := rfl
theorem CalmV.ixS {x y : Operand} {s : ByteArray} {i : Int} (hx : evV fl x = some (.v .str s)) (hy : evV fl y = some (.v (.int .i64) i)) (h0 : 0 ≤ i) (h1 : i < (s.size : Nat)) (hT : P.underlying T = some .string := by kernel_rfl) : CalmV P fl σ (.index T x y) (.v (.int .u8) (byteE s i)) :=
  ⟨rfl, fun h S t hq _ => by
    have hv : evalO t x = .string s := RepV.str (hq x (by simp [Op.operands]) _ hx : RepV h S .str _ s); have hi : evalO t y = .int .i64 i := RepV.int (hq y (by simp [Op.operands]) _ hy : RepV h S (.int .i64) _ i); refine ⟨.int .u8 (byteE s i), RepV.ofInt _ _, fun _ _ _ _ _ H => ?_⟩; show (if af (evalO t y) then (runPure P (Instr.index T (evalO t x) (evalO t y))).map _ else none) = _; rw [hi, hv, if_pos (show af (Value.int .i64 i) = true from rfl)]
    have hb : i.toNat < s.size := by omega
    have h8 : s[i.toNat]? = some (s.get! i.toNat) := by
      rw [getElem?_pos s i.toNat hb]; congr 1; show s.data[i.toNat] = s.data[i.toNat]!; rw [getElem!_pos s.data i.toNat hb]
    have h9 : runPure P (Instr.index T (.string s) (.int .i64 i)) = some (.int .u8 (byteE s i)) := by
      unfold Instr.index; simp only [runPure_bind, asIntOf, runPure_pure, Option.bind_some, runPure_underlying hT, if_pos h0, h8]; rfl
    rw [h9]; rfl⟩
end Go.Fs
namespace Go.Fs
variable {P : Program} {orc : FuncId → List Value → Heap → Option (Value × Heap)} {fl : VL} {σ : Sto} {T T' e ty : TypeId} {τ : Ty} {ops : Array Oper} {n : Nat} {l : List Oper} {K : VL → Sto → Prop} {d : Tmp} {pos : String} {after : Array Edge} {g : Option (Nat × Bool)} {x y : Operand} {xs : List τ.den}
theorem agg_one {w : Value} (h : oneCell w = true) : isAggV w = false := by
  cases w <;> first | rfl | cases h
end Go.Fs
namespace Go.Fs
variable {P : Program} {orc : FuncId → List Value → Heap → Option (Value × Heap)} {h h1 h2 h' : Heap} {S S0 : List Nat} {σ γ σr : Sto} {fl : VL} {ops : Array Oper} {n : Nat} {l : List Oper} {K : VL → Sto → Prop} {d : Tmp} {ty : TypeId} {pos : String} {after : Array Edge} {g : Option (Nat × Bool)}
section
variable (P orc)
end
section
variable (P orc)
end
end Go.Fs
namespace Go.Fs
variable {P : Program} {orc : FuncId → List Value → Heap → Option (Value × Heap)} {h h' h0 h1 h2 : Heap} {S S' S0 B G : List Nat} {σ σ' σr : Sto} {t t' : Tr} {ms : List Nat} {fl : VL} {ops : Array Oper} {n i mem : Nat} {l : List Oper} {K : VL → Sto → Prop} {Q : Ex → VL → Sto → Prop}
  {d : Tmp} {ty : TypeId} {pos : String} {after : Array Edge} {op : Op} {v pv : PV} {g : Option (Nat × Bool)} {x y z : Operand} {T T' e : TypeId} {τ τ' : Ty} {w : Value}
section
variable {α : Type} [DecidableEq α] {dd : α} {xs : List α}
end
end Go.Fs
namespace Go.Fs
variable {α : Type}
structure Weak (lt : α → α → Bool) : Prop where
  asym : ∀ a b, lt a b = true → lt b a = false
  neg : ∀ a b c, lt a b = false → lt b c = false → lt a c = false
variable {lt : α → α → Bool}
def eqv (lt : α → α → Bool) (a b : α) : Bool := !lt a b && !lt b a
def SameEq (lt : α → α → Bool) (xs ys : List α) : Prop := ∀ a, xs.filter (eqv lt a) = ys.filter (eqv lt a)
variable {d : α}
abbrev at_ (xs : List α) (i : Nat) (d : α) : α := xs.getD i d
structure Seg (lt : α → α → Bool) (xs ys : List α) (a b : Nat) : Prop where
  len : ys.length = xs.length
  lo : ys.take a = xs.take a
  hi : ys.drop b = xs.drop b
  same : SameEq lt xs ys
theorem three (xs : List α) {a b : Nat} (h : a ≤ b) : xs = xs.take a ++ ((xs.take b).drop a ++ xs.drop b) := by
  conv => lhs; rw [← List.take_append_drop b xs]
  rw [← List.append_assoc]; congr 1
  conv => lhs; rw [← List.take_append_drop a (xs.take b)]
  rw [List.take_take, Nat.min_eq_left h]
structure Insd (lt : α → α → Bool) (d : α) (ys : List α) (a j i : Nat) : Prop where
  srt : ∀ p q, a ≤ p → p < q → q ≤ i → q ≠ j → p ≠ j → lt (ys.getD q d) (ys.getD p d) = false
  less : ∀ q, j < q → q ≤ i → lt (ys.getD j d) (ys.getD q d) = true
end Go.Fs
namespace Go.Fs
variable {α : Type} {lt : α → α → Bool} {d : α} {ys : List α} {a b m n s e i j k : Nat}
theorem four (h1 : s ≤ m) (h2 : m ≤ e) : ys = ys.take s ++ ((ys.drop s).take (m - s) ++ ((ys.drop m).take (e - m) ++ ys.drop e)) := by
  conv => lhs; rw [← List.take_append_drop s ys, ← List.take_append_drop (m - s) (ys.drop s), List.drop_drop, show s + (m - s) = m by omega, ← List.take_append_drop (e - m) (ys.drop m), List.drop_drop, show m + (e - m) = e by omega]
structure Cut (lt : α → α → Bool) (d : α) (ys : List α) (a m b s e : Nat) : Prop where
  le : s ≤ m ∧ m ≤ e ∧ a ≤ s ∧ e ≤ b
  lo : a < s → e < b → lt (ys.getD e d) (ys.getD (s - 1) d) = false
  hi : s < m → m < e → lt (ys.getD (e - 1) d) (ys.getD s d) = true
end Go.Fs
namespace Go.Fs
variable {P : Program} {orc : FuncId → List Value → Heap → Option (Value × Heap)} {h h' h0 h1 h2 : Heap} {S S' S0 B G : List Nat} {σ σ' σr : Sto} {t t' : Tr} {ms : List Nat} {fl : VL} {ops : Array Oper} {n i mem : Nat} {l : List Oper} {K : VL → Sto → Prop} {Q : Ex → VL → Sto → Prop}
  {d : Tmp} {ty : TypeId} {pos : String} {after : Array Edge} {op : Op} {v pv : PV} {g : Option (Nat × Bool)} {x y z : Operand} {T T' e : TypeId} {τ τ' : Ty} {w : Value}
end Go.Fs
namespace Go.Fs
variable {P : Program} {orc : FuncId → List Value → Heap → Option (Value × Heap)} {rnd : Option Nat} {h h' h0 h1 h2 : Heap} {S S' S0 B G : List Nat} {σ σ' σr : Sto} {t t' : Tr} {ms : List Nat} {fl : VL} {ops : Array Oper} {n i mem : Nat} {l : List Oper} {K : VL → Sto → Prop} {Q : Ex → VL → Sto → Prop}
  {d : Tmp} {ty : TypeId} {pos : String} {after : Array Edge} {op : Op} {v pv : PV} {g : Option (Nat × Bool)} {x y z : Operand} {T T' e : TypeId} {τ τ' : Ty} {w : Value}
theorem SlV.cellsOf {v : Value} {ys : List τ.den} (hv : SlV h S τ v ys) (hp : 0 < τ.size) : lenV v = some ys.length ∧ ∃ vs, Fs.cellsOf τ.size ys.length v h = some vs ∧ Elems h S τ vs ys := by
  rcases hv with ⟨rfl, rfl⟩ | ⟨b, o, mk, rfl, hv⟩
  · exact ⟨rfl, [], rfl, Elems.nil⟩
  refine ⟨rfl, ?_⟩
  have e1 : Nat.ble ys.length ys.length = true := by rw [Nat.ble_eq]; exact Nat.le_refl _
  by_cases hz : ys.length = 0
  · obtain rfl := List.eq_nil_of_length_eq_zero hz; refine ⟨[], ?_, Elems.nil⟩; simp only [Fs.cellsOf, List.length_nil, Nat.zero_mul]; rfl
  rcases hv with rfl | ⟨h1, e', rs, own, more, h2, h3, h4⟩
  · exact absurd rfl hz
  have e2 : Nat.beq (ys.length * τ.size) 0 = false := beq_no (Nat.ne_of_gt (Nat.mul_pos (Nat.pos_of_ne_zero hz) hp))
  have e3 : Nat.ble (o + ys.length * τ.size) rs.length = true := by rw [Nat.ble_eq]; exact h3
  refine ⟨(rs.drop o).take (ys.length * τ.size), ?_, ?_, fun i hi => ?_⟩
  · simp only [Fs.cellsOf, e1, cond_true, e2, cond_false, h2, e3]
  · rw [List.length_take, List.length_drop]; omega
  have h9 : (i + 1) * τ.size ≤ ys.length * τ.size := Nat.mul_le_mul_right _ hi; rw [Nat.add_mul, Nat.one_mul] at h9; have := h4 i hi; rw [List.drop_take, List.take_take, List.drop_drop, Nat.min_eq_left (by omega)]; exact this
end Go.Fs
namespace Go.Fs
variable {P : Program} {orc : FuncId → List Value → Heap → Option (Value × Heap)} {rnd : Option Nat} {h h' h0 h1 h2 : Heap} {S S' S0 B G : List Nat} {σ σ' σr : Sto} {t t' : Tr} {ms : List Nat} {fl : VL} {ops : Array Oper} {n i mem : Nat} {l : List Oper} {K : VL → Sto → Prop} {Q : Ex → VL → Sto → Prop}
  {d : Tmp} {ty : TypeId} {pos : String} {after : Array Edge} {op : Op} {v pv : PV} {g : Option (Nat × Bool)} {x y z : Operand} {T T' e : TypeId} {τ τ' : Ty} {w : Value}
inductive SetP : (τ : Ty) → τ.den → Nat → (τ' : Ty) → τ'.den → τ.den → Prop where
  | o {τ : Ty} {x y : τ.den} : SetP τ x 0 τ y y
  | l {a b : Ty} {x : (Ty.pair a b).den} {k : Nat} {τ' : Ty} {y : τ'.den} {z : a.den} (hs : SetP a x.1 k τ' y z) : SetP (.pair a b) x k τ' y (z, x.2)
  | r {a b : Ty} {x : (Ty.pair a b).den} {k k' : Nat} {τ' : Ty} {y : τ'.den} {z : b.den} (hs : SetP b x.2 k τ' y z) (hk : k' = a.size + k := by rfl) : SetP (.pair a b) x k' τ' y (x.1, z)
end Go.Fs
namespace Go.Fs
variable {P : Program} {orc : FuncId → List Value → Heap → Option (Value × Heap)} {rnd : Option Nat} {h h' h0 h1 h2 : Heap} {S S' S0 B G : List Nat} {σ σ' σr : Sto} {t t' : Tr} {ms : List Nat} {fl : VL} {ops : Array Oper} {n i mem : Nat} {l : List Oper} {K : VL → Sto → Prop} {Q : Ex → VL → Sto → Prop}
  {d : Tmp} {ty : TypeId} {pos : String} {after : Array Edge} {op : Op} {v pv : PV} {g : Option (Nat × Bool)} {x y z : Operand} {T T' e : TypeId} {τ τ' : Ty} {w : Value}
end Go.Fs
namespace Go.Fs
variable {P : Program} {orc : FuncId → List Value → Heap → Option (Value × Heap)} {rnd : Option Nat} {h h' h0 h1 h2 : Heap} {S S' S0 B G : List Nat} {σ σ' σr : Sto} {t t' : Tr} {ms : List Nat} {fl : VL} {ops : Array Oper} {n i mem : Nat} {l : List Oper} {K : VL → Sto → Prop} {Q : Ex → VL → Sto → Prop}
  {d : Tmp} {ty : TypeId} {pos : String} {after : Array Edge} {op : Op} {v pv : PV} {g : Option (Nat × Bool)} {x y z : Operand} {T T' e : TypeId} {τ τ' : Ty} {w : Value} {ρ : Sto} {bs nw : List Nat} {tl : Bool}
end Go.Fs
namespace Go.Fs
open Go.RowKit (Below)
open Go.Sort Go.Proofs
variable {P : Program}
variable {B : Nat} {w0 w w' : World} {ρ : Ren} {S : Nat → Prop} {h : Heap}
end Go.Fs
namespace Go.Fs
variable {P : Program} {O : FuncId → List Value → Heap → Option (Value × Heap)} {h h' : Heap} {S : List Nat}
end Go.Fs
namespace Go.Fs
open Go.RowKit (Below)
variable {P : Program}
end Go.Fs
namespace Go.Proofs
open Go.Fs
def OA := orcA 96 96 6
abbrev y60 : Ty := (.sl (.int .i64))
abbrev y127 : Ty := (.sl (.int .i64))
theorem vt3 : ValT Tryz.prog 3 (.int .i64) := valT_of (by kernel_rfl)
theorem vt29 : ValT Tryz.prog 29 (.int .i64) := valT_of (by kernel_rfl)
theorem el60 : ElT Tryz.prog 60 3 (.int .i64) := elT_of (by kernel_rfl)
theorem el127 : ElT Tryz.prog 127 29 (.int .i64) := elT_of (by kernel_rfl)
def whenE (c : Bool) (e : Int) : Int := bif c then e else 0
theorem gWhen_ok {c : Bool} {e : Int} : VF Tryz.prog OA 43 [B c, I e] (I (whenE c e)) := by
  refine VF.enter Tryz.func43 rfl (fun _ _ => rfl) rfl ?_; show VC _ _ _ _ _ [(0, B c), (1, I e)] [] _; refine VC.seq (VC.text ?_); refine VO.c (.assign rfl) ?_; refine VO.go (VC.seq (VC.seq (VC.text ?_))); refine VO.c (.move rfl) (VO.go ?_); refine VC.condB rfl (fun c1 => ?_) (fun c1 => ?_)
  · subst c1; refine VC.seq (VC.text ?_); refine VO.c (.move rfl) (VO.c (.assign rfl) (VO.go ?_)); refine VC.ret ?_; exact VEnd.one rfl evT (pvI (by rfl))
  subst c1; refine VC.skip (VC.seq (VC.text ?_)); refine VO.c (.assign rfl) (VO.go ?_); refine VC.ret ?_; exact VEnd.one rfl evT (pvI (by rfl))
def rangeE (n lo hi : Int) : Int := if n < lo ∨ hi < n then 3 else 0
theorem rCheckRange_ok {n : Int} {lo : Int} {hi : Int} : VF Tryz.prog OA 48 [I n, I lo, I hi] (I (rangeE n lo hi)) := by
  refine VF.enter Tryz.func48 rfl (fun _ _ => rfl) rfl ?_; show VC _ _ _ _ _ [(0, I n), (1, I lo), (2, I hi)] [] _; refine VC.seq (VC.text ?_); refine VO.c (.assign rfl) ?_; refine VO.go (VC.seq (VC.seq (VC.text ?_))); refine VO.c (.move rfl) (VO.c (.move rfl) (VO.c (.lss) (VO.c (.move rfl) ?_))); refine VO.cg (r := decide (n < lo)) (w := false) [] trivial (fun _ => (.move rfl)) ?_; refine VO.cg (r := decide (n < lo)) (w := false) [] trivial (fun _ => (.move rfl)) ?_; refine VO.cg (r := decide (n < lo)) (w := false) [(11, I n), (12, I hi)] ⟨rfl, rfl, trivial⟩ (fun _ => (.gtr)) ?_; refine VO.c (.or) (VO.go ?_); refine VC.condB rfl (fun c1 => ?_) (fun c1 => ?_)
  · try simp only [Bool.and_eq_true, Bool.or_eq_true, Bool.and_eq_false_iff, Bool.or_eq_false_iff, Bool.not_eq_true', Bool.not_eq_false', decide_eq_true_eq, decide_eq_false_iff_not] at c1
    refine VC.seq (VC.text ?_); refine VO.c (.assign rfl) (VO.go ?_); refine VC.ret ?_; exact VEnd.one rfl evT (pvI (by simp only [rangeE, ← Bool.decide_or, decide_eq_true_eq, decide_eq_false_iff_not, Bool.or_eq_true, Bool.or_eq_false_iff] at *; first | rw [if_pos (by omega)] | rw [if_neg (by omega)]))
  try simp only [Bool.and_eq_true, Bool.or_eq_true, Bool.and_eq_false_iff, Bool.or_eq_false_iff, Bool.not_eq_true', Bool.not_eq_false', decide_eq_true_eq, decide_eq_false_iff_not] at c1
  refine VC.skip (VC.seq (VC.text ?_)); refine VO.c (.assign rfl) (VO.go ?_); refine VC.ret ?_; exact VEnd.one rfl evT (pvI (by simp only [rangeE, ← Bool.decide_or, decide_eq_true_eq, decide_eq_false_iff_not, Bool.or_eq_true, Bool.or_eq_false_iff] at *; first | rw [if_pos (by omega)] | rw [if_neg (by omega)]))
theorem whenE_range {n lo hi : Int} : whenE (decide (n < lo) || decide (hi < n)) 3 = rangeE n lo hi := by
  unfold whenE rangeE; by_cases h1 : n < lo <;> by_cases h2 : hi < n <;> simp [h1, h2]
theorem gWithin_ok {n : Int} {lo : Int} {hi : Int} : VF Tryz.prog OA 74 [I n, I lo, I hi] (I (rangeE n lo hi)) := by
  refine VF.enter Tryz.func74 rfl (fun _ _ => rfl) rfl ?_; show VC _ _ _ _ _ [(0, I n), (1, I lo), (2, I hi)] [] _; refine VC.seq (VC.text ?_); refine VO.c (.assign rfl) ?_; refine VO.go (VC.seq (VC.text ?_)); refine VO.c (.move rfl) (VO.c (.move rfl) (VO.c (.lss) (VO.c (.move rfl) ?_))); refine VO.cg (r := decide (n < lo)) (w := false) [] trivial (fun _ => (.move rfl)) ?_; refine VO.cg (r := decide (n < lo)) (w := false) [] trivial (fun _ => (.move rfl)) ?_; refine VO.cg (r := decide (n < lo)) (w := false) [(11, I n), (12, I hi)] ⟨rfl, rfl, trivial⟩ (fun _ => (.gtr)) ?_; refine VO.c (.or) ?_; refine VO.call rfl rfl (VF.call (gWhen_ok )) ?_; refine VO.c (.assign rfl) (VO.go ?_); refine VC.ret ?_; exact VEnd.one rfl evT (pvI (by exact whenE_range))
def firstE : List Int → Int
  | [] => 0
  | x :: r => if x = 0 then firstE r else x
theorem firstE_drop {xs : List Int} {j : Nat} (hj : j < xs.length) : firstE (xs.drop j) = if xs[j] = 0 then firstE (xs.drop (j + 1)) else xs[j] := by
  rw [List.drop_eq_getElem_cons hj] <;> rfl
theorem firstE_end {xs : List Int} {j : Nat} (hj : xs.length ≤ j) : firstE (xs.drop j) = 0 := by rw [List.drop_eq_nil_of_le hj] <;> rfl
theorem gFirst_ok {l : List Int} (hl : l.length < 1000000) : VF Tryz.prog OA 42 [.v y127 l] (I (firstE l)) := by
  refine VF.enter Tryz.func42 rfl (fun _ _ => rfl) rfl ?_; show VC _ _ _ _ _ [(0, .v y127 l)] [] _; refine VC.seq (VC.text ?_); refine VO.c (.assign rfl) ?_; refine VO.go (VC.seq (VC.seq (VC.text ?_))); refine VO.c (.move rfl) ?_; refine VO.r (.len el127) ?_; refine VO.c (.move rfl) ?_; refine VO.go (VC.block ?_); refine VC.keep [(5, .v y127 l), (6, I ((l.length : Nat) : Int)), (7, I ((0 : Nat) : Int))] ⟨rfl, rfl, rfl, trivial⟩ ?_; refine VC.loop (I := fun kk ff ss => ∃ (j : Nat), kk = l.length - j ∧ ff = [(5, .v y127 l), (6, I ((l.length : Nat) : Int)), (7, I ((j : Nat) : Int))] ∧ ss = [] ∧ (j ≤ l.length) ∧ (firstE l = firstE (l.drop j))) ?_ _ _ _ ⟨0, rfl, rfl, rfl, Nat.zero_le _, (by rfl)⟩; rintro kk ff ss ⟨j, hk0, rfl, rfl, hj, hf⟩; refine VC.seq (VC.text ?_); refine VO.c (.lss) ?_; refine VO.go (VC.seq ?_); refine VC.condD rfl (fun c2 => ?_) (fun c2 => ?_)
  · refine VC.skip (VC.seq (VC.block (VC.seq (VC.text ?_)))); refine VO.c (.ix (j := j) rfl rfl el127 (by omega)) ?_; refine VO.r (.ld vt29) ?_; refine VO.c (.assign rfl) ?_; refine VO.go (VC.seq (VC.text ?_)); refine VO.c (.move rfl) (VO.c (.neq) (VO.go ?_)); refine VC.condD rfl (fun c4 => ?_) (fun c4 => ?_)
    · refine VC.seq (VC.text ?_); refine VO.c (.move rfl) (VO.c (.assign rfl) (VO.go ?_)); refine VC.ret ?_; exact VEnd.one rfl evT (pvI (by rw [hf, firstE_drop (by omega), if_neg c4]))
    refine VC.skip (VC.text ?_); refine VO.c (.add rfl rfl (by omega)) (VO.c (.move rfl) ?_); refine VO.nil ?_; refine ⟨_, [(5, .v y127 l), (6, I ((l.length : Nat) : Int)), (7, I (((j + 1) : Nat) : Int))], ?_, ⟨rfl, rfl, rfl, trivial⟩, (j + 1), rfl, rfl, rfl, (by omega), (by rw [hf, firstE_drop (by omega), if_pos (by simpa using c4)])⟩; omega
  refine VC.exit (VC.seq (VC.text ?_)); refine VO.c (.assign rfl) (VO.go ?_); refine VC.ret ?_; exact VEnd.one rfl evT (pvI (by rw [hf, firstE_end (by omega)]))
theorem rFirst_ok {l : List Int} (hl : l.length < 1000000) : VF Tryz.prog OA 46 [.v y60 l] (I (firstE l)) := by
  refine VF.enter Tryz.func46 rfl (fun _ _ => rfl) rfl ?_; show VC _ _ _ _ _ [(0, .v y60 l)] [] _; refine VC.seq (VC.text ?_); refine VO.c (.assign rfl) ?_; refine VO.go (VC.seq (VC.seq (VC.text ?_))); refine VO.c (.assign rfl) ?_; refine VO.go (VC.block ?_); refine VC.keep [(0, .v y60 l), (3, I ((0 : Nat) : Int))] ⟨rfl, rfl, trivial⟩ ?_; refine VC.loop (I := fun kk ff ss => ∃ (j : Nat), kk = l.length - j ∧ ff = [(0, .v y60 l), (3, I ((j : Nat) : Int))] ∧ ss = [] ∧ (j ≤ l.length) ∧ (firstE l = firstE (l.drop j))) ?_ _ _ _ ⟨0, rfl, rfl, rfl, Nat.zero_le _, (by rfl)⟩; rintro kk ff ss ⟨j, hk0, rfl, rfl, hj, hf⟩; refine VC.seq (VC.seq (VC.text ?_)); refine VO.c (.move rfl) (VO.c (.move rfl) ?_); refine VO.r (.len el60) ?_; refine VO.c (.lss) (VO.go ?_); refine VC.condD rfl (fun c2 => ?_) (fun c2 => ?_)
  · refine VC.skip (VC.seq (VC.block (VC.seq (VC.text ?_)))); refine VO.c (.move rfl) (VO.c (.move rfl) (VO.c (.ix (j := j) rfl rfl el60 (by omega)) ?_)); refine VO.r (.ld vt3) ?_; refine VO.c (.neq) (VO.go ?_); refine VC.condD rfl (fun c4 => ?_) (fun c4 => ?_)
    · refine VC.seq (VC.text ?_); refine VO.c (.move rfl) (VO.c (.move rfl) (VO.c (.ix (j := j) rfl rfl el60 (by omega)) ?_)); refine VO.r (.ld vt3) ?_; refine VO.c (.assign rfl) (VO.go ?_); refine VC.ret ?_; exact VEnd.one rfl evT (pvI (by rw [hf, firstE_drop (by omega), if_neg c4]))
    refine VC.skip (VC.text ?_); refine VO.c (.move rfl) (VO.c (.add rfl rfl (by omega)) (VO.c (.assign rfl) ?_)); refine VO.nil ?_; refine ⟨_, [(0, .v y60 l), (3, I (((j + 1) : Nat) : Int))], ?_, ⟨rfl, rfl, trivial⟩, (j + 1), rfl, rfl, rfl, (by omega), (by rw [hf, firstE_drop (by omega), if_pos (by simpa using c4)])⟩; omega
  refine VC.exit (VC.seq (VC.text ?_)); refine VO.c (.assign rfl) (VO.go ?_); refine VC.ret ?_; exact VEnd.one rfl evT (pvI (by rw [hf, firstE_end (by omega)]))
end Go.Proofs
namespace Go.Proofs
open Go.Fs Ieee
def letterB (c : Int) : Bool := decide (65 ≤ c ∧ c ≤ 90 ∨ 97 ≤ c ∧ c ≤ 122)
def otherB (c : Int) : Bool := decide (48 ≤ c ∧ c ≤ 57 ∨ c = 95)
def byteB (c : Int) (i : Nat) : Bool := letterB c || (decide (i ≠ 0) && otherB c)
def nameB (s : ByteArray) : Bool := decide (s.size ≠ 0 ∧ s.size ≤ 24 ∧ ∀ i, i < s.size → byteB (byteE s i) i = true)
theorem nameB_f {s : ByteArray} {i : Nat} (hi : i < s.size) (h : byteB (byteE s i) i = false) : false = nameB s := by
  refine (decide_eq_false fun hh => ?_).symm; rw [hh.2.2 i hi] at h; cases h
theorem nameB_t {s : ByteArray} (h1 : s.size ≠ 0) (h2 : s.size ≤ 24) (h : ∀ i, i < s.size → byteB (byteE s i) i = true) : true = nameB s := (decide_eq_true ⟨h1, h2, h⟩).symm
theorem size_empty {s : ByteArray} : s ≠ ByteArray.empty ↔ s.size ≠ 0 := by
  constructor
  · intro h e; exact h (ByteArray.ext (Array.eq_empty_of_size_eq_zero e))
  rintro h rfl; exact h rfl
theorem byteB_high {c : Int} {i : Nat} (h : 128 ≤ c) : byteB c i = false := by
  have h1 : letterB c = false := decide_eq_false (by omega); have h2 : otherB c = false := decide_eq_false (by omega); rw [byteB, h1, h2]; simp
theorem rune_f {s : ByteArray} {p : Nat} (h : byteB ((Utf8.decode s p).1 : Nat) p = false) : byteB (byteE s p) p = false := by
  by_cases hl : (s.get! p).toNat < 128
  · rw [decode_low hl] at h; exact h
  exact byteB_high (by rw [byteE_nat]; omega)
theorem rune_t {s : ByteArray} {p : Nat} (h : byteB ((Utf8.decode s p).1 : Nat) p = true) : byteB (byteE s p) p = true ∧ (Utf8.decode s p).2 = 1 := by
  by_cases hl : (s.get! p).toNat < 128
  · rw [decode_low hl] at h ⊢; exact ⟨h, rfl⟩
  have := Go.Fs.decode_high hl; rw [byteB_high (by omega)] at h; cases h
theorem name_end {s : ByteArray} (h : ∀ i, i < s.size → byteB (byteE s i) i = true) : (decide (s ≠ ByteArray.empty) && decide (((s.size : Nat) : Int) ≤ 24)) = nameB s := by
  rw [← Bool.decide_and]; exact decide_eq_decide.2 ⟨fun hh => ⟨size_empty.1 hh.1, by omega, h⟩, fun hh => ⟨size_empty.2 hh.1, by omega⟩⟩
theorem gName_ok {s : ByteArray} : VF Tryz.prog OA 82 [St s] (B (nameB s)) := by
  refine VF.enter Tryz.func82 rfl (fun _ _ => rfl) rfl ?_; show VC _ _ _ _ _ [(0, St s)] [] _; refine VC.seq (VC.text ?_); refine VO.c (.assign rfl) ?_; refine VO.go (VC.seq (VC.seq (VC.text ?_))); refine VO.c (.move rfl) ?_; refine VO.cell (.rng) ?_; intro ww1; refine VO.go (VC.block ?_); refine VC.keep [(0, St s), (8, .raw ww1)] ⟨rfl, rfl, trivial⟩ ?_; refine VC.loop (I := fun kk ff ss => ∃ (p : Nat), kk = s.size - p ∧ ff = [(0, St s), (8, .raw ww1)] ∧ ss = [(ww1, .it s p)] ∧ (p ≤ s.size) ∧ (∀ i, i < p → byteB (byteE s i) i = true)) ?_ _ _ _ ⟨0, rfl, rfl, rfl, Nat.zero_le _, (by intro i hi; omega)⟩; rintro kk ff ss ⟨p, hk0, rfl, rfl, hp, hq⟩; refine VC.seq (VC.text ?_); refine VO.next rfl (fun h2_0 => ?_) (fun h2_0 => ?_)
  · refine VO.c (.extract) ?_; refine VO.go (VC.seq ?_); refine VC.condT rfl ?_; refine VC.skip (VC.block (VC.seq (VC.text ?_))); refine VO.c (.extract) (VO.c (.extract) (VO.c (.assign rfl) (VO.c (.assign rfl) ?_))); refine VO.go (VC.seq ?_); refine VC.join [(0, St s), (3, I ((p : Nat) : Int)), (4, .v (.int .i32) (((Utf8.decode s p).1 : Nat) : Int)), (5, B (letterB ((Utf8.decode s p).1 : Nat))), (8, .raw ww1)] [(ww1, .it s (p + (Utf8.decode s p).2))] ?_ ?_
    · skip
      refine VC.text ?_; refine VO.c (.move rfl) (VO.c (.geq) (VO.c (.move rfl) ?_)); refine VO.splitD (x := 15) rfl (fun g4_2 => ?_) (fun g4_2 => ?_)
      · refine VO.c (.move rfl) (VO.c (.leq) (VO.c (.pickT rfl rfl) (VO.c (.move rfl) ?_))); refine VO.splitD (x := 19) rfl (fun g4_6 => ?_) (fun g4_6 => ?_)
        · refine VO.skip (VO.skip (VO.skip (VO.skip ?_))); refine VO.skip (VO.skip (VO.c (.pickT rfl rfl) (VO.c (.assign rfl) ?_))); refine VO.nil ?_; exact ⟨⟨rfl, rfl, rfl, slE rfl (by rw [Bool.eq_iff_iff]; simp [letterB] <;> omega), rfl, trivial⟩, rfl⟩
        refine VO.c (.move rfl) (VO.c (.geq) (VO.c (.move rfl) ?_)); refine VO.cg (r := decide ((97 : Int) ≤ (((Utf8.decode s p).1 : Nat) : Int))) (w := true) [] trivial (fun _ => (.move rfl)) ?_; refine VO.cg (r := decide ((97 : Int) ≤ (((Utf8.decode s p).1 : Nat) : Int))) (w := true) [(23, .v (.int .i32) (((Utf8.decode s p).1 : Nat) : Int))] ⟨rfl, trivial⟩ (fun _ => (.leq)) ?_; refine VO.c (.and) (VO.c (.pickF rfl rfl) (VO.c (.assign rfl) ?_)); refine VO.nil ?_; exact ⟨⟨rfl, rfl, rfl, slE rfl (by rw [Bool.eq_iff_iff]; simp [letterB] <;> omega), rfl, trivial⟩, rfl⟩
      refine VO.skip (VO.skip (VO.c (.pickF rfl rfl) (VO.c (.move rfl) ?_))); refine VO.c (.move rfl) (VO.c (.geq) (VO.c (.move rfl) ?_)); refine VO.cg (r := decide ((97 : Int) ≤ (((Utf8.decode s p).1 : Nat) : Int))) (w := true) [] trivial (fun _ => (.move rfl)) ?_; refine VO.cg (r := decide ((97 : Int) ≤ (((Utf8.decode s p).1 : Nat) : Int))) (w := true) [(23, .v (.int .i32) (((Utf8.decode s p).1 : Nat) : Int))] ⟨rfl, trivial⟩ (fun _ => (.leq)) ?_; refine VO.c (.and) (VO.c (.pickF rfl rfl) (VO.c (.assign rfl) ?_)); refine VO.nil ?_; exact ⟨⟨rfl, rfl, rfl, slE rfl (by rw [Bool.eq_iff_iff]; simp [letterB] <;> omega), rfl, trivial⟩, rfl⟩
    refine VC.seq ?_; refine VC.join [(0, St s), (3, I ((p : Nat) : Int)), (5, B (letterB ((Utf8.decode s p).1 : Nat))), (6, B (otherB ((Utf8.decode s p).1 : Nat))), (8, .raw ww1)] [(ww1, .it s (p + (Utf8.decode s p).2))] ?_ ?_
    · skip
      refine VC.text ?_; refine VO.c (.move rfl) (VO.c (.geq) (VO.c (.move rfl) ?_)); refine VO.splitD (x := 29) rfl (fun g5_2 => ?_) (fun g5_2 => ?_)
      · refine VO.c (.move rfl) (VO.c (.leq) (VO.c (.pickT rfl rfl) (VO.c (.move rfl) ?_))); refine VO.cg (r := decide ((((Utf8.decode s p).1 : Nat) : Int) ≤ (57 : Int))) (w := false) [] trivial (fun _ => (.move rfl)) ?_; refine VO.cg (r := decide ((((Utf8.decode s p).1 : Nat) : Int) ≤ (57 : Int))) (w := false) [(34, .v (.int .i32) (((Utf8.decode s p).1 : Nat) : Int))] ⟨rfl, trivial⟩ (fun _ => (.eql)) ?_; refine VO.c (.or) (VO.c (.assign rfl) ?_); refine VO.nil ?_; exact ⟨⟨rfl, rfl, rfl, slE rfl (by rw [Bool.eq_iff_iff]; simp [otherB] <;> omega), rfl, trivial⟩, rfl⟩
      refine VO.skip (VO.skip (VO.c (.pickF rfl rfl) (VO.c (.move rfl) ?_))); refine VO.c (.move rfl) (VO.c (.eql) (VO.c (.pickF rfl rfl) (VO.c (.assign rfl) ?_))); refine VO.nil ?_; exact ⟨⟨rfl, rfl, rfl, slE rfl (by rw [Bool.eq_iff_iff]; simp [otherB] <;> omega), rfl, trivial⟩, rfl⟩
    refine VC.seq ?_; refine VC.join [(0, St s), (8, .raw ww1), (46, B (!byteB ((Utf8.decode s p).1 : Nat) p))] [(ww1, .it s (p + (Utf8.decode s p).2))] ?_ ?_
    · skip
      refine VC.text ?_; refine VO.c (.move rfl) (VO.c (.not) (VO.c (.move rfl) ?_)); refine VO.splitB (x := 39) rfl (fun g6_2 => ?_) (fun g6_2 => ?_)
      · try simp only [Bool.and_eq_true, Bool.or_eq_true, Bool.and_eq_false_iff, Bool.or_eq_false_iff, Bool.not_eq_true', Bool.not_eq_false', decide_eq_true_eq, decide_eq_false_iff_not] at g6_2
        refine VO.c (.move rfl) (VO.c (.eql) (VO.c (.move rfl) ?_)); refine VO.cg (r := decide (((p : Nat) : Int) = (0 : Int))) (w := false) [] trivial (fun _ => (.move rfl)) ?_; refine VO.cg (r := decide (((p : Nat) : Int) = (0 : Int))) (w := false) [(43, B (otherB ((Utf8.decode s p).1 : Nat)))] ⟨rfl, trivial⟩ (fun _ => (.not)) ?_; refine VO.c (.or) (VO.c (.pickT rfl rfl) ?_); refine VO.nil ?_; exact ⟨⟨rfl, rfl, slE rfl (by simp [byteB, *]), trivial⟩, rfl⟩
      try simp only [Bool.and_eq_true, Bool.or_eq_true, Bool.and_eq_false_iff, Bool.or_eq_false_iff, Bool.not_eq_true', Bool.not_eq_false', decide_eq_true_eq, decide_eq_false_iff_not] at g6_2
      refine VO.skip (VO.skip (VO.skip (VO.skip ?_))); refine VO.skip (VO.skip (VO.c (.pickF rfl rfl) ?_)); refine VO.nil ?_; exact ⟨⟨rfl, rfl, slE rfl (by simp [byteB, *]), trivial⟩, rfl⟩
    refine VC.condB rfl (fun c6 => ?_) (fun c6 => ?_)
    · try simp only [Bool.and_eq_true, Bool.or_eq_true, Bool.and_eq_false_iff, Bool.or_eq_false_iff, Bool.not_eq_true', Bool.not_eq_false', decide_eq_true_eq, decide_eq_false_iff_not] at c6
      refine VC.seq (VC.text ?_); refine VO.c (.assign rfl) (VO.go ?_); refine VC.ret ?_; exact VEnd.one rfl evT (pvE (by exact nameB_f h2_0 (rune_f c6)))
    try simp only [Bool.and_eq_true, Bool.or_eq_true, Bool.and_eq_false_iff, Bool.or_eq_false_iff, Bool.not_eq_true', Bool.not_eq_false', decide_eq_true_eq, decide_eq_false_iff_not] at c6
    refine VC.skip ?_; refine ⟨_, [(0, St s), (8, .raw ww1)], ?_, ⟨rfl, rfl, trivial⟩, (p + 1), rfl, rfl, (by rw [(rune_t c6).2]), (by omega), (by intro i hi; rcases Nat.lt_succ_iff_lt_or_eq.1 hi with h | h; exact hq i h; subst h; exact (rune_t c6).1)⟩; omega
  refine VO.c (.ext0) ?_; refine VO.go (VC.seq ?_); refine VC.condF rfl ?_; refine VC.exit (VC.seq (VC.text ?_)); refine VO.c (.move rfl) (VO.c (.sneq) (VO.c (.move rfl) ?_)); refine VO.cg (r := decide (s ≠ ByteArray.empty)) (w := true) [] trivial (fun _ => (.move rfl)) ?_; refine VO.rg (r := decide (s ≠ ByteArray.empty)) (w := true) [(50, St s)] ⟨rfl, trivial⟩ (fun _ => (.lenS)) ?_; refine VO.cg (r := decide (s ≠ ByteArray.empty)) (w := true) [(51, I ((s.size : Nat) : Int))] ⟨rfl, trivial⟩ (fun _ => (.leq)) ?_; refine VO.c (.and) (VO.c (.assign rfl) (VO.go ?_)); refine VC.ret ?_; exact VEnd.one rfl evT (pvE (by exact name_end (fun i hi => hq i (by omega))))
theorem rName_ok {s : ByteArray} : VF Tryz.prog OA 90 [St s] (B (nameB s)) := by
  refine VF.enter Tryz.func90 rfl (fun _ _ => rfl) rfl ?_; show VC _ _ _ _ _ [(0, St s)] [] _; refine VC.seq (VC.text ?_); refine VO.c (.assign rfl) ?_; refine VO.go (VC.seq (VC.seq (VC.text ?_))); refine VO.c (.move rfl) ?_; refine VO.r (.lenS) ?_; refine VO.c (.eql) (VO.c (.move rfl) ?_); refine VO.cg (r := decide (((s.size : Nat) : Int) = (0 : Int))) (w := false) [] trivial (fun _ => (.move rfl)) ?_; refine VO.rg (r := decide (((s.size : Nat) : Int) = (0 : Int))) (w := false) [(9, St s)] ⟨rfl, trivial⟩ (fun _ => (.lenS)) ?_; refine VO.cg (r := decide (((s.size : Nat) : Int) = (0 : Int))) (w := false) [(10, I ((s.size : Nat) : Int))] ⟨rfl, trivial⟩ (fun _ => (.gtr)) ?_; refine VO.c (.or) (VO.go ?_); refine VC.condB rfl (fun c1 => ?_) (fun c1 => ?_)
  · try simp only [Bool.and_eq_true, Bool.or_eq_true, Bool.and_eq_false_iff, Bool.or_eq_false_iff, Bool.not_eq_true', Bool.not_eq_false', decide_eq_true_eq, decide_eq_false_iff_not] at c1
    refine VC.seq (VC.text ?_); refine VO.c (.assign rfl) (VO.go ?_); refine VC.ret ?_; exact VEnd.one rfl evT (pvE (by exact (decide_eq_false fun hh => by have := hh.1; have := hh.2.1; omega).symm))
  try simp only [Bool.and_eq_true, Bool.or_eq_true, Bool.and_eq_false_iff, Bool.or_eq_false_iff, Bool.not_eq_true', Bool.not_eq_false', decide_eq_true_eq, decide_eq_false_iff_not] at c1
  refine VC.skip (VC.seq (VC.seq (VC.text ?_))); refine VO.c (.assign rfl) ?_; refine VO.go (VC.block ?_); refine VC.keep [(0, St s), (3, I ((0 : Nat) : Int))] ⟨rfl, rfl, trivial⟩ ?_; refine VC.loop (I := fun kk ff ss => ∃ (i : Nat), kk = s.size - i ∧ ff = [(0, St s), (3, I ((i : Nat) : Int))] ∧ ss = [] ∧ (i ≤ s.size) ∧ (∀ k, k < i → byteB (byteE s k) k = true)) ?_ _ _ _ ⟨0, rfl, rfl, rfl, Nat.zero_le _, (by intro k hk; omega)⟩; rintro kk ff ss ⟨i, hk0, rfl, rfl, hi, hq⟩; refine VC.seq (VC.seq (VC.text ?_)); refine VO.c (.move rfl) (VO.c (.move rfl) ?_); refine VO.r (.lenS) ?_; refine VO.c (.lss) (VO.go ?_); refine VC.condD rfl (fun c4 => ?_) (fun c4 => ?_)
  · refine VC.skip (VC.seq (VC.block (VC.seq (VC.text ?_)))); refine VO.c (.move rfl) (VO.c (.move rfl) (VO.c (.ixS rfl rfl (by omega) (by omega)) (VO.c (.assign rfl) ?_))); refine VO.go (VC.seq (VC.seq ?_)); refine VC.join [(0, St s), (3, I ((i : Nat) : Int)), (4, .v (.int .u8) (byteE s ((i : Nat) : Int))), (35, B (letterB (byteE s i)))] [] ?_ ?_
    · skip
      refine VC.text ?_; refine VO.c (.move rfl) (VO.c (.geq) (VO.c (.move rfl) ?_)); refine VO.splitD (x := 24) rfl (fun g7_2 => ?_) (fun g7_2 => ?_)
      · refine VO.c (.move rfl) (VO.c (.leq) (VO.c (.pickT rfl rfl) (VO.c (.move rfl) ?_))); refine VO.splitD (x := 28) rfl (fun g7_6 => ?_) (fun g7_6 => ?_)
        · refine VO.skip (VO.skip (VO.skip (VO.skip ?_))); refine VO.skip (VO.skip (VO.c (.pickT rfl rfl) ?_)); refine VO.nil ?_; exact ⟨⟨rfl, rfl, rfl, slE rfl (by rw [Bool.eq_iff_iff]; simp [letterB] <;> omega), trivial⟩, rfl⟩
        refine VO.c (.move rfl) (VO.c (.geq) (VO.c (.move rfl) ?_)); refine VO.cg (r := decide ((65 : Int) ≤ (byteE s ((i : Nat) : Int)))) (w := true) [] trivial (fun _ => (.move rfl)) ?_; refine VO.cg (r := decide ((65 : Int) ≤ (byteE s ((i : Nat) : Int)))) (w := true) [(32, .v (.int .u8) (byteE s ((i : Nat) : Int)))] ⟨rfl, trivial⟩ (fun _ => (.leq)) ?_; refine VO.c (.and) (VO.c (.pickF rfl rfl) ?_); refine VO.nil ?_; exact ⟨⟨rfl, rfl, rfl, slE rfl (by rw [Bool.eq_iff_iff]; simp [letterB] <;> omega), trivial⟩, rfl⟩
      refine VO.skip (VO.skip (VO.c (.pickF rfl rfl) (VO.c (.move rfl) ?_))); refine VO.c (.move rfl) (VO.c (.geq) (VO.c (.move rfl) ?_)); refine VO.cg (r := decide ((65 : Int) ≤ (byteE s ((i : Nat) : Int)))) (w := true) [] trivial (fun _ => (.move rfl)) ?_; refine VO.cg (r := decide ((65 : Int) ≤ (byteE s ((i : Nat) : Int)))) (w := true) [(32, .v (.int .u8) (byteE s ((i : Nat) : Int)))] ⟨rfl, trivial⟩ (fun _ => (.leq)) ?_; refine VO.c (.and) (VO.c (.pickF rfl rfl) ?_); refine VO.nil ?_; exact ⟨⟨rfl, rfl, rfl, slE rfl (by rw [Bool.eq_iff_iff]; simp [letterB] <;> omega), trivial⟩, rfl⟩
    refine VC.condB rfl (fun c7 => ?_) (fun c7 => ?_)
    · have hok : byteB (byteE s i) i = true := by rw [byteB, c7] <;> rfl
      refine VC.exit (VC.text ?_); refine VO.c (.move rfl) (VO.c (.add rfl rfl (by omega)) (VO.c (.assign rfl) ?_)); refine VO.nil ?_; refine ⟨_, [(0, St s), (3, I (((i + 1) : Nat) : Int))], ?_, ⟨rfl, rfl, trivial⟩, (i + 1), rfl, rfl, rfl, (by omega), (by intro k hk; rcases Nat.lt_succ_iff_lt_or_eq.1 hk with h | h; exact hq k h; subst h; exact hok)⟩; omega
    refine VC.skip (VC.seq ?_); refine VC.join [(0, St s), (3, I ((i : Nat) : Int)), (49, B (!(decide (i ≠ 0) && otherB (byteE s i))))] [] ?_ ?_
    · skip
      refine VC.text ?_; refine VO.c (.move rfl) (VO.c (.eql) (VO.c (.move rfl) ?_)); refine VO.splitD (x := 38) rfl (fun g8_2 => ?_) (fun g8_2 => ?_)
      · refine VO.skip (VO.skip (VO.skip (VO.skip ?_))); refine VO.skip (VO.skip (VO.skip (VO.skip ?_))); refine VO.skip (VO.skip (VO.c (.pickT rfl rfl) ?_)); refine VO.nil ?_; exact ⟨⟨rfl, rfl, slE rfl (by rw [Bool.eq_iff_iff]; simp [otherB] <;> omega), trivial⟩, rfl⟩
      refine VO.c (.move rfl) (VO.c (.neq) (VO.c (.move rfl) ?_)); refine VO.splitD (x := 41) rfl (fun g8_5 => ?_) (fun g8_5 => ?_)
      · refine VO.c (.move rfl) (VO.c (.lss) (VO.c (.move rfl) ?_)); refine VO.cg (r := decide ((byteE s ((i : Nat) : Int)) < (48 : Int))) (w := false) [] trivial (fun _ => (.move rfl)) ?_; refine VO.cg (r := decide ((byteE s ((i : Nat) : Int)) < (48 : Int))) (w := false) [(45, .v (.int .u8) (byteE s ((i : Nat) : Int)))] ⟨rfl, trivial⟩ (fun _ => (.gtr)) ?_; refine VO.c (.or) (VO.c (.pickT rfl rfl) (VO.c (.pickF rfl rfl) ?_)); refine VO.nil ?_; exact ⟨⟨rfl, rfl, slE rfl (by rw [Bool.eq_iff_iff]; simp [otherB] <;> omega), trivial⟩, rfl⟩
      refine VO.skip (VO.skip (VO.skip (VO.skip ?_))); refine VO.skip (VO.skip (VO.c (.pickF rfl rfl) (VO.c (.pickF rfl rfl) ?_))); refine VO.nil ?_; exact ⟨⟨rfl, rfl, slE rfl (by rw [Bool.eq_iff_iff]; simp [otherB] <;> omega), trivial⟩, rfl⟩
    refine VC.condB rfl (fun c8 => ?_) (fun c8 => ?_)
    · try simp only [Bool.and_eq_true, Bool.or_eq_true, Bool.and_eq_false_iff, Bool.or_eq_false_iff, Bool.not_eq_true', Bool.not_eq_false', decide_eq_true_eq, decide_eq_false_iff_not] at c8
      refine VC.seq (VC.text ?_); refine VO.c (.assign rfl) (VO.go ?_); refine VC.ret ?_; exact VEnd.one rfl evT (pvE (by exact nameB_f (i := i) (by omega) (by simp only [byteB, c7, Bool.false_or, Bool.and_eq_false_iff, decide_eq_false_iff_not]; exact c8)))
    try simp only [Bool.and_eq_true, Bool.or_eq_true, Bool.and_eq_false_iff, Bool.or_eq_false_iff, Bool.not_eq_true', Bool.not_eq_false', decide_eq_true_eq, decide_eq_false_iff_not] at c8
    have hok : byteB (byteE s i) i = true := by simp [byteB, *]
    refine VC.skip (VC.text ?_); refine VO.c (.move rfl) (VO.c (.add rfl rfl (by omega)) (VO.c (.assign rfl) ?_)); refine VO.nil ?_; refine ⟨_, [(0, St s), (3, I (((i + 1) : Nat) : Int))], ?_, ⟨rfl, rfl, trivial⟩, (i + 1), rfl, rfl, rfl, (by omega), (by intro k hk; rcases Nat.lt_succ_iff_lt_or_eq.1 hk with h | h; exact hq k h; subst h; exact hok)⟩; omega
  refine VC.exit (VC.seq (VC.text ?_)); refine VO.c (.assign rfl) (VO.go ?_); refine VC.ret ?_; exact VEnd.one rfl evT (pvE (by exact nameB_t (by omega) (by omega) (fun k hk => hq k (by omega))))
theorem rNameE_ok {s : ByteArray} : VF Tryz.prog OA 47 [St s] (I (whenE (!nameB s) 8)) := by
  refine VF.enter Tryz.func47 rfl (fun _ _ => rfl) rfl ?_; show VC _ _ _ _ _ [(0, St s)] [] _; refine VC.seq (VC.text ?_); refine VO.c (.assign rfl) ?_; refine VO.go (VC.seq (VC.seq (VC.text ?_))); refine VO.c (.move rfl) ?_; refine VO.call rfl rfl (VF.call (rName_ok )) ?_; refine VO.c (.not) (VO.go ?_); refine VC.condB rfl (fun c1 => ?_) (fun c1 => ?_)
  · try simp only [Bool.and_eq_true, Bool.or_eq_true, Bool.and_eq_false_iff, Bool.or_eq_false_iff, Bool.not_eq_true', Bool.not_eq_false', decide_eq_true_eq, decide_eq_false_iff_not] at c1
    refine VC.seq (VC.text ?_); refine VO.c (.assign rfl) (VO.go ?_); refine VC.ret ?_; exact VEnd.one rfl evT (pvI (by simp [whenE, *]))
  try simp only [Bool.and_eq_true, Bool.or_eq_true, Bool.and_eq_false_iff, Bool.or_eq_false_iff, Bool.not_eq_true', Bool.not_eq_false', decide_eq_true_eq, decide_eq_false_iff_not] at c1
  refine VC.skip (VC.seq (VC.text ?_)); refine VO.c (.assign rfl) (VO.go ?_); refine VC.ret ?_; exact VEnd.one rfl evT (pvI (by simp [whenE, *]))
end Go.Proofs
namespace Go.Proofs
open Go.Fs
abbrev y53 : Ty := (.pair (.int .i64) (.int .i64))
def spanE (p : Int × Int) : Int := if p.1 < 0 ∨ p.2 ≤ p.1 ∨ 100000 < p.2 then 14 else 0
theorem whenE_span {p : Int × Int} : whenE (decide (p.1 < 0) || decide (p.2 ≤ p.1) || decide (100000 < p.2)) 14 = spanE p := by
  unfold whenE spanE; by_cases h1 : p.1 < 0 <;> by_cases h2 : p.2 ≤ p.1 <;> by_cases h3 : 100000 < p.2 <;> simp [h1, h2, h3]
theorem gSpan_ok {p : Int × Int} : VF Tryz.prog OA 113 [.v y53 p] (I (spanE p)) := by
  refine VF.enter Tryz.func113 rfl (fun _ _ => rfl) rfl ?_; show VC _ _ _ _ _ [(0, .v y53 p)] [] _; refine VC.seq (VC.text ?_); refine VO.new (.box) ?_; refine VO.c (.assign rfl) ?_; refine VO.go (VC.seq (VC.text ?_)); refine VO.c (.fa (.l .o)) ?_; refine VO.r (.ld vt3) ?_; refine VO.c (.lss) (VO.c (.move rfl) ?_); refine VO.cg (r := decide (p.1 < (0 : Int))) (w := false) [] trivial (fun _ => (.fa (.l .o))) ?_; refine VO.rg (r := decide (p.1 < (0 : Int))) (w := false) [(7, .p (.int .i64) p.1)] ⟨rfl, trivial⟩ (fun _ => (.ld vt3)) ?_; refine VO.cg (r := decide (p.1 < (0 : Int))) (w := false) [] trivial (fun _ => (.fa (.r (k := 0) .o))) ?_; refine VO.rg (r := decide (p.1 < (0 : Int))) (w := false) [(9, .p (.int .i64) p.2)] ⟨rfl, trivial⟩ (fun _ => (.ld vt3)) ?_; refine VO.cg (r := decide (p.1 < (0 : Int))) (w := false) [(8, I p.1), (10, I p.2)] ⟨rfl, rfl, trivial⟩ (fun _ => (.geq)) ?_; refine VO.c (.or) (VO.c (.move rfl) ?_); refine VO.cg (r := ((decide (p.1 < (0 : Int))) || (decide (p.2 ≤ p.1)))) (w := false) [] trivial (fun _ => (.fa (.r (k := 0) .o))) ?_; refine VO.rg (r := ((decide (p.1 < (0 : Int))) || (decide (p.2 ≤ p.1)))) (w := false) [(14, .p (.int .i64) p.2)] ⟨rfl, trivial⟩ (fun _ => (.ld vt3)) ?_; refine VO.cg (r := ((decide (p.1 < (0 : Int))) || (decide (p.2 ≤ p.1)))) (w := false) [(15, I p.2)] ⟨rfl, trivial⟩ (fun _ => (.gtr)) ?_; refine VO.c (.or) ?_; refine VO.call rfl rfl (VF.call (gWhen_ok )) ?_; refine VO.c (.assign rfl) (VO.go ?_); refine VC.ret ?_; exact VEnd.one rfl evT (pvI (by exact whenE_span))
theorem rSpan_ok {p : Int × Int} : VF Tryz.prog OA 94 [.v y53 p] (I (spanE p)) := by
  refine VF.enter Tryz.func94 rfl (fun _ _ => rfl) rfl ?_; show VC _ _ _ _ _ [(0, .v y53 p)] [] _; refine VC.seq (VC.text ?_); refine VO.new (.box) ?_; refine VO.c (.assign rfl) ?_; refine VO.go (VC.seq (VC.seq (VC.text ?_))); refine VO.c (.fa (.l .o)) ?_; refine VO.r (.ld vt3) ?_; refine VO.c (.lss) (VO.c (.move rfl) ?_); refine VO.cg (r := decide (p.1 < (0 : Int))) (w := false) [] trivial (fun _ => (.fa (.r (k := 0) .o))) ?_; refine VO.rg (r := decide (p.1 < (0 : Int))) (w := false) [(7, .p (.int .i64) p.2)] ⟨rfl, trivial⟩ (fun _ => (.ld vt3)) ?_; refine VO.cg (r := decide (p.1 < (0 : Int))) (w := false) [] trivial (fun _ => (.fa (.l .o))) ?_; refine VO.rg (r := decide (p.1 < (0 : Int))) (w := false) [(9, .p (.int .i64) p.1)] ⟨rfl, trivial⟩ (fun _ => (.ld vt3)) ?_; refine VO.cg (r := decide (p.1 < (0 : Int))) (w := false) [(8, I p.2), (10, I p.1)] ⟨rfl, rfl, trivial⟩ (fun _ => (.leq)) ?_; refine VO.c (.or) (VO.c (.move rfl) ?_); refine VO.cg (r := ((decide (p.1 < (0 : Int))) || (decide (p.2 ≤ p.1)))) (w := false) [] trivial (fun _ => (.fa (.r (k := 0) .o))) ?_; refine VO.rg (r := ((decide (p.1 < (0 : Int))) || (decide (p.2 ≤ p.1)))) (w := false) [(14, .p (.int .i64) p.2)] ⟨rfl, trivial⟩ (fun _ => (.ld vt3)) ?_; refine VO.cg (r := ((decide (p.1 < (0 : Int))) || (decide (p.2 ≤ p.1)))) (w := false) [(15, I p.2)] ⟨rfl, trivial⟩ (fun _ => (.gtr)) ?_; refine VO.c (.or) (VO.go ?_); refine VC.condB rfl (fun c1 => ?_) (fun c1 => ?_)
  · try simp only [Bool.and_eq_true, Bool.or_eq_true, Bool.and_eq_false_iff, Bool.or_eq_false_iff, Bool.not_eq_true', Bool.not_eq_false', decide_eq_true_eq, decide_eq_false_iff_not] at c1
    refine VC.seq (VC.text ?_); refine VO.c (.assign rfl) (VO.go ?_); refine VC.ret ?_; exact VEnd.one rfl evT (pvI (by simp only [spanE, ← Bool.decide_or, decide_eq_true_eq, decide_eq_false_iff_not, Bool.or_eq_true, Bool.or_eq_false_iff] at *; first | rw [if_pos (by omega)] | rw [if_neg (by omega)]))
  try simp only [Bool.and_eq_true, Bool.or_eq_true, Bool.and_eq_false_iff, Bool.or_eq_false_iff, Bool.not_eq_true', Bool.not_eq_false', decide_eq_true_eq, decide_eq_false_iff_not] at c1
  refine VC.skip (VC.seq (VC.text ?_)); refine VO.c (.assign rfl) (VO.go ?_); refine VC.ret ?_; exact VEnd.one rfl evT (pvI (by simp only [spanE, ← Bool.decide_or, decide_eq_true_eq, decide_eq_false_iff_not, Bool.or_eq_true, Bool.or_eq_false_iff] at *; first | rw [if_pos (by omega)] | rw [if_neg (by omega)]))
end Go.Proofs
namespace Go.Proofs.Sp
abbrev Sp := Int × Int
def inL (l : List Sp) (t : Int) : Bool := l.any fun s => decide (s.1 ≤ t) && decide (t < s.2)
def Canon (m : Int) (l : List Sp) : Prop := (∀ s ∈ l, 0 ≤ s.1 ∧ s.1 < s.2 ∧ s.2 ≤ m) ∧ l.Pairwise fun s u => s.2 < u.1
def edgeE (l : List Sp) (d : Int) : List (Int × Int) := l.flatMap fun s => [(s.1, d), (s.2, -d)]
def sumTo : List (Int × Int) → Int → Int
  | [], _ => 0
  | e :: r, t => (if e.1 ≤ t then e.2 else 0) + sumTo r t
def scan1 (p : Int → Bool) (t : Int) (S : Int × List Sp) : Int × List Sp :=
  if p t = true ∧ S.1 < 0 then (t, S.2) else if p t = false ∧ 0 ≤ S.1 then (-1, S.2 ++ [(S.1, t)]) else S
def scanE (p : Int → Bool) : Nat → Int × List Sp
  | 0 => (-1, [])
  | t + 1 => scan1 p t (scanE p t)
def pE (ch : Int → Bool) (L : List (Int × Int)) (t : Int) : Bool := ch (sumTo L t)
structure CombI (ch : Int → Bool) (L l : List (Int × Int)) (st fr : Int) (out : List Sp) (v : Nat) : Prop where
  done : ∃ d, L = d ++ l ∧ ∀ e ∈ d, e.1 < v
  rest : ∀ e ∈ l, (v : Int) ≤ e.1
  state : st = sumTo L ((v : Int) - 1)
  outs : out = (scanE (pE ch L) v).2
  open_ : 0 ≤ (scanE (pE ch L) v).1 ↔ ch st = true
  from_ : ch st = true → fr = (scanE (pE ch L) v).1
end Go.Proofs.Sp
namespace Go.Proofs.Sp
theorem canon_of {m : Int} {l : List Sp} (h1 : ∀ s ∈ l, 0 ≤ s.1 ∧ s.1 < s.2 ∧ s.2 ≤ m) (h2 : ∀ j (hj : j < l.length), 0 < j → (l[j - 1]'(by omega)).2 < l[j].1) : Canon m l := by
  refine ⟨h1, List.pairwise_iff_getElem.2 fun i j hi hj hij => ?_⟩
  induction j with
  | zero => omega
  | succ j ih =>
    have h3 := h2 (j + 1) hj (by omega); simp only [Nat.add_sub_cancel] at h3; by_cases e : i = j
    · subst e; exact h3
    have h4 := ih (by omega) (by omega); have h5 := h1 _ (List.getElem_mem (show j < l.length by omega)); omega
end Go.Proofs.Sp
namespace Go.Proofs
open Go.Fs
set_option maxHeartbeats 2000000
abbrev y23 : Ty := (.sl (.pair (.int .i64) (.int .i64)))
theorem vt53 : ValT Tryz.prog 53 y53 := valT_of (by kernel_rfl)
theorem el23 : ElT Tryz.prog 23 53 y53 := elT_of (by kernel_rfl)
theorem zt53 : ZerT Tryz.prog 53 y53 := zerT_of (z := .agg #[.int .i64 0, .int .i64 0]) (by kernel_rfl) rfl rfl
theorem eq53 : EqT Tryz.prog 53 y53 := eqT_of (by kernel_rfl)
def firstR (f : Nat → Int) (i n : Nat) : Int := firstE ((List.range' i (n - i)).map f)
theorem firstR_step {f : Nat → Int} {i n : Nat} (h : i < n) : firstR f i n = if f i = 0 then firstR f (i + 1) n else f i := by
  unfold firstR; rw [show n - i = (n - (i + 1)) + 1 by omega, List.range'_succ] <;> rfl
theorem firstR_end {f : Nat → Int} {i n : Nat} (h : n ≤ i) : firstR f i n = 0 := by
  unfold firstR; rw [show n - i = 0 by omega] <;> rfl
theorem getD_at {α : Type} {l : List α} {i : Nat} {d : α} (h : i < l.length) : l.getD i d = l[i] := by rw [List.getD_eq_getElem?_getD, List.getElem?_eq_getElem h] <;> rfl
def spX (l : List (Int × Int)) (j : Nat) : Int × Int := l.getD j (0, 0)
theorem spX_eq {l : List (Int × Int)} {j : Nat} (h : j < l.length) : spX l j = l[j] := getD_at h
def spanAt (l : List (Int × Int)) (j : Nat) : Int := firstE [spanE (spX l j), whenE (decide (0 < (j : Int)) && decide ((spX l j).1 ≤ (spX l (j - 1)).2)) 11]
def spansE (l : List (Int × Int)) : Int := if 2048 < (l.length : Int) then 5 else firstR (spanAt l) 0 l.length
theorem spX_prev {l : List (Int × Int)} {j : Nat} (h0 : 0 < (j : Int)) (h : ((j : Int) - 1).toNat < l.length) : spX l (j - 1) = l[((j : Int) - 1).toNat] := by
  have e : ((j : Int) - 1).toNat = j - 1 := by omega
  rw [spX_eq (by omega)]; simp only [e]
theorem spX_max {l : List (Int × Int)} {j : Nat} (h0 : 0 < (j : Int)) (h : (max 0 ((j : Int) - 1)).toNat < l.length) : spX l (j - 1) = l[(max 0 ((j : Int) - 1)).toNat] := by
  have e : (max 0 ((j : Int) - 1)).toNat = j - 1 := by omega
  rw [spX_eq (by omega)]; simp only [e]
theorem spanAt_bad {l : List (Int × Int)} {j : Nat} (h : j < l.length) (hb : spanE l[j] ≠ 0) : spanAt l j = 14 := by
  unfold spanAt; rw [spX_eq h]
  have : spanE l[j] = 14 := by
    unfold spanE at hb ⊢; split at hb
    · rename_i hc; rw [if_pos hc]
    exact absurd rfl hb
  rw [this] <;> rfl
theorem spanAt_ok {l : List (Int × Int)} {j : Nat} (h : j < l.length) (hb : ¬ spanE l[j] ≠ 0) : spanAt l j = whenE (decide (0 < (j : Int)) && decide (l[j].1 ≤ (spX l (j - 1)).2)) 11 := by
  unfold spanAt; rw [spX_eq h, Classical.not_not.1 hb]; show (if (0 : Int) = 0 then _ else _) = _; rw [if_pos rfl]; unfold firstE; split
  · rename_i hz; rw [hz] <;> rfl
  rfl
theorem spanAt_t {l : List (Int × Int)} {j : Nat} (h : j < l.length) (h0 : 0 < (j : Int)) (hm : (max 0 ((j : Int) - 1)).toNat < l.length) : spanAt l j = firstE [spanE l[j], whenE (decide (l[j].1 ≤ l[(max 0 ((j : Int) - 1)).toNat].2)) 11] := by
  unfold spanAt; rw [spX_eq h, spX_max h0 hm, decide_eq_true h0, Bool.true_and]
theorem spanAt_f {l : List (Int × Int)} {j : Nat} (h : j < l.length) (h0 : ¬ 0 < (j : Int)) : spanAt l j = firstE [spanE l[j], whenE false 11] := by
  unfold spanAt; rw [spX_eq h, decide_eq_false h0, Bool.false_and]
theorem rSpans_ok {l : List (Int × Int)} (hl : l.length < 1000000) : VF Tryz.prog OA 50 [.v y23 l] (I (spansE l)) := by
  refine VF.enter Tryz.func50 rfl (fun _ _ => rfl) rfl ?_; show VC _ _ _ _ _ [(0, .v y23 l)] [] _; refine VC.seq (VC.text ?_); refine VO.c (.assign rfl) ?_; refine VO.go (VC.seq (VC.seq (VC.text ?_))); refine VO.c (.move rfl) ?_; refine VO.r (.len el23) ?_; refine VO.c (.gtr) (VO.go ?_); refine VC.condD rfl (fun c1 => ?_) (fun c1 => ?_)
  · refine VC.seq (VC.text ?_); refine VO.c (.assign rfl) (VO.go ?_); refine VC.ret ?_; exact VEnd.one rfl evT (pvI (by rw [spansE, if_pos c1]))
  refine VC.skip (VC.seq (VC.seq (VC.text ?_))); refine VO.c (.assign rfl) ?_; refine VO.go (VC.block ?_); refine VC.keep [(0, .v y23 l), (3, I ((0 : Nat) : Int))] ⟨rfl, rfl, trivial⟩ ?_; refine VC.loop (I := fun kk ff ss => ∃ (j : Nat), kk = l.length - j ∧ ff = [(0, .v y23 l), (3, I ((j : Nat) : Int))] ∧ ss = [] ∧ (j ≤ l.length) ∧ (spansE l = firstR (spanAt l) j l.length)) ?_ _ _ _ ⟨0, rfl, rfl, rfl, Nat.zero_le _, (by exact if_neg c1)⟩; rintro kk ff ss ⟨j, hk0, rfl, rfl, hj, hw⟩; refine VC.seq (VC.seq (VC.text ?_)); refine VO.c (.move rfl) (VO.c (.move rfl) ?_); refine VO.r (.len el23) ?_; refine VO.c (.lss) (VO.go ?_); refine VC.condD rfl (fun c4 => ?_) (fun c4 => ?_)
  · refine VC.skip (VC.seq (VC.block (VC.seq (VC.seq (VC.text ?_))))); refine VO.c (.move rfl) (VO.c (.move rfl) (VO.c (.ix (j := j) rfl rfl el23 (by omega)) ?_)); refine VO.r (.ld vt53) ?_; refine VO.call rfl rfl (VF.call (rSpan_ok )) ?_; refine VO.c (.neq) (VO.go ?_); refine VC.condD rfl (fun c6 => ?_) (fun c6 => ?_)
    · refine VC.seq (VC.text ?_); refine VO.c (.assign rfl) (VO.go ?_); refine VC.ret ?_; exact VEnd.one rfl evT (pvI (by rw [hw, firstR_step (by omega), spanAt_bad (by omega) c6, if_neg (by decide)]))
    refine VC.skip (VC.seq (VC.drawn ?_)); refine VD.c (.move rfl) (VD.c (.gtr) (VD.c (.move rfl) ?_)); refine VD.splitD (x := 21) rfl (fun g8_2 => ?_) (fun g8_2 => ?_)
    · refine VD.c (.move rfl) (VD.c (.move rfl) (VD.nw [] (VD.c (.ix (j := j) rfl rfl el23 (by omega)) ?_))); refine VD.c (.fa (.l .o)) ?_; refine VD.r [] (.ld vt3) (.inl rfl) ?_; refine VD.c (.move rfl) (VD.c (.move rfl) (VD.c (.sub rfl rfl (by omega)) (VD.c (.ixZ (k := (((j : Nat) : Int) - (1 : Int))) rfl rfl el23 (by omega) (by omega)) ?_))); refine VD.nw [] (VD.c (.fa (.r .o)) ?_); refine VD.r [] (.ld vt3) (.inl rfl) ?_; refine VD.c (.leq) (VD.c (.pickT rfl rfl) (VD.go ?_)); refine VC.condD rfl (fun c8 => ?_) (fun c8 => ?_)
      · refine VC.seq (VC.text ?_); refine VO.c (.assign rfl) (VO.go ?_); refine VC.ret ?_; exact VEnd.one rfl evT (pvI (by rw [hw, firstR_step (by omega), spanAt_ok (by omega) c6, spX_prev g8_2 (by omega), decide_eq_true c8, decide_eq_true g8_2] <;> rfl))
      have hz : spanAt l j = 0 := by rw [spanAt_ok (by omega) c6, spX_prev g8_2 (by omega), decide_eq_false c8, Bool.and_false] <;> rfl
      refine VC.skip (VC.text ?_); refine VO.c (.move rfl) (VO.c (.add rfl rfl (by omega)) (VO.c (.assign rfl) ?_)); refine VO.nil ?_; refine ⟨_, [(0, .v y23 l), (3, I (((j + 1) : Nat) : Int))], ?_, ⟨rfl, rfl, trivial⟩, (j + 1), rfl, rfl, rfl, (by omega), (by rw [hw, firstR_step (by omega), if_pos hz])⟩; omega
    have hz : spanAt l j = 0 := by rw [spanAt_ok (by omega) c6, decide_eq_false (show ¬ 0 < (j : Int) by omega)] <;> rfl
    refine VD.skip (VD.skip (VD.nw [] (VD.skip ?_))); refine VD.skip (VD.skip (VD.skip (VD.skip ?_))); refine VD.skip (VD.skip (VD.nw [] (VD.skip ?_))); refine VD.skip (VD.skip (VD.c (.pickF rfl rfl) (VD.go ?_))); refine VC.condF rfl ?_; refine VC.skip (VC.text ?_); refine VO.c (.move rfl) (VO.c (.add rfl rfl (by omega)) (VO.c (.assign rfl) ?_)); refine VO.nil ?_; refine ⟨_, [(0, .v y23 l), (3, I (((j + 1) : Nat) : Int))], ?_, ⟨rfl, rfl, trivial⟩, (j + 1), rfl, rfl, rfl, (by omega), (by rw [hw, firstR_step (by omega), if_pos hz])⟩; omega
  refine VC.exit (VC.seq (VC.text ?_)); refine VO.c (.assign rfl) (VO.go ?_); refine VC.ret ?_; exact VEnd.one rfl evT (pvI (by rw [hw, firstR_end (by omega)]))
theorem gSpans_ok {l : List (Int × Int)} (hl : l.length < 1000000) : VF Tryz.prog OA 84 [.v y23 l] (I (spansE l)) := by
  refine VF.enter Tryz.func84 rfl (fun _ _ => rfl) rfl ?_; show VC _ _ _ _ _ [(0, .v y23 l)] [] _; refine VC.seq (VC.text ?_); refine VO.c (.assign rfl) ?_; refine VO.go (VC.seq (VC.seq (VC.text ?_))); refine VO.c (.move rfl) ?_; refine VO.r (.len el23) ?_; refine VO.c (.gtr) (VO.go ?_); refine VC.condD rfl (fun c1 => ?_) (fun c1 => ?_)
  · refine VC.seq (VC.text ?_); refine VO.c (.assign rfl) (VO.go ?_); refine VC.ret ?_; exact VEnd.one rfl evT (pvI (by rw [spansE, if_pos c1]))
  refine VC.skip (VC.seq (VC.seq (VC.text ?_))); refine VO.c (.move rfl) ?_; refine VO.r (.len el23) ?_; refine VO.c (.move rfl) ?_; refine VO.go (VC.block ?_); refine VC.keep [(0, .v y23 l), (9, .v y23 l), (10, I ((l.length : Nat) : Int)), (11, I ((0 : Nat) : Int))] ⟨rfl, rfl, rfl, rfl, trivial⟩ ?_; refine VC.loop (I := fun kk ff ss => ∃ (j : Nat), kk = l.length - j ∧ ff = [(0, .v y23 l), (9, .v y23 l), (10, I ((l.length : Nat) : Int)), (11, I ((j : Nat) : Int))] ∧ ss = [] ∧ (j ≤ l.length) ∧ (spansE l = firstR (spanAt l) j l.length)) ?_ _ _ _ ⟨0, rfl, rfl, rfl, Nat.zero_le _, (by exact if_neg c1)⟩; rintro kk ff ss ⟨j, hk0, rfl, rfl, hj, hw⟩; refine VC.seq (VC.text ?_); refine VO.c (.lss) ?_; refine VO.go (VC.seq ?_); refine VC.condD rfl (fun c4 => ?_) (fun c4 => ?_)
  · refine VC.skip (VC.seq (VC.block (VC.seq (VC.text ?_)))); refine VO.c (.move rfl) (VO.c (.ix (j := j) rfl rfl el23 (by omega)) ?_); refine VO.r (.ld vt53) ?_; refine VO.cell (.alloc zt53) ?_; intro ww1; refine VO.c (.assign rfl) ?_; refine VO.setV (cs' := [I ((l[j]).1), I ((l[j]).2)]) vt53 .v ?_; refine VO.shut [(4, .p y53 (l[j]))] (.cons rfl (.var m0 .refl) .nil) ?_; refine VO.go (VC.seq (VC.drawn ?_)); refine VD.r [] (.ld vt53) (.inl rfl) ?_; refine VD.call rfl rfl (VF.call (gSpan_ok )) ?_; refine VD.c (.move rfl) (VD.c (.gtr) (VD.c (.move rfl) ?_)); refine VD.splitD (x := 20) rfl (fun g6_4 => ?_) (fun g6_4 => ?_)
    · have hv := spanAt_t (l := l) (j := j) (by omega) g6_4 (by omega); refine VD.nw [] (VD.c (.fa (.l .o)) ?_); refine VD.r [] (.ld vt3) (.inl rfl) ?_; refine VD.c (.move rfl) (VD.c (.move rfl) (VD.c (.sub rfl rfl (by omega)) (VD.c (.imax) ?_))); refine VD.c (.ixZ (k := (max (0 : Int) (((j : Nat) : Int) - (1 : Int)))) rfl rfl el23 (by omega) (by omega)) (VD.nw [] (VD.c (.fa (.r .o)) ?_)); refine VD.r [] (.ld vt3) (.inl rfl) ?_; refine VD.c (.leq) (VD.c (.pickT rfl rfl) ?_); refine VD.call rfl rfl (VF.call (gWhen_ok )) ?_; refine VD.new (.lit [spanE (l[j]), whenE (decide ((l[j]).1 ≤ (l[Int.toNat (max (0 : Int) (((j : Nat) : Int) - (1 : Int)))]).2)) (11 : Int)] el127) ?_; refine VD.callO rfl rfl (VF.call (gFirst_ok (by first | assumption | omega | simp))) ?_; refine VD.nw [33] (VD.c (.assign rfl) ?_); refine VD.go (VC.seq (VC.text ?_)); refine VO.c (.move rfl) (VO.c (.neq) (VO.go ?_)); refine VC.condD rfl (fun c7 => ?_) (fun c7 => ?_)
      · refine VC.seq (VC.text ?_); refine VO.c (.move rfl) (VO.c (.assign rfl) (VO.go ?_)); refine VC.ret ?_; exact VEnd.one rfl evT (pvI (by rw [hw, firstR_step (by omega), hv, if_neg c7]))
      refine VC.skip (VC.text ?_); refine VO.c (.add rfl rfl (by omega)) (VO.c (.move rfl) ?_); refine VO.nil ?_; refine ⟨_, [(0, .v y23 l), (9, .v y23 l), (10, I ((l.length : Nat) : Int)), (11, I (((j + 1) : Nat) : Int))], ?_, ⟨rfl, rfl, rfl, rfl, trivial⟩, (j + 1), rfl, rfl, rfl, (by omega), (by rw [hw, firstR_step (by omega), hv, if_pos (Classical.not_not.1 c7)])⟩; omega
    have hv := spanAt_f (l := l) (j := j) (by omega) g6_4; refine VD.nw [] (VD.skip (VD.skip (VD.skip ?_))); refine VD.skip (VD.skip (VD.skip (VD.skip ?_))); refine VD.nw [] (VD.skip (VD.skip (VD.skip ?_))); refine VD.c (.pickF rfl rfl) ?_; refine VD.call rfl rfl (VF.call (gWhen_ok )) ?_; refine VD.new (.lit [spanE (l[j]), whenE false (11 : Int)] el127) ?_; refine VD.callO rfl rfl (VF.call (gFirst_ok (by first | assumption | omega | simp))) ?_; refine VD.nw [33] (VD.c (.assign rfl) ?_); refine VD.go (VC.seq (VC.text ?_)); refine VO.c (.move rfl) (VO.c (.neq) (VO.go ?_)); refine VC.condD rfl (fun c7 => ?_) (fun c7 => ?_)
    · refine VC.seq (VC.text ?_); refine VO.c (.move rfl) (VO.c (.assign rfl) (VO.go ?_)); refine VC.ret ?_; exact VEnd.one rfl evT (pvI (by rw [hw, firstR_step (by omega), hv, if_neg c7]))
    refine VC.skip (VC.text ?_); refine VO.c (.add rfl rfl (by omega)) (VO.c (.move rfl) ?_); refine VO.nil ?_; refine ⟨_, [(0, .v y23 l), (9, .v y23 l), (10, I ((l.length : Nat) : Int)), (11, I (((j + 1) : Nat) : Int))], ?_, ⟨rfl, rfl, rfl, rfl, trivial⟩, (j + 1), rfl, rfl, rfl, (by omega), (by rw [hw, firstR_step (by omega), hv, if_pos (Classical.not_not.1 c7)])⟩; omega
  refine VC.exit (VC.seq (VC.text ?_)); refine VO.c (.assign rfl) (VO.go ?_); refine VC.ret ?_; exact VEnd.one rfl evT (pvI (by rw [hw, firstR_end (by omega)]))
theorem rSameSp_ok {a : List (Int × Int)} {b : List (Int × Int)} (ha : a.length < 1000000) (hb : b.length < 1000000) : VF Tryz.prog OA 24 [.v y23 a, .v y23 b] (B (decide (a = b))) := by
  refine VF.enter Tryz.func24 rfl (fun _ _ => rfl) rfl ?_; show VC _ _ _ _ _ [(0, .v y23 a), (1, .v y23 b)] [] _; refine VC.seq (VC.text ?_); refine VO.c (.assign rfl) ?_; refine VO.go (VC.seq (VC.seq (VC.text ?_))); refine VO.c (.move rfl) ?_; refine VO.r (.len el23) ?_; refine VO.c (.move rfl) ?_; refine VO.r (.len el23) ?_; refine VO.c (.neq) (VO.go ?_); refine VC.condD rfl (fun c1 => ?_) (fun c1 => ?_)
  · refine VC.seq (VC.text ?_); refine VO.c (.assign rfl) (VO.go ?_); refine VC.ret ?_; exact VEnd.one rfl evT (pvE (by exact (decide_eq_false (fun e => c1 (by rw [e]))).symm))
  refine VC.skip (VC.seq (VC.seq (VC.text ?_))); refine VO.c (.assign rfl) ?_; refine VO.go (VC.block ?_); refine VC.keep [(0, .v y23 a), (1, .v y23 b), (5, I ((0 : Nat) : Int))] ⟨rfl, rfl, rfl, trivial⟩ ?_; refine VC.loop (I := fun kk ff ss => ∃ (j : Nat), kk = a.length - j ∧ ff = [(0, .v y23 a), (1, .v y23 b), (5, I ((j : Nat) : Int))] ∧ ss = [] ∧ (j ≤ a.length) ∧ (a.length = b.length) ∧ (∀ k (h : k < a.length) (h2 : k < b.length), k < j → a[k] = b[k])) ?_ _ _ _ ⟨0, rfl, rfl, rfl, Nat.zero_le _, (by omega), (by exact fun k _ _ h => absurd h (by omega))⟩; rintro kk ff ss ⟨j, hk0, rfl, rfl, hj, hl, hi⟩; refine VC.seq (VC.seq (VC.text ?_)); refine VO.c (.move rfl) (VO.c (.move rfl) ?_); refine VO.r (.len el23) ?_; refine VO.c (.lss) (VO.go ?_); refine VC.condD rfl (fun c4 => ?_) (fun c4 => ?_)
  · refine VC.skip (VC.seq (VC.block (VC.seq (VC.drawn ?_)))); refine VD.c (.move rfl) (VD.c (.move rfl) (VD.c (.ix (j := j) rfl rfl el23 (by omega)) ?_)); refine VD.r [] (.ld vt53) (.inl rfl) ?_; refine VD.c (.move rfl) (VD.c (.move rfl) (VD.nw [] (VD.c (.ix (j := j) rfl rfl el23 (by omega)) ?_))); refine VD.r [] (.ld vt53) (.inl rfl) ?_; refine VD.c (.eneq eq53) (VD.go ?_); refine VC.condD rfl (fun c6 => ?_) (fun c6 => ?_)
    · refine VC.seq (VC.text ?_); refine VO.c (.assign rfl) (VO.go ?_); refine VC.ret ?_; exact VEnd.one rfl evT (pvE (by exact (decide_eq_false (fun h => c6 (List.getElem_of_eq h _))).symm))
    refine VC.skip (VC.text ?_); refine VO.c (.move rfl) (VO.c (.add rfl rfl (by omega)) (VO.c (.assign rfl) ?_)); refine VO.nil ?_; refine ⟨_, [(0, .v y23 a), (1, .v y23 b), (5, I (((j + 1) : Nat) : Int))], ?_, ⟨rfl, rfl, rfl, trivial⟩, (j + 1), rfl, rfl, rfl, (by omega), (by omega), (by exact fun k h h2 h3 => if e : k = j then (by subst e; exact Classical.not_not.1 c6) else hi k h h2 (by omega))⟩; omega
  refine VC.exit (VC.seq (VC.text ?_)); refine VO.c (.assign rfl) (VO.go ?_); refine VC.ret ?_; exact VEnd.one rfl evT (pvE (by exact (decide_eq_true (List.ext_getElem hl (fun k h h2 => hi k h h2 (by omega)))).symm))
theorem rShortSp_ok {l : List (Int × Int)} {n : Int} : VF Tryz.prog OA 36 [.v y23 l, I n] (B (decide ((l.length : Int) ≤ n) || decide ((l.length : Int) = 2049))) := by
  refine VF.enter Tryz.func36 rfl (fun _ _ => rfl) rfl ?_; show VC _ _ _ _ _ [(0, .v y23 l), (1, I n)] [] _; refine VC.seq (VC.text ?_); refine VO.c (.assign rfl) ?_; refine VO.go (VC.seq (VC.text ?_)); refine VO.c (.move rfl) ?_; refine VO.r (.len el23) ?_; refine VO.c (.move rfl) (VO.c (.leq) (VO.c (.move rfl) ?_)); refine VO.cg (r := decide (((l.length : Nat) : Int) ≤ n)) (w := false) [] trivial (fun _ => (.move rfl)) ?_; refine VO.rg (r := decide (((l.length : Nat) : Int) ≤ n)) (w := false) [(10, .v y23 l)] ⟨rfl, trivial⟩ (fun _ => (.len el23)) ?_; refine VO.cg (r := decide (((l.length : Nat) : Int) ≤ n)) (w := false) [(11, I ((l.length : Nat) : Int))] ⟨rfl, trivial⟩ (fun _ => (.eql)) ?_; refine VO.c (.or) (VO.c (.assign rfl) (VO.go ?_)); refine VC.ret ?_; exact VEnd.one rfl evT (pvE (by first | rfl | simp [*]))
end Go.Proofs
namespace Go.Fs
variable {P : Program} {fl : VL} {σ : Sto} {T T' : TypeId} {x y : Operand}
end Go.Fs
namespace Go.Proofs
open Go.Fs
set_option maxHeartbeats 2000000
end Go.Proofs
namespace Go.Proofs.Sp
structure EdgesOf (a b : List Sp) (L : List (Int × Int)) : Prop where
  ca : Canon 100000 a
  cb : Canon 100000 b
  perm : L.Perm (edgeE a 1 ++ edgeE b 2)
  sorted : L.Pairwise fun x y => x.1 ≤ y.1
end Go.Proofs.Sp
namespace Go.Proofs
open Go.Fs
set_option maxHeartbeats 2000000
theorem firstE_zero {l : List Int} : firstE l = 0 ↔ ∀ x ∈ l, x = 0 := by
  induction l with
  | nil => exact ⟨fun _ x hx => (by cases hx), fun _ => rfl⟩
  | cons y l ih =>
    rw [firstE]; by_cases h : y = 0
    · rw [if_pos h, ih]; exact ⟨fun h2 x hx => (by rcases List.mem_cons.1 hx with rfl | hx; exact h; exact h2 x hx), fun h2 x hx => h2 x (List.mem_cons_of_mem _ hx)⟩
    rw [if_neg h]; exact ⟨fun h2 => absurd h2 h, fun h2 => h2 y List.mem_cons_self⟩
theorem firstR_zero {f : Nat → Int} {n : Nat} (h : firstR f 0 n = 0) {i : Nat} (hi : i < n) : f i = 0 :=
  firstE_zero.1 h _ (List.mem_map.2 ⟨i, by rw [List.mem_range'_1]; omega, rfl⟩)
theorem spanE_zero {p : Int × Int} : spanE p = 0 ↔ 0 ≤ p.1 ∧ p.1 < p.2 ∧ p.2 ≤ 100000 := by
  unfold spanE; split
  · rename_i h; exact ⟨fun h2 => absurd h2 (by decide), fun h2 => by omega⟩
  exact ⟨fun _ => by omega, fun _ => rfl⟩
theorem whenE_zero {c : Bool} {e : Int} (he : e ≠ 0) : whenE c e = 0 ↔ c = false := by
  cases c
  · exact ⟨fun _ => rfl, fun _ => rfl⟩
  exact ⟨fun h => absurd h he, fun h => by cases h⟩
theorem spans_canon {l : List (Int × Int)} (h : spansE l = 0) : Sp.Canon 100000 l ∧ l.length ≤ 2048 := by
  unfold spansE at h; split at h
  · exact absurd h (by decide)
  rename_i hn; have hz : ∀ j, j < l.length → spanAt l j = 0 := fun j hj => firstR_zero h hj
  have hz1 : ∀ j (hj : j < l.length), 0 ≤ l[j].1 ∧ l[j].1 < l[j].2 ∧ l[j].2 ≤ 100000 := fun j hj => by
    have := firstE_zero.1 (hz j hj) _ List.mem_cons_self; rw [spX_eq hj] at this; exact spanE_zero.1 this
  refine ⟨Sp.canon_of (fun s hs => ?_) fun j hj h0 => ?_, by omega⟩
  · obtain ⟨j, hj, rfl⟩ := List.mem_iff_getElem.1 hs; exact hz1 j hj
  have h1 := firstE_zero.1 (hz j hj) _ (List.mem_cons_of_mem _ List.mem_cons_self); have h2 := (whenE_zero (by decide)).1 h1; rw [spX_eq hj, spX_eq (show j - 1 < l.length by omega), decide_eq_true (show (0 : Int) < (j : Int) by omega), Bool.true_and, decide_eq_false_iff_not] at h2; omega
theorem awake_ok : VF Tryz.prog OA 6 [] (B true) := VF.oracle (fun _ => rfl) fun _ _ => ⟨rfl, rfl⟩
theorem lSpans_ok {l : List (Int × Int)} (hl : l.length < 1000000) : VF Tryz.prog OA 41 [.v y23 l] (.v y23 l) := by
  refine VF.enter Tryz.func41 rfl (fun _ _ => rfl) rfl ?_; show VC _ _ _ _ _ [(0, .v y23 l)] [] _; refine VC.seq (VC.text ?_); refine VO.c (.assign rfl) ?_; refine VO.go (VC.seq (VC.text ?_)); refine VO.cell (.lit0 el23) ?_; intro ww1; refine VO.c (.move rfl) ?_; refine VO.app rfl rfl el23 el23 (by simp; omega) ?_; intro ww2; refine VO.c (.assign rfl) (VO.go ?_); refine VC.ret ?_; exact VEnd.one rfl (evC (.row m0)) (pvE (by rfl))
theorem rHas_ok {l : List (Int × Int)} {t : Int} (hl : l.length < 1000000) : VF Tryz.prog OA 51 [.v y23 l, I t] (B (Sp.inL l t)) := by
  refine VF.enter Tryz.func51 rfl (fun _ _ => rfl) rfl ?_; show VC _ _ _ _ _ [(0, .v y23 l), (1, I t)] [] _; refine VC.seq (VC.text ?_); refine VO.c (.assign rfl) ?_; refine VO.go (VC.seq (VC.seq (VC.text ?_))); refine VO.c (.assign rfl) ?_; refine VO.go (VC.block ?_); refine VC.keep [(0, .v y23 l), (1, I t), (5, I ((0 : Nat) : Int))] ⟨rfl, rfl, rfl, trivial⟩ ?_; refine VC.loop (I := fun kk ff ss => ∃ (j : Nat), kk = l.length - j ∧ ff = [(0, .v y23 l), (1, I t), (5, I ((j : Nat) : Int))] ∧ ss = [] ∧ (j ≤ l.length) ∧ (∀ k (h : k < l.length), k < j → ¬ (l[k].1 ≤ t ∧ t < l[k].2))) ?_ _ _ _ ⟨0, rfl, rfl, rfl, Nat.zero_le _, (by exact fun k _ h => absurd h (by omega))⟩; rintro kk ff ss ⟨j, hk0, rfl, rfl, hj, hi⟩; refine VC.seq (VC.seq (VC.text ?_)); refine VO.c (.move rfl) (VO.c (.move rfl) ?_); refine VO.r (.len el23) ?_; refine VO.c (.lss) (VO.go ?_); refine VC.condD rfl (fun c2 => ?_) (fun c2 => ?_)
  · have hjl : j < l.length := by omega
    refine VC.skip (VC.seq (VC.block (VC.seq (VC.text ?_)))); refine VO.c (.move rfl) (VO.c (.move rfl) (VO.c (.move rfl) (VO.c (.ix (j := j) rfl rfl el23 (by omega)) ?_))); refine VO.c (.fa (.l .o)) ?_; refine VO.r (.ld vt3) ?_; refine VO.c (.geq) (VO.c (.move rfl) ?_); refine VO.cg (r := decide ((l[j]).1 ≤ t)) (w := true) [] trivial (fun _ => (.move rfl)) ?_; refine VO.cg (r := decide ((l[j]).1 ≤ t)) (w := true) [] trivial (fun _ => (.move rfl)) ?_; refine VO.cg (r := decide ((l[j]).1 ≤ t)) (w := true) [] trivial (fun _ => (.move rfl)) ?_; refine VO.cg (r := decide ((l[j]).1 ≤ t)) (w := true) [(21, .v y23 l), (22, I ((j : Nat) : Int))] ⟨rfl, rfl, trivial⟩ (fun hgd => have g4_7 : (l[j]).1 ≤ t := (by simpa using hgd); (.ixD (j := j) rfl rfl (0, 0) el23 (by omega))) ?_; refine VO.cg (r := decide ((l[j]).1 ≤ t)) (w := true) [(23, .p y53 (l.getD j (0, 0)))] ⟨rfl, trivial⟩ (fun _ => (.fa (.r (k := 0) .o))) ?_; refine VO.rg (r := decide ((l[j]).1 ≤ t)) (w := true) [(24, .p (.int .i64) ((l.getD j (0, 0)).2))] ⟨rfl, trivial⟩ (fun _ => (.ld vt3)) ?_; refine VO.cg (r := decide ((l[j]).1 ≤ t)) (w := true) [(20, I t), (25, I ((l.getD j (0, 0)).2))] ⟨rfl, rfl, trivial⟩ (fun _ => (.lss)) ?_; refine VO.c (.and) (VO.go ?_); refine VC.condB rfl (fun c4 => ?_) (fun c4 => ?_)
    · try simp only [Bool.and_eq_true, Bool.or_eq_true, Bool.and_eq_false_iff, Bool.or_eq_false_iff, Bool.not_eq_true', Bool.not_eq_false', decide_eq_true_eq, decide_eq_false_iff_not] at c4
      refine VC.seq (VC.text ?_); refine VO.c (.assign rfl) (VO.go ?_); refine VC.ret ?_; exact VEnd.one rfl evT (pvE (by rw [getD_at hjl] at c4; exact (List.any_eq_true.2 ⟨_, List.getElem_mem hjl, by rw [decide_eq_true c4.1, decide_eq_true c4.2]; rfl⟩).symm))
    try simp only [Bool.and_eq_true, Bool.or_eq_true, Bool.and_eq_false_iff, Bool.or_eq_false_iff, Bool.not_eq_true', Bool.not_eq_false', decide_eq_true_eq, decide_eq_false_iff_not] at c4
    have hno : ¬ (l[j].1 ≤ t ∧ t < l[j].2) := by rw [getD_at hjl] at c4; omega
    refine VC.skip (VC.text ?_); refine VO.c (.move rfl) (VO.c (.add rfl rfl (by omega)) (VO.c (.assign rfl) ?_)); refine VO.nil ?_; refine ⟨_, [(0, .v y23 l), (1, I t), (5, I (((j + 1) : Nat) : Int))], ?_, ⟨rfl, rfl, rfl, trivial⟩, (j + 1), rfl, rfl, rfl, (by omega), (by exact fun k h h3 => if e : k = j then (by subst e; exact hno) else hi k h (by omega))⟩; omega
  refine VC.exit (VC.seq (VC.text ?_)); refine VO.c (.assign rfl) (VO.go ?_); refine VC.ret ?_; exact VEnd.one rfl evT (pvE (by exact (List.any_eq_false.2 fun x hx => by obtain ⟨k, h, rfl⟩ := List.mem_iff_getElem.1 hx; have := hi k h (by omega); simp; omega).symm))
end Go.Proofs
