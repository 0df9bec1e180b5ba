/- Parts of the proof: an evaluator of the model, what it is sound for, and contracts of functions. No condition. -/
import Derived.Test.YteooaaiacpcfoaaGreatDoorP2
import Derived.Test.YteooaaiacpcfoaaGreatDoorP4
import Derived.Scope
import Derived.Lib.ItoaNum
import Derived.Lib.Join
import Ieee.Arith
import Derived.Sort.OwnSorted
import Derived.Lib.AtoiAll
import Derived.Test.YteooaaiacpcfoaaGreatDoorChecked
set_option linter.all false
namespace Go
variable {P : Program}
theorem stepR_scopeFs {b : Frame} {a : Act} {k : List Item} {cs : List Frame} {w : World} {c : Code} : step P (lone (b.atR a (.code (.scope c) :: k)) cs w) = .next (lone (b.atR a (.code c :: .inScope c :: k)) cs w) :=
  step_lone_go (by simp [stepG, stepG.exec, Frame.atR])
theorem stepR_inScopeFs {b : Frame} {a : Act} {k : List Item} {cs : List Frame} {w : World} {c : Code} : step P (lone (b.atR a (.inScope c :: k)) cs w) = .next (lone (b.atR a k) cs w) :=
  step_lone_go (by simp [stepG, stepG.exec, Frame.atR])
theorem wpIn_scopeFs {F : Fence} {n : Nat} {Q : Exit → Act → World → Prop} {a : Act} {w : World} {c : Code} (h : c.wpIn F n P (Exit.noGoto Q) a w) : (Code.scope c).wpIn F n P Q a w := by
  intro b k cs hro hb hr; have h0 : (lone (b.atR a (.code (.scope c) :: k)) cs w).fenced P F := fenced_calm hb hr rfl; obtain ⟨e, a₁, w₁, hq, harr⟩ := h b (.inScope c :: k) cs hro hb hr
  cases e with
  | normal => exact ⟨.normal, a₁, w₁, hq, .head h0 stepR_scopeFs (StepsIn.trans harr (.one (fenced_calm hb hr rfl) stepR_inScopeFs))⟩
  | exit id =>
    have hx : exitTo id (.inScope c :: k) = exitTo id k := by simp [exitTo]
    exact ⟨.exit id, a₁, w₁, hq, fun k' hk => .head h0 stepR_scopeFs (harr.1 k' (by rw [hx]; exact hk)),
      fun hr' hk => let ⟨k₁, h1, h2⟩ := harr.2 hr' (by rw [hx]; exact hk); ⟨k₁, h1, .head h0 stepR_scopeFs h2⟩⟩
  | goto l => exact hq.elim
  | ret => exact ⟨_, a₁, w₁, hq, .of_steps (.one h0 stepR_scopeFs) harr⟩
  | panic ch => exact ⟨_, a₁, w₁, hq, .of_steps (.one h0 stepR_scopeFs) harr⟩
  | outgrown => exact ⟨_, a₁, w₁, hq, .of_steps (.one h0 stepR_scopeFs) harr⟩
end Go
namespace Go.Fs
open Go.RowKit (Below)
variable {P : Program} {ρ ρ' : Ren} {S S' : Nat → Prop} {B : Nat} {w0 w w' w1 w2 : World} {h h' h1 h2 : Heap}
theorem call_sound (hP : ProgOk P) {orc : FuncId → List Value → Heap → Option (Value × Heap)} (horc : CallSound P B w0 orc) {m : Nat} {rec : Rec} (hrec : SoundR P B w0 m rec) : CallSnd P B w0 (callOf P orc rec) := by
  intro f args h v h' hf; unfold callOf at hf; split at hf
  · rename_i r hr; simp only [Option.some.injEq] at hf; subst hf; exact .inl (horc _ _ _ _ _ hr)
  split at hf
  · rename_i r hr; simp only [Option.some.injEq] at hf; subst hf; refine .inr fun ρ S w args' hr2 ha => ?_; unfold fsExt at hr; split at hr
    · rename_i fn hfn; obtain ⟨hb, hr3⟩ := bif_some hr; obtain ⟨hb1, hb2⟩ := band hb; split at hr3
      · rename_i e h1 h2; obtain ⟨haf, hr4⟩ := bif_some hr3; obtain ⟨hp, rfl⟩ := map_pair hr4; obtain ⟨h3, h4⟩ := purely_ok hp w; have he : args' = args := ha.eq_of_af haf; subst he; refine ⟨w, v, ?_, ρ, Moved.same hr2, .of_af h4⟩; unfold callFunc
        have hb2' : (fn.name == "runtime.NumGoroutine") = false := by simpa using hb2
        simp only [Sem.run_bind, run_program, Result.andThen_ok, hfn, hb1, hb2', Bool.false_eq_true, if_false, if_true, h1, h2]; have hm : (mark (Mark.extern f)).run P w = .ok () w := rfl; rw [hm]; simp only [Result.andThen_ok, h3, Sem.run_pure]
      cases hr3
    cases hr
  exact .inl (enter_sound hP hrec _ _ _ _ _ hf)
theorem Post.same {fr : Fr} {a : Act} (hr : HR P ρ S B w0 h w) (ht : TrR ρ S fr.t fr.n a.tmps) (hm : MarksR ρ S fr.marks a.defers) : Post P B w0 ρ ρ S h w fr h w a :=
  ⟨Moved.same hr, ht.mono fun _ hb => ⟨.inl hb, rfl⟩, hm.mono fun _ hb => ⟨.inl hb, rfl⟩⟩
theorem step_sound (hP : ProgOk P) {orc : FuncId → List Value → Heap → Option (Value × Heap)} (horc : CallSound P B w0 orc) {m : Nat} {rec : Rec} (hrec : SoundR P B w0 m rec) : SoundR P B w0 (m + 1) (fsStep P orc rec) := by
  intro rnd c fr h e fr' h' hok hf ρ S w a nn Q hr ht hm hs k; have hcs : CallSnd P B w0 (callOf P orc rec) := call_sound hP horc hrec; have hys : YieldSound P B w0 (fsYield rec) := yield_sound hrec
  cases c with
  | skip =>
    simp only [fsStep, Option.some.injEq, Prod.mk.injEq] at hf; obtain ⟨rfl, rfl, rfl⟩ := hf
    exact wpIn_skip (k _ _ _ (Post.same hr ht hm))
  | label l =>
    simp only [fsStep, Option.some.injEq, Prod.mk.injEq] at hf; obtain ⟨rfl, rfl, rfl⟩ := hf
    exact wpIn_label (k _ _ _ (Post.same hr ht hm))
  | exit id =>
    simp only [fsStep, Option.some.injEq, Prod.mk.injEq] at hf; obtain ⟨rfl, rfl, rfl⟩ := hf
    exact wpIn_exit (k _ _ _ (Post.same hr ht hm))
  | ret =>
    simp only [fsStep, Option.some.injEq, Prod.mk.injEq] at hf; obtain ⟨rfl, rfl, rfl⟩ := hf
    exact wpIn_ret (k _ _ _ (Post.same hr ht hm))
  | goto l => simp only [fsStep] at hf; cases hf
  | refuse l => simp only [fsStep] at hf; cases hf
  | scope b =>
    simp only [fsStep] at hf; refine wpIn_scopeFs ?_; refine (hrec rnd b fr h e fr' h' hok hf ρ S w a nn _ hr ht hm hs fun ρ1 w1 a1 p1 => ?_).wpIn; have hq := k _ _ _ p1
    cases e with
    | normal => exact hq
    | exit id => exact hq
    | ret => exact hq
  | seq x y =>
    simp only [fsStep] at hf; obtain ⟨ok1, ok2⟩ := band (show (codeOk x && codeOk y) = true from hok); refine wpIn_seq ?_; split at hf
    · rename_i fr1 h1 hrun; refine (hrec rnd x fr h _ fr1 h1 ok1 hrun ρ S w a nn _ hr ht hm hs fun ρ1 w1 a1 p1 => ?_).wpIn; show y.wpIn (rndF ρ rnd) nn P Q a1 w1; rw [← rndF_eq hs p1.moved.agree]; exact (hrec rnd y fr1 h1 e fr' h' ok2 hf ρ1 _ w1 a1 nn Q p1.moved.hr p1.tmps p1.marks (fun l hl => .inl (hs l hl)) fun ρ2 w2 a2 p2 => k _ _ _ (Post.trans (fr1 := fr1) (a1 := a1) p1.moved p2)).wpIn
    rename_i hne; refine (hrec rnd x fr h e fr' h' ok1 hf ρ S w a nn _ hr ht hm hs fun ρ1 w1 a1 p1 => ?_).wpIn; have hq := k _ _ _ p1
    cases e with
    | normal => exact (hne _ _ hf).elim
    | exit id => exact hq
    | ret => exact hq
  | cond x y z =>
    simp only [fsStep] at hf; obtain ⟨ok1, ok2⟩ := band (show (codeOk y && codeOk z) = true from hok); have hev := ht.eval a.defers x; split at hf
    · rename_i hx; rw [hx] at hev; exact wpIn_cond_true hev.bool_inv (hrec rnd y fr h e fr' h' ok1 hf ρ S w a nn Q hr ht hm hs k).wpIn
    · rename_i hx; rw [hx] at hev; exact wpIn_cond_false hev.bool_inv (hrec rnd z fr h e fr' h' ok2 hf ρ S w a nn Q hr ht hm hs k).wpIn
    cases hf
  | block id b =>
    simp only [fsStep] at hf; refine wpIn_block ?_; split at hf
    · rename_i id' fr1 h1 hrun; refine (hrec rnd b fr h _ fr1 h1 hok hrun ρ S w a nn _ hr ht hm hs fun ρ1 w1 a1 p1 => ?_).wpIn
      cases hb : Nat.beq id' id with
      | true =>
        rw [hb] at hf; simp only [cond_true, Option.some.injEq, Prod.mk.injEq] at hf; obtain ⟨rfl, rfl, rfl⟩ := hf; have := k _ _ _ p1; simp only [exOf, Exit.inBlock, nbeq hb, if_true]
        exact this
      | false =>
        rw [hb] at hf; simp only [cond_false, Option.some.injEq, Prod.mk.injEq] at hf; obtain ⟨rfl, rfl, rfl⟩ := hf; have := k _ _ _ p1; simp only [exOf, Exit.inBlock, if_neg (ne_of_no hb)]; exact this
    rename_i hne; refine (hrec rnd b fr h e fr' h' hok hf ρ S w a nn _ hr ht hm hs fun ρ1 w1 a1 p1 => ?_).wpIn; have hq := k _ _ _ p1
    cases e with
    | normal => exact hq
    | exit id' => exact (hne _ _ _ hf).elim
    | ret => exact hq
  | loop b =>
    simp only [fsStep] at hf; show Code.roundsIn (rndF ρ rnd) nn P b Q (m + 1) a w; rw [roundsIn_succ]; split at hf
    · rename_i fr1 h1 hrun; refine (hrec rnd b fr h _ fr1 h1 hok hrun ρ S w a nn _ hr ht hm hs fun ρ1 w1 a1 p1 => ?_).wpIn; show Code.roundsIn (rndF ρ rnd) nn P b Q m a1 w1; rw [← rndF_eq hs p1.moved.agree]; exact hrec rnd (.loop b) fr1 h1 e fr' h' hok hf ρ1 _ w1 a1 nn Q p1.moved.hr p1.tmps p1.marks (fun l hl => .inl (hs l hl)) fun ρ2 w2 a2 p2 => k _ _ _ (Post.trans (fr1 := fr1) (a1 := a1) p1.moved p2)
    rename_i hne; refine (hrec rnd b fr h e fr' h' hok hf ρ S w a nn _ hr ht hm hs fun ρ1 w1 a1 p1 => ?_).wpIn; have hq := k _ _ _ p1
    cases e with
    | normal => exact (hne _ _ hf).elim
    | exit id => exact hq
    | ret => exact hq
  | region id ops draw =>
    cases draw with
    | false =>
      simp only [fsStep] at hf; split at hf
      · rename_i t h1 hrun; simp only [Option.some.injEq, Prod.mk.injEq] at hf; obtain ⟨rfl, rfl, rfl⟩ := hf; refine wpIn_region ?_; exact ops_wp (step := fsOpM P (callOf P orc rec) (fsYield rec)) rfl hcs hys _ _ ρ S w a fr.t h range_map hr ht hrun fun ρ1 w1 a1 m1 ht1 hd1 => k _ _ _ ⟨m1, ht1, by rw [hd1]; exact hm.mono fun b hb => ⟨.inl hb, m1.agree b hb⟩⟩
      cases hf
    | true =>
      simp only [fsStep] at hf
      cases hl : lateB ops with
      | false =>
        rw [hl] at hf; simp only [cond_false] at hf; split at hf
        · rename_i s hrun; simp only [Option.some.injEq, Prod.mk.injEq] at hf; obtain ⟨rfl, rfl, rfl⟩ := hf; refine wpIn_region_draw fun t => ?_; rw [hP.mixed]; exact drawn_wp (call := callOf P orc rec) (yield := fsYield rec) hcs hys hok hrun (hr.drew _) ht (fun ρ1 w1 a1 m1 ht1 hd1 => k _ _ _ ⟨Moved.ofDrew m1, ht1, by rw [hd1]; exact hm.mono fun b hb => ⟨.inl hb, m1.agree b hb⟩⟩) t
        cases hf
      | true =>
        rw [hl] at hf; simp only [cond_true] at hf; split at hf
        · rename_i s hrun; simp only [Option.some.injEq, Prod.mk.injEq] at hf; obtain ⟨rfl, rfl, rfl⟩ := hf; refine wpIn_region_draw fun t => ?_; rw [hP.mixed]; exact drawn_wpL (call := callOf P orc rec) (yield := fsYield rec) hcs hys hok hrun (hr.drew _) ht (fun ρ1 w1 a1 m1 ht1 hd1 => k _ _ _ ⟨Moved.ofDrew m1, ht1, by rw [hd1]; exact hm.mono fun b hb => ⟨.inl hb, m1.agree b hb⟩⟩) t
        cases hf
  | rangeFunc g ps assign body =>
    simp only [fsStep] at hf; obtain ⟨ok1, ok2⟩ := band (show (codeOk assign && codeOk body) = true from hok); exact rangeFunc_sound hP hrec ok1 ok2 hf hr ht hm hs k
theorem code_sound (hP : ProgOk P) {orc : FuncId → List Value → Heap → Option (Value × Heap)} (horc : CallSound P B w0 orc) : ∀ m, SoundR P B w0 m (fsCode P orc m)
  | 0 => fun rnd c fr h e fr' h' _ hf => by cases hf
  | m + 1 => step_sound hP horc (code_sound hP horc m)
end Go.Fs
namespace Go.Fs
open Go.RowKit (Below)
variable {P : Program}
theorem fs_open (hP : ProgOk P) {B : Nat} {w0 w : World} {orc : FuncId → List Value → Heap → Option (Value × Heap)} (horc : CallSound P B w0 orc) {ρ : Ren} {S : Nat → Prop} {h : Heap} {f : FuncId} {args args' : List Value} {v : Value}
    (hE : Enters P f) (hr : HR P ρ S B w0 h w) (ha : LR ρ S args args') (he : EvF P orc f args h fun u _ => u = v) (hv : af v = true) : Calls P f args'.toArray w fun | .returned v', w' => v' = v ∧ Below B w0 w' | _, _ => False := by
  obtain ⟨m, u, h', h1, rfl⟩ := he
  have hc : CallsIn Fence.wide 0 P f args'.toArray w (RetR P B w0 ρ S h w u h') := by
    rcases call_sound hP horc (code_sound hP horc m) f args h u h' h1 with h2 | h2
    · exact h2.2 ρ S w args' hr ha 0
    obtain ⟨w', v', h3, _⟩ := h2 ρ S w args' hr ha; rw [callFunc_run hE] at h3; simp at h3
  refine Calls.mono (callsIn_wide.1 hc) fun e w' he => ?_
  cases e with
  | returned v' =>
    obtain ⟨ρ', m1, hv1⟩ := he
    exact ⟨hv1.eq_of_af hv, m1.hr.below⟩
  | panicked c => exact he.elim
  | outgrown => exact he.elim
end Go.Fs
namespace Go.Fs
open Go.RowKit (Below)
variable {P : Program}
def digs : Nat → Nat → List UInt8
  | 0, _ => []
  | f + 1, n => bif Nat.blt n 10 then [UInt8.ofNat (48 + n)] else digs f (n / 10) ++ [UInt8.ofNat (48 + n % 10)]
def itoaF (n : Int) : List UInt8 := match n with
  | .ofNat k => digs 20 k
  | .negSucc k => 45 :: digs 20 (k + 1)
def joinF (sep : List UInt8) : List (List UInt8) → List UInt8
  | [] => []
  | [w] => w
  | w :: r => w ++ sep ++ joinF sep r
def strs : List Value → Option (List ByteArray)
  | [] => some []
  | .string s :: r => (strs r).map (s :: ·)
  | _ => none
theorem digs_eq : ∀ (f n : Nat), n < 10 ^ (f + 1) → digs (f + 1) n = Lib.decDigits n
  | f, n, h => by
    unfold digs Lib.decDigits
    cases hb : Nat.blt n 10 with
    | true => rw [dif_pos (nblt hb)]; rfl
    | false =>
      have h1 : ¬ n < 10 := by have := nble_no hb; omega
      rw [dif_neg h1]; simp only [cond_false]
      cases f with
      | zero => simp at h; omega
      | succ f => rw [digs_eq f (n / 10) (by rw [Nat.pow_succ] at h; omega)]
theorem itoaF_eq {n : Int} (h0 : -1000000000000000000 < n) (h1 : n < 1000000000000000000) : itoaF n = Lib.itoa n := by
  unfold Lib.itoa
  cases n with
  | ofNat k =>
    rw [if_neg (by simp)]; show digs 20 k = _; rw [digs_eq 19 k (by have : (k : Int) < 1000000000000000000 := h1; have : (10 : Nat) ^ (19 + 1) = 100000000000000000000 := (by decide); omega)]
    rfl
  | negSucc k =>
    rw [if_pos (by omega)]; show 45 :: digs 20 (k + 1) = _; rw [digs_eq 19 (k + 1) (by have h2 : -1000000000000000000 < Int.negSucc k := h0; have : (10 : Nat) ^ (19 + 1) = 100000000000000000000 := (by decide); omega)]; rfl
def orcS (fi fj : FuncId) : FuncId → List Value → Heap → Option (Value × Heap) := fun f xs h =>
  bif Nat.beq f fi then
    match xs with
    | [.int .i64 n] => bif decide (-1000000000000000000 < n) && decide (n < 1000000000000000000) then some (.string ⟨(itoaF n).toArray⟩, h) else none
    | _ => none
  else bif Nat.beq f fj then
    match xs with
    | [.slice (some ⟨b, o, none⟩) n _, .string sep] =>
      match h.get b with
      | some (.row _ cs _ _) =>
        bif Nat.ble (o + n) cs.length && Nat.ble n 1000000 then
          match strs ((cs.drop o).take n) with
          | some ss => let r := joinF sep.data.toList (ss.map (·.data.toList))
            bif Nat.ble r.length 1000000000 then some (.string ⟨r.toArray⟩, h) else none
          | none => none
        else none
      | _ => none
    | _ => none
  else none
variable {B : Nat} {w0 w w' : World} {ρ : Ren} {S : Nat → Prop} {h : Heap}
end Go.Fs
namespace Go.Fs
open Go.RowKit (Below)
variable {P : Program}
def orcA (fi fj fa : FuncId) : FuncId → List Value → Heap → Option (Value × Heap) := fun f xs h =>
  bif Nat.beq f fa then
    match xs with
    | [] => some (.bool true, h)
    | _ => none
  else orcS fi fj f xs h
theorem orcA_sound {B : Nat} {w0 : World} {fi fj fa : FuncId} (hz : w0.drawn = 0) (hS : CallSound P B w0 (orcS fi fj)) (ha : Enters P fa)
    (hA : ∀ w, Below B w0 w → Calls P fa #[] w fun | .returned v', w' => v' = .bool true ∧ Below w.heap.size w w' | _, _ => False) : CallSound P B w0 (orcA fi fj fa) := by
  intro f xs h v h' hf; unfold orcA at hf
  cases hb : Nat.beq f fa with
  | true =>
    have := nbeq hb; subst this; rw [hb] at hf; simp only [cond_true] at hf; split at hf
    · simp only [Option.some.injEq, Prod.mk.injEq] at hf; obtain ⟨rfl, rfl⟩ := hf; refine ⟨ha, fun ρ S w args' hr har nn => ?_⟩; have he : args' = [] := List.eq_nil_of_length_eq_zero har.1.symm; subst he; have hC : CallsIn Fence.wide nn P f #[] w _ := callsIn_wide.2 (hA w hr.below); refine hC.mono fun e w' hret => ?_
      cases e with
      | returned v' =>
        obtain ⟨rfl, hb⟩ := hret
        exact ⟨ρ, Moved.grewWorld hr hb (by rw [hz]; exact Nat.zero_le _), .lit rfl⟩
      | panicked c => exact hret.elim
      | outgrown => exact hret.elim
    cases hf
  | false =>
    rw [hb] at hf; exact hS f xs h v h' hf
end Go.Fs
namespace Go.Fs
variable {P : Program} {fl : VL} {σ γ : Sto} {Q : PV → Sto → Prop} {fn : Func}
variable {p q r : ByteArray}
variable {x y : Operand} {T T' : TypeId}
end Go.Fs
namespace Go.Fs
variable {P : Program} {orc : FuncId → List Value → Heap → Option (Value × Heap)} {rnd : Option Nat} {h h' h0 h1 h2 : Heap} {S S' S0 : List Nat} {σ σ' : Sto} {t t' : Tr} {ms : List Nat} {fl : VL} {ops : Array Oper} {n i mem : Nat} {l : List Oper} {K : VL → Sto → Prop}
  {d : Tmp} {ty : TypeId} {pos : String} {after : Array Edge} {op : Op} {v pv : PV} {g : Option (Nat × Bool)} {x y z : Operand} {T T' e : TypeId} {τ τ' : Ty}
inductive FnL : List PV → List PV → Prop where
  | nil : FnL [] []
  | same {p : PV} {l l' : List PV} (hl : FnL l l') : FnL (p :: l) (p :: l')
  | fn {f : FuncId} {l l' : List PV} (hl : FnL l l') : FnL (.clo f [] [] :: l) (.v .fn (some f) :: l')
end Go.Fs
namespace Go.Fs
variable {P : Program} {orc : FuncId → List Value → Heap → Option (Value × Heap)} {rnd : Option Nat} {h h' h0 h1 h2 hr : Heap} {S S' S0 B G A : List Nat} {σ σ' σr ρ : Sto} {t t' : Tr} {ms : List Nat} {fl : VL} {ops : Array Oper} {n i mem : Nat} {l : List Oper} {K : VL → Sto → Prop} {Q : Ex → VL → Sto → Prop}
  {d : Tmp} {ty : TypeId} {pos : String} {after : Array Edge} {op : Op} {v pv : PV} {g : Option (Nat × Bool)} {x y z : Operand} {T T' e : TypeId} {τ τ' : Ty} {bs nw rd chg : List Nat} {segs : List (Nat × Nat × Nat)} {tail tl : Bool} {w w' : Value}
section
variable (P orc)
end
structure Late (hr h : Heap) (S0 A : List Nat) (σ ρ : Sto) (t : Tr) (fl : VL) (nw rd chg : List Nat) : Prop where
  ok : HOk hr
  lt : SLt hr (A ++ S0)
  next : hr.next ≤ h.next
  goes : Goes hr (A ++ S0) h (own σ ++ S0)
  slots : ∀ k pv, lkV fl k = some pv → nwHas nw k = false → RepPV hr (A ++ S0) pv (t.get k)
  suf : ∃ σ1, σ = σ1 ++ ρ
  cells : ∀ c ∈ ρ, CellR hr (A ++ S0) c.1 c.2
  fix : ∀ b ∈ own ρ, b ∈ A
  new : ∀ b ∈ own σ, b ∈ A ∨ hr.next ≤ b
  rd : ∀ b ∈ rd, b < hr.next ∧ (b ∈ own ρ ∨ b ∉ A)
  chg : ∀ k ∈ chg, k ∉ own ρ ∧ (k ∈ A ∨ hr.next ≤ k)
section
variable (P orc)
end
end Go.Fs
namespace Ieee
theorem cut_zero (neg : Bool) (n : Nat) : Toward.even.cut neg n 0 = n := by
  unfold Toward.cut; simp [Nat.mod_one]
theorem log2_le_of_dvd {n d : Nat} (hn : n ≠ 0) (h : 2 ^ d ∣ n) : d ≤ n.log2 := (Nat.le_log2 hn).2 (Nat.le_of_dvd (Nat.pos_of_ne_zero hn) h)
theorem cut_exact {neg : Bool} {way : Toward} {n d : Nat} (hn : n ≠ 0) (h : 2 ^ d ∣ n) : way.cut neg n d = n / 2 ^ d := by
  have h1 := log2_le_of_dvd hn h
  have h2 : min d (n.log2 + 2) = d := by omega
  have h3 : n % 2 ^ d = 0 := Nat.mod_eq_zero_of_dvd h; unfold Toward.cut; simp only [h2, Nat.one_shiftLeft, h3]; have hp : 0 < 2 ^ d := Nat.two_pow_pos d; cases way <;> simp <;> omega
namespace Format
variable (f : Format)
theorem read_word_sub {neg : Bool} {r : Nat} (h : r < f.binade) (hw : r < f.signWeight) : f.read (f.word neg r) = .number neg r f.leastPlace := by
  have e1 : f.word neg r % f.signWeight = r := by
    unfold word; cases neg
    · exact Nat.mod_eq_of_lt hw
    simp only [if_true]; rw [Nat.add_mod_left]; exact Nat.mod_eq_of_lt hw
  have e2 : (f.word neg r / f.signWeight % 2 == 1) = neg := by
    unfold word; have hp : 0 < f.signWeight := Nat.two_pow_pos _; cases neg
    · simp [Nat.div_eq_of_lt hw]
    simp only [if_true]; rw [Nat.add_div_left _ hp, Nat.div_eq_of_lt hw]; rfl
  unfold read; simp only [e1, e2, h, if_true]
theorem read_word_nor {neg : Bool} {r : Nat} (h : f.binade ≤ r) (hi : r < f.infRung) (hw : r < f.signWeight) : f.read (f.word neg r) = .number neg (f.binade + r % f.binade) (f.leastPlace + (r / f.binade - 1 : Nat)) := by
  have e1 : f.word neg r % f.signWeight = r := by
    unfold word; cases neg
    · exact Nat.mod_eq_of_lt hw
    simp only [if_true]; rw [Nat.add_mod_left]; exact Nat.mod_eq_of_lt hw
  have e2 : (f.word neg r / f.signWeight % 2 == 1) = neg := by
    unfold word; have hp : 0 < f.signWeight := Nat.two_pow_pos _; cases neg
    · simp [Nat.div_eq_of_lt hw]
    simp only [if_true]; rw [Nat.add_div_left _ hp, Nat.div_eq_of_lt hw]; rfl
  unfold read; simp only [e1, e2]; rw [if_neg (by omega), if_pos hi]
theorem infRung_sw : f.infRung < f.signWeight := by
  have h : 0 < 2 ^ f.exponentBits := Nat.two_pow_pos _; have hb : 0 < f.binade := Nat.two_pow_pos _
  have : f.infRung + f.binade = f.signWeight := by
    unfold infRung signWeight; rw [Nat.pow_add, ← Nat.succ_mul]; exact congrArg (· * f.binade) (by omega)
  omega
def lastOf (mag : Nat) (place : Int) : Int := max (place + mag.log2 - f.fractionBits) f.leastPlace
def keptOf (neg : Bool) (mag : Nat) (place : Int) : Nat := Toward.even.cut neg (mag <<< (place - f.lastOf mag place).toNat) (f.lastOf mag place - place).toNat
theorem read_nearest {neg : Bool} {mag : Nat} {place : Int} (hm : mag ≠ 0) {k : Nat} (hk : f.keptOf neg mag place = k) (hk2 : k < 2 * f.binade) (hsub : f.lastOf mag place = f.leastPlace ∨ f.binade ≤ k)
    (hfin : (f.lastOf mag place - f.leastPlace).toNat * f.binade + k < f.infRung) : f.read (f.nearest neg mag place) = .number neg k (f.lastOf mag place) := by
  have hl : f.leastPlace ≤ f.lastOf mag place := by unfold lastOf; omega
  have hb : 0 < f.binade := Nat.two_pow_pos _; have hsw := f.infRung_sw
  have hn : f.nearest neg mag place = f.word neg ((f.lastOf mag place - f.leastPlace).toNat * f.binade + k) := by
    unfold nearest; rw [if_neg hm]; show f.word neg (min ((f.lastOf mag place - f.leastPlace).toNat * f.binade + f.keptOf neg mag place) f.infRung) = _; rw [hk, Nat.min_eq_left (by omega)]
  rw [hn]; generalize hL : f.lastOf mag place = L at *; obtain ⟨d, rfl⟩ : ∃ d : Nat, L = f.leastPlace + d := ⟨(L - f.leastPlace).toNat, by omega⟩
  have e0 : (f.leastPlace + (d : Int) - f.leastPlace).toNat = d := by omega
  rw [e0] at hfin ⊢; by_cases hkb : k < f.binade
  · have hd : d = 0 := by rcases hsub with h | h <;> omega
    subst hd; rw [Nat.zero_mul, Nat.zero_add] at hfin ⊢; rw [f.read_word_sub hkb (by omega)]; simp
  have h1 : f.binade ≤ d * f.binade + k := by have := Nat.zero_le (d * f.binade); omega
  rw [f.read_word_nor h1 hfin (by omega)]
  have e1 : (d * f.binade + k) % f.binade = k - f.binade := by
    rw [Nat.add_comm, Nat.add_mul_mod_self_right, show k = (k - f.binade) + f.binade by omega, Nat.add_mod_right, Nat.mod_eq_of_lt (by omega)]; omega
  have e2 : (d * f.binade + k) / f.binade = d + 1 := by
    rw [Nat.add_comm, Nat.add_mul_div_right _ _ hb, show k = (k - f.binade) + f.binade by omega, Nat.add_div_right _ hb, Nat.div_eq_of_lt (by omega)]; omega
  rw [e1, e2]; congr 1; omega
theorem log2_mul_two_pow {c k : Nat} (hc : c ≠ 0) : (c * 2 ^ k).log2 = c.log2 + k := by
  have hp : 0 < 2 ^ k := Nat.two_pow_pos k; refine (Nat.log2_eq_iff (Nat.mul_ne_zero hc (by omega))).2 ⟨?_, ?_⟩
  · rw [Nat.pow_add]; exact Nat.mul_le_mul_right _ (Nat.log2_self_le hc)
  rw [show c.log2 + k + 1 = (c.log2 + 1) + k by omega, Nat.pow_add]; exact Nat.mul_lt_mul_of_pos_right (Nat.lt_log2_self) hp
theorem write_exact {neg : Bool} {mag c : Nat} {place q base : Int} (hm : mag ≠ 0) (hb1 : base ≤ place) (hb2 : base ≤ q) (hq : f.leastPlace ≤ q) (hc : c < 2 ^ (f.fractionBits + 1)) (heq : mag * 2 ^ (place - base).toNat = c * 2 ^ (q - base).toNat)
    (hfin : (q - f.leastPlace).toNat + 2 ≤ 2 ^ f.exponentBits - 1) : ∃ m p, f.read (f.nearest neg mag place) = .number neg m p ∧ f.leastPlace ≤ p ∧ m ≠ 0 ∧ m * 2 ^ (p - f.leastPlace).toNat = c * 2 ^ (q - f.leastPlace).toNat := by
  have hc0 : c ≠ 0 := by
    rintro rfl; rw [Nat.zero_mul] at heq; have hp : 0 < 2 ^ (place - base).toNat := Nat.two_pow_pos _; rcases Nat.mul_eq_zero.1 heq with h | h
    · exact hm h
    omega
  have hlog : mag.log2 + (place - base).toNat = c.log2 + (q - base).toNat := by
    rw [← log2_mul_two_pow hm, ← log2_mul_two_pow hc0, heq]
  have hcl : c.log2 ≤ f.fractionBits := by
    have := (Nat.log2_lt hc0).2 hc; omega
  obtain ⟨L, hL⟩ : ∃ L, f.lastOf mag place = L := ⟨_, rfl⟩
  have hLq : L ≤ q := by rw [← hL]; unfold lastOf; omega
  have hLl : f.leastPlace ≤ L := by rw [← hL]; unfold lastOf; omega
  have hLn : place + mag.log2 - f.fractionBits ≤ L := by rw [← hL]; unfold lastOf; omega
  have hLc : L = f.leastPlace ∨ L = place + mag.log2 - f.fractionBits := by rw [← hL]; unfold lastOf; omega
  -- what is kept is c * 2 ^ (q - L)
  have hkept : f.keptOf neg mag place = c * 2 ^ (q - L).toNat := by
    unfold keptOf; rw [hL]; by_cases hle : L ≤ place
    · have e1 : (L - place).toNat = 0 := by omega
      rw [e1, cut_zero, Nat.shiftLeft_eq]
      have hbL : min base L ≤ L := by omega
      have hp : 0 < 2 ^ (L - min base L).toNat := Nat.two_pow_pos _
      -- both sides times 2 ^ (L - b)
      have h1 : mag * 2 ^ (place - min base L).toNat = c * 2 ^ (q - min base L).toNat := by
        have e2 : (place - min base L).toNat = (place - base).toNat + (base - min base L).toNat := by omega
        have e3 : (q - min base L).toNat = (q - base).toNat + (base - min base L).toNat := by omega
        rw [e2, e3, Nat.pow_add, Nat.pow_add, ← Nat.mul_assoc, ← Nat.mul_assoc, heq]
      refine Nat.eq_of_mul_eq_mul_right hp ?_; rw [Nat.mul_assoc, Nat.mul_assoc, ← Nat.pow_add, ← Nat.pow_add]; rw [show (place - L).toNat + (L - min base L).toNat = (place - min base L).toNat by omega, show (q - L).toNat + (L - min base L).toNat = (q - min base L).toNat by omega]; exact h1
    have e1 : (place - L).toNat = 0 := by omega
    rw [e1, Nat.shiftLeft_zero]; have hbase : base ≤ place := hb1
    have hmag : mag = c * 2 ^ (q - place).toNat := by
      have hp : 0 < 2 ^ (place - base).toNat := Nat.two_pow_pos _; refine Nat.eq_of_mul_eq_mul_right hp ?_; rw [heq, Nat.mul_assoc, ← Nat.pow_add, show (q - place).toNat + (place - base).toNat = (q - base).toNat by omega]
    have hd : 2 ^ (L - place).toNat ∣ mag := by
      rw [hmag, show (q - place).toNat = (q - L).toNat + (L - place).toNat by omega, Nat.pow_add, ← Nat.mul_assoc]; exact Nat.dvd_mul_left _ _
    rw [cut_exact hm hd]; refine Nat.div_eq_of_eq_mul_left (Nat.two_pow_pos _) ?_; rw [hmag, Nat.mul_assoc, ← Nat.pow_add, show (q - L).toNat + (L - place).toNat = (q - place).toNat by omega]
  have hkl : (c * 2 ^ (q - L).toNat).log2 ≤ f.fractionBits := by
    rw [log2_mul_two_pow hc0]; omega
  have hk0 : c * 2 ^ (q - L).toNat ≠ 0 := by
    have := Nat.two_pow_pos (q - L).toNat; exact Nat.mul_ne_zero hc0 (by omega)
  have hkb : c * 2 ^ (q - L).toNat < 2 * f.binade := by
    have := (Nat.log2_lt hk0).1 (show (c * 2 ^ (q - L).toNat).log2 < f.fractionBits + 1 by omega); rw [Nat.pow_succ] at this; unfold binade; omega
  have hsub : f.lastOf mag place = f.leastPlace ∨ f.binade ≤ c * 2 ^ (q - L).toNat := by
    rw [hL]; rcases hLc with h | h
    · exact .inl h
    refine .inr ?_; unfold binade; refine (Nat.le_log2 hk0).1 ?_; rw [log2_mul_two_pow hc0]; omega
  have hfin2 : (f.lastOf mag place - f.leastPlace).toNat * f.binade + c * 2 ^ (q - L).toNat < f.infRung := by
    rw [hL]; unfold infRung
    have h1 : (L - f.leastPlace).toNat * f.binade + 2 * f.binade ≤ (2 ^ f.exponentBits - 1) * f.binade := by
      rw [← Nat.add_mul]; exact Nat.mul_le_mul_right _ (by omega)
    omega
  refine ⟨_, L, by have := f.read_nearest (neg := neg) hm hkept hkb hsub hfin2; rw [hL] at this; exact this, hLl, hk0, ?_⟩; rw [Nat.mul_assoc, ← Nat.pow_add, show (q - L).toNat + (L - f.leastPlace).toNat = (q - f.leastPlace).toNat by omega]
end Format
end Ieee
namespace Ieee
def sg (s : Bool) (r : Nat) : Int := if s then -(r : Int) else r
theorem signed_eq (s : Bool) (m k : Nat) : signed s m k = sg s (m * 2 ^ k) := by
  unfold signed sg; rw [Nat.shiftLeft_eq]
theorem sg_mul (s : Bool) (a b : Nat) : sg s (a * b) = sg s a * b := by
  unfold sg; cases s <;> simp [Int.neg_mul]
theorem sg_prod (s t : Bool) (a b : Nat) : sg s a * sg t b = sg (s ^^ t) (a * b) := by
  unfold sg; cases s <;> cases t <;> simp [Int.neg_mul, Int.mul_neg]
theorem sg_natAbs (s : Bool) (a : Nat) : (sg s a).natAbs = a := by unfold sg; cases s <;> simp
theorem sg_zero (s : Bool) : sg s 0 = 0 := by unfold sg; cases s <;> rfl
namespace Format
variable (f : Format)
def units (x : Nat) : Option Int := match f.read x with
  | .number s m p => some (sg s (m * 2 ^ (p - f.leastPlace).toNat))
  | _ => none
def Rep (r : Nat) : Prop := ∃ c k, r = c * 2 ^ k ∧ c < 2 ^ (f.fractionBits + 1) ∧ k + 2 ≤ 2 ^ f.exponentBits - 1
variable {f}
theorem units_inv {x : Nat} {u : Int} (h : f.units x = some u) : ∃ s m p, f.read x = .number s m p ∧ f.leastPlace ≤ p ∧ u = sg s (m * 2 ^ (p - f.leastPlace).toNat) := by
  unfold units at h; split at h
  · rename_i s m p hr; refine ⟨s, m, p, hr, ?_, (Option.some.inj h).symm⟩; unfold read at hr; dsimp only at hr; split at hr
    · cases hr; omega
    split at hr
    · cases hr; omega
    split at hr <;> cases hr
  cases h
theorem units_none {x : Nat} (h : f.units x = none) : (∃ s, f.read x = .infinity s) ∨ ∃ s t, f.read x = .nan s t := by
  unfold units at h; split at h
  · cases h
  rename_i hn
  cases hr : f.read x with
  | number s m p => exact absurd hr (hn s m p)
  | infinity s => exact .inl ⟨s, rfl⟩
  | nan s t => exact .inr ⟨s, t, rfl⟩
theorem sub_zero_place (p : Int) : (p - p).toNat = 0 := by omega
theorem write_units {s : Bool} {m r : Nat} {p : Int} (base : Int) (hb1 : base ≤ p) (hb2 : base ≤ f.leastPlace) (heq : m * 2 ^ (p - base).toNat = r * 2 ^ (f.leastPlace - base).toNat) (hr : f.Rep r) (hg : 0 < f.exponentBits ∧ 0 < f.fractionBits) :
    f.units (f.write (.number s m p)) = some (sg s r) := by
  have hp1 : 0 < 2 ^ (p - base).toNat := Nat.two_pow_pos _; have hp2 : 0 < 2 ^ (f.leastPlace - base).toNat := Nat.two_pow_pos _; by_cases hm : m = 0
  · subst hm
    have h0 : r = 0 := by
      rw [Nat.zero_mul] at heq; rcases Nat.mul_eq_zero.1 heq.symm with h | h
      · exact h
      omega
    subst h0; have hbin : 0 < f.binade := Nat.two_pow_pos _; have hsw : 0 < f.signWeight := Nat.two_pow_pos _
    have : f.read (f.write (.number s 0 p)) = .number s 0 f.leastPlace := by
      show f.read (f.nearest s 0 p) = _; unfold nearest; rw [if_pos rfl]; exact f.read_word_sub hbin hsw
    unfold units; rw [this]; simp
  obtain ⟨c, k, rfl, hc, hk⟩ := hr
  have heq2 : m * 2 ^ (p - base).toNat = c * 2 ^ ((f.leastPlace + k) - base).toNat := by
    rw [heq, Nat.mul_assoc, ← Nat.pow_add]; congr 2; omega
  obtain ⟨m', p', h1, h2, h3, h4⟩ := f.write_exact (neg := s) hm hb1 (show base ≤ f.leastPlace + k by omega) (by omega) hc heq2 (by omega); unfold units; show (match f.read (f.nearest s m p) with | .number s m p => some (sg s (m * 2 ^ (p - f.leastPlace).toNat)) | _ => none) = _; rw [h1]; simp only; rw [h4]; congr 4; omega
theorem order_units {x y : Nat} {u v : Int} (hx : f.units x = some u) (hy : f.units y = some v) : f.order x y = some (compare u v) := by
  obtain ⟨s, m, p, h1, h2, rfl⟩ := units_inv hx; obtain ⟨t, n, q, h3, h4, rfl⟩ := units_inv hy; unfold order; rw [h1, h3]; unfold Datum.order; simp only; rw [signed_eq, signed_eq]; congr 1
  have hb : f.leastPlace ≤ min p q := by omega
  have e1 : sg s (m * 2 ^ (p - f.leastPlace).toNat) = sg s (m * 2 ^ (p - min p q).toNat) * ((2 ^ (min p q - f.leastPlace).toNat : Nat) : Int) := by
    rw [← sg_mul, Nat.mul_assoc, ← Nat.pow_add]; congr 3; omega
  have e2 : sg t (n * 2 ^ (q - f.leastPlace).toNat) = sg t (n * 2 ^ (q - min p q).toNat) * ((2 ^ (min p q - f.leastPlace).toNat : Nat) : Int) := by
    rw [← sg_mul, Nat.mul_assoc, ← Nat.pow_add]; congr 3; omega
  rw [e1, e2]
  have hp : (0 : Int) < ((2 ^ (min p q - f.leastPlace).toNat : Nat) : Int) := by have := Nat.two_pow_pos (min p q - f.leastPlace).toNat; omega
  generalize sg s (m * 2 ^ (p - min p q).toNat) = a; generalize sg t (n * 2 ^ (q - min p q).toNat) = b; generalize ((2 ^ (min p q - f.leastPlace).toNat : Nat) : Int) = k at hp; show compareOfLessAndEq a b = compareOfLessAndEq (a * k) (b * k); unfold compareOfLessAndEq; have h1 : a < b ↔ a * k < b * k := (Int.mul_lt_mul_right hp).symm; have h2 : a = b ↔ a * k = b * k := ⟨fun h => by rw [h], fun h => Int.eq_of_mul_eq_mul_right (by omega) h⟩; by_cases h3 : a < b
  · rw [if_pos h3, if_pos (h1.1 h3)]
  rw [if_neg h3, if_neg (fun h => h3 (h1.2 h))]; by_cases h4 : a = b
  · rw [if_pos h4, if_pos (h2.1 h4)]
  rw [if_neg h4, if_neg (fun h => h4 (h2.2 h))]
end Format
end Ieee
namespace Ieee
namespace Format
variable {f g : Format}
theorem sg_neg_of (t : Int) (h : t ≠ 0) : sg (decide (t < 0)) t.natAbs = t := by
  unfold sg; by_cases h1 : t < 0
  · rw [if_pos (by simpa using h1)]; omega
  rw [if_neg (by simpa using h1)]; omega
theorem sg_zero_of (s : Bool) {t : Int} (h : t = 0) : sg s t.natAbs = t := by
  subst h; simp [sg_zero]
theorem mul_exact {x y : Nat} {u v r : Int} (hx : f.units x = some u) (hy : f.units y = some v) (hl : f.leastPlace ≤ 0) (h : u * v = r * (2 ^ (-f.leastPlace).toNat : Nat)) (hr : f.Rep r.natAbs) (hg : 0 < f.exponentBits ∧ 0 < f.fractionBits) :
    ∃ w, f.mul x y = some w ∧ f.units w = some r := by
  obtain ⟨s, m, p, h1, h2, rfl⟩ := units_inv hx; obtain ⟨t, n, q, h3, h4, rfl⟩ := units_inv hy; unfold mul; rw [h1, h3]; refine ⟨_, rfl, ?_⟩; have hk := congrArg Int.natAbs h; rw [sg_prod, sg_natAbs, Int.natAbs_mul, Int.natAbs_natCast] at hk
  have hb : 2 * f.leastPlace ≤ p + q := by omega
  rw [write_units (r := r.natAbs) (2 * f.leastPlace) hb (by omega) ?_ hr hg]
  · congr 1
    have hs : sg (s ^^ t) (m * 2 ^ (p - f.leastPlace).toNat * (n * 2 ^ (q - f.leastPlace).toNat)) = r * (2 ^ (-f.leastPlace).toNat : Nat) := by rw [← sg_prod, h]
    have hpos : (0 : Int) < ((2 ^ (-f.leastPlace).toNat : Nat) : Int) := by have := Nat.two_pow_pos (-f.leastPlace).toNat; omega
    rw [hk, sg_mul] at hs; exact Int.eq_of_mul_eq_mul_right (by omega) hs
  rw [show (p + q - 2 * f.leastPlace).toNat = (p - f.leastPlace).toNat + (q - f.leastPlace).toNat by omega, show (f.leastPlace - 2 * f.leastPlace).toNat = (-f.leastPlace).toNat by omega, ← hk, Nat.pow_add]; simp only [Nat.mul_comm, Nat.mul_left_comm, Nat.mul_assoc]
theorem sum_units {x y : Nat} {u v : Int} (hx : f.units x = some u) (hy : f.units y = some v) : ∃ s m p, (f.read x).sum (f.read y) = some (.number s m p) ∧ f.leastPlace ≤ p ∧ sg s (m * 2 ^ (p - f.leastPlace).toNat) = u + v := by
  obtain ⟨s, m, p, h1, h2, rfl⟩ := units_inv hx; obtain ⟨t, n, q, h3, h4, rfl⟩ := units_inv hy; rw [h1, h3]; refine ⟨_, _, _, rfl, by omega, ?_⟩; rw [signed_eq, signed_eq]
  have e1 : sg s (m * 2 ^ (p - f.leastPlace).toNat) = sg s (m * 2 ^ (p - min p q).toNat) * ((2 ^ (min p q - f.leastPlace).toNat : Nat) : Int) := by
    rw [← sg_mul, Nat.mul_assoc, ← Nat.pow_add]; congr 3; omega
  have e2 : sg t (n * 2 ^ (q - f.leastPlace).toNat) = sg t (n * 2 ^ (q - min p q).toNat) * ((2 ^ (min p q - f.leastPlace).toNat : Nat) : Int) := by
    rw [← sg_mul, Nat.mul_assoc, ← Nat.pow_add]; congr 3; omega
  rw [e1, e2, ← Int.add_mul]; generalize sg s (m * 2 ^ (p - min p q).toNat) + sg t (n * 2 ^ (q - min p q).toNat) = T; rw [sg_mul]; congr 1; by_cases hT : T = 0
  · rw [if_pos hT]; exact sg_zero_of _ hT
  rw [if_neg hT]; exact sg_neg_of T hT
theorem add_exact {x y : Nat} {u v r : Int} (hx : f.units x = some u) (hy : f.units y = some v) (h : u + v = r) (hr : f.Rep r.natAbs) (hg : 0 < f.exponentBits ∧ 0 < f.fractionBits) : ∃ w, f.add x y = some w ∧ f.units w = some r := by
  obtain ⟨s, m, p, h1, h2, h3⟩ := sum_units hx hy; unfold add; rw [h1]; refine ⟨_, rfl, ?_⟩
  have hk : m * 2 ^ (p - f.leastPlace).toNat = r.natAbs := by
    rw [← h, ← h3, sg_natAbs]
  rw [write_units (r := r.natAbs) f.leastPlace h2 (Int.le_refl _) (by rw [hk, sub_zero_place]; simp) hr hg, ← hk, h3, h]
theorem opp_read {y : Nat} {v : Int} (hy : f.units y = some v) : ∃ s m p, (f.read y).opposite = .number s m p ∧ f.leastPlace ≤ p ∧ sg s (m * 2 ^ (p - f.leastPlace).toNat) = -v := by
  obtain ⟨t, n, q, h3, h4, rfl⟩ := units_inv hy; rw [h3]; refine ⟨_, _, _, rfl, h4, ?_⟩; unfold sg; cases t <;> simp
theorem sub_exact {x y : Nat} {u v r : Int} (hx : f.units x = some u) (hy : f.units y = some v) (h : u - v = r) (hr : f.Rep r.natAbs) (hg : 0 < f.exponentBits ∧ 0 < f.fractionBits) : ∃ w, f.sub x y = some w ∧ f.units w = some r := by
  obtain ⟨s, m, p, h1, h2, rfl⟩ := units_inv hx; obtain ⟨t, n, q, h3, h4, h5⟩ := opp_read hy; unfold sub; rw [h1, h3]; refine ⟨_, rfl, ?_⟩
  have e1 : sg s (m * 2 ^ (p - f.leastPlace).toNat) = sg s (m * 2 ^ (p - min p q).toNat) * ((2 ^ (min p q - f.leastPlace).toNat : Nat) : Int) := by
    rw [← sg_mul, Nat.mul_assoc, ← Nat.pow_add]; congr 3; omega
  have e2 : sg t (n * 2 ^ (q - f.leastPlace).toNat) = sg t (n * 2 ^ (q - min p q).toNat) * ((2 ^ (min p q - f.leastPlace).toNat : Nat) : Int) := by
    rw [← sg_mul, Nat.mul_assoc, ← Nat.pow_add]; congr 3; omega
  have hT : (signed s m (p - min p q).toNat + signed t n (q - min p q).toNat) * ((2 ^ (min p q - f.leastPlace).toNat : Nat) : Int) = r := by
    rw [signed_eq, signed_eq, Int.add_mul, ← e1, ← e2, h5, ← h]; omega
  generalize signed s m (p - min p q).toNat + signed t n (q - min p q).toNat = T at hT ⊢
  have hk : T.natAbs * 2 ^ (min p q - f.leastPlace).toNat = r.natAbs := by
    rw [← hT, Int.natAbs_mul, Int.natAbs_natCast]
  rw [write_units (r := r.natAbs) f.leastPlace (by omega) (Int.le_refl _) (by rw [hk, sub_zero_place]; simp) hr hg, ← hk, sg_mul, ← hT]; congr 2; by_cases hT : T = 0
  · rw [if_pos hT]; exact sg_zero_of _ hT
  rw [if_neg hT]; exact sg_neg_of T hT
theorem sub_self_none {x : Nat} (hx : f.units x = none) : f.sub x x = none := by
  unfold sub; rcases units_none hx with ⟨s, h⟩ | ⟨s, t, h⟩ <;> rw [h]
  · cases s <;> rfl
  rfl
theorem toInt_units {x : Nat} {u : Int} (hx : f.units x = some u) (hl : f.leastPlace ≤ 0) : (f.read x).toInt .zero = some (u.tdiv (2 ^ (-f.leastPlace).toNat : Nat)) := by
  obtain ⟨s, m, p, h1, h2, rfl⟩ := units_inv hx; rw [h1]; show some (signed s (Toward.zero.cut s (m <<< p.toNat) (-p).toNat) 0) = _; congr 1; rw [signed_eq, Nat.pow_zero, Nat.mul_one]
  have hcut : Toward.zero.cut s (m <<< p.toNat) (-p).toNat = (m * 2 ^ p.toNat) / 2 ^ (-p).toNat := by
    rw [Nat.shiftLeft_eq]; generalize m * 2 ^ p.toNat = M; unfold Toward.cut; simp only [Nat.one_shiftLeft, Bool.toNat_false, Nat.add_zero]; by_cases hle : (-p).toNat ≤ M.log2 + 2
    · rw [Nat.min_eq_left hle]
    rw [Nat.min_eq_right (by omega)]; have hM : M < 2 ^ (M.log2 + 2) := Nat.lt_trans (Nat.lt_log2_self) (Nat.pow_lt_pow_right (by omega) (by omega)); rw [Nat.div_eq_of_lt hM, Nat.div_eq_of_lt (Nat.lt_of_lt_of_le hM (Nat.pow_le_pow_right (by omega) (by omega)))]
  rw [hcut]
  have hdiv : m * 2 ^ (p - f.leastPlace).toNat / 2 ^ (-f.leastPlace).toNat = m * 2 ^ p.toNat / 2 ^ (-p).toNat := by
    by_cases hp : 0 ≤ p
    · rw [show (p - f.leastPlace).toNat = p.toNat + (-f.leastPlace).toNat by omega, Nat.pow_add, ← Nat.mul_assoc, Nat.mul_div_cancel _ (Nat.two_pow_pos _), show (-p).toNat = 0 by omega]; simp
    rw [show (-f.leastPlace).toNat = (-p).toNat + (p - f.leastPlace).toNat by omega, Nat.pow_add, Nat.mul_div_mul_right _ _ (Nat.two_pow_pos _), show p.toNat = 0 by omega]; simp
  rw [← hdiv]; generalize m * 2 ^ (p - f.leastPlace).toNat = a; unfold sg
  cases s with
  | false => simp
  | true => simp [Int.neg_tdiv]
theorem ofInt_units {n : Int} (hl : f.leastPlace ≤ 0) (hr : f.Rep (n.natAbs * 2 ^ (-f.leastPlace).toNat)) (hg : 0 < f.exponentBits ∧ 0 < f.fractionBits) : f.units (f.write (.number (n < 0) n.natAbs 0)) = some (n * (2 ^ (-f.leastPlace).toNat : Nat)) := by
  rw [write_units (r := n.natAbs * 2 ^ (-f.leastPlace).toNat) f.leastPlace hl (Int.le_refl _) (by rw [sub_zero_place, show (0 - f.leastPlace).toNat = (-f.leastPlace).toNat by omega]; simp) hr hg, sg_mul]; congr 2; by_cases h : n = 0
  · subst h; rfl
  exact sg_neg_of n h
theorem widen_units {x : Nat} {u : Int} (hx : f.units x = some u) (hle : g.leastPlace ≤ f.leastPlace) (hr : g.Rep (u.natAbs * 2 ^ (f.leastPlace - g.leastPlace).toNat)) (hg : 0 < g.exponentBits ∧ 0 < g.fractionBits) : g.units (g.write (f.read x)) = some (u * (2 ^ (f.leastPlace - g.leastPlace).toNat : Nat)) := by
  obtain ⟨s, m, p, h1, h2, rfl⟩ := units_inv hx; rw [h1]; rw [sg_natAbs] at hr; rw [write_units (r := m * 2 ^ (p - f.leastPlace).toNat * 2 ^ (f.leastPlace - g.leastPlace).toNat) g.leastPlace (by omega) (Int.le_refl _) ?_ hr hg, sg_mul]; rw [sub_zero_place, Nat.pow_zero, Nat.mul_one, Nat.mul_assoc, ← Nat.pow_add]; congr 2; omega
theorem floor_units {x : Nat} {u : Int} (hx : f.units x = some u) (hl : f.leastPlace ≤ 0) (hr : f.Rep (u.fdiv (2 ^ (-f.leastPlace).toNat : Nat) * (2 ^ (-f.leastPlace).toNat : Nat)).natAbs) (hg : 0 < f.exponentBits ∧ 0 < f.fractionBits) :
    f.units (f.write ((f.read x).integral .down)) = some (u.fdiv (2 ^ (-f.leastPlace).toNat : Nat) * (2 ^ (-f.leastPlace).toNat : Nat)) := by
  obtain ⟨s, m, p, h1, h2, rfl⟩ := units_inv hx; rw [h1]; show f.units (f.write (.number s (Toward.down.cut s (m <<< p.toNat) (-p).toNat) 0)) = _
  have hcut : sg s (Toward.down.cut s (m <<< p.toNat) (-p).toNat) = (sg s (m * 2 ^ (p - f.leastPlace).toNat)).fdiv (2 ^ (-f.leastPlace).toNat : Nat) := by
    have key : ∀ (M d : Nat), sg s (Toward.down.cut s M d) = (sg s M).fdiv (2 ^ d : Nat) := by
      intro M d
      have hsmall : Toward.down.cut s M d = M / 2 ^ d + (s && decide (M % 2 ^ d ≠ 0)).toNat := by
        unfold Toward.cut; simp only [Nat.one_shiftLeft]; by_cases hle : d ≤ M.log2 + 2
        · rw [Nat.min_eq_left hle]; congr 2; cases s <;> first | rfl | (by_cases hz : M % 2 ^ d = 0 <;> simp [hz])
        rw [Nat.min_eq_right (by omega)]; have hM : M < 2 ^ (M.log2 + 2) := Nat.lt_trans (Nat.lt_log2_self) (Nat.pow_lt_pow_right (by omega) (by omega)); have hM2 : M < 2 ^ d := Nat.lt_of_lt_of_le hM (Nat.pow_le_pow_right (by omega) (by omega)); rw [Nat.div_eq_of_lt hM, Nat.div_eq_of_lt hM2, Nat.mod_eq_of_lt hM, Nat.mod_eq_of_lt hM2]; congr 2; cases s <;> first | rfl | (by_cases hz : M = 0 <;> simp [hz])
      rw [hsmall]; have hp : 0 < 2 ^ d := Nat.two_pow_pos d; generalize 2 ^ d = D at hp; unfold sg
      cases s with
      | false =>
        simp only [Bool.false_and, Bool.toNat_false, Nat.add_zero, Bool.false_eq_true, if_false]
        rw [Int.fdiv_eq_ediv_of_nonneg _ (by omega)]; rfl
      | true =>
        simp only [Bool.true_and, if_true]; rw [Int.fdiv_eq_ediv_of_nonneg _ (by omega)]; have hd := Nat.div_add_mod M D; have hm := Nat.mod_lt M hp; by_cases hz : M % D = 0
        · rw [show decide (M % D ≠ 0) = false by simpa using hz]; rw [Bool.toNat_false, Nat.add_zero]; refine (Int.ediv_eq_of_eq_mul_left (by omega) ?_).symm
          have : M = D * (M / D) := by omega
          have h3 : ((M : Nat) : Int) = (D : Int) * ((M / D : Nat) : Int) := by rw [← Int.natCast_mul, ← this]
          rw [h3, Int.neg_mul, Int.mul_comm]
        rw [show decide (M % D ≠ 0) = true by simpa using hz]; rw [Bool.toNat_true]
        have h3 : ((M : Nat) : Int) = (D : Int) * ((M / D : Nat) : Int) + ((M % D : Nat) : Int) := by rw [← Int.natCast_mul, ← Int.natCast_add, hd]
        have h4 : (-(M : Int)) = ((D : Int) - ((M % D : Nat) : Int)) + (D : Int) * (-(((M / D + 1 : Nat)) : Int)) := by
          rw [h3, Int.natCast_add, Int.mul_neg, Int.mul_add]; simp; omega
        rw [h4, Int.add_mul_ediv_left _ _ (by omega), Int.ediv_eq_zero_of_lt (by omega) (by omega)]; omega
    rw [key, Nat.shiftLeft_eq]; by_cases hp : 0 ≤ p
    · rw [show (p - f.leastPlace).toNat = p.toNat + (-f.leastPlace).toNat by omega, Nat.pow_add, ← Nat.mul_assoc, show (-p).toNat = 0 by omega, sg_mul s (m * 2 ^ p.toNat)]
      have hq : (0 : Int) < ((2 ^ (-f.leastPlace).toNat : Nat) : Int) := by have := Nat.two_pow_pos (-f.leastPlace).toNat; omega
      rw [Int.mul_fdiv_cancel _ (by omega)]; simp
    rw [show (-f.leastPlace).toNat = (-p).toNat + (p - f.leastPlace).toNat by omega, Nat.pow_add, show p.toNat = 0 by omega, Nat.pow_zero, Nat.mul_one, sg_mul s m, Int.natCast_mul]
    have hq : (0 : Int) < ((2 ^ (p - f.leastPlace).toNat : Nat) : Int) := by have := Nat.two_pow_pos (p - f.leastPlace).toNat; omega
    have hq2 : (0 : Int) < ((2 ^ (-p).toNat : Nat) : Int) := by have := Nat.two_pow_pos (-p).toNat; omega
    rw [Int.fdiv_eq_ediv_of_nonneg _ (by omega), Int.fdiv_eq_ediv_of_nonneg _ (by have := Int.mul_pos hq2 hq; omega), Int.mul_ediv_mul_of_pos_left _ _ hq]
  rw [← hcut] at hr ⊢; rw [← sg_mul, sg_natAbs] at hr; rw [write_units (r := Toward.down.cut s (m <<< p.toNat) (-p).toNat * 2 ^ (-f.leastPlace).toNat) f.leastPlace hl (Int.le_refl _) (by rw [sub_zero_place, show (0 - f.leastPlace).toNat = (-f.leastPlace).toNat by omega]; simp) hr hg, sg_mul]
end Format
end Ieee
namespace Ieee
open Format
theorem sng_good : 0 < single.exponentBits ∧ 0 < single.fractionBits := by decide
theorem dbl_good : 0 < double.exponentBits ∧ 0 < double.fractionBits := by decide
theorem units_repr {f : Format} {x : Nat} {u : Int} (h : f.units x = some u) : ∃ c k, u.natAbs = c * 2 ^ k ∧ c < 2 ^ (f.fractionBits + 1) ∧ (c = 0 → k = 0) := by
  obtain ⟨s, m, p, h1, h2, rfl⟩ := units_inv h
  have hm : m < 2 ^ (f.fractionBits + 1) := by
    have hb : 0 < f.binade := Nat.two_pow_pos _
    have h2b : 2 ^ (f.fractionBits + 1) = 2 * f.binade := by rw [Nat.pow_succ, Nat.mul_comm]; rfl
    rw [h2b]; unfold Format.read at h1; dsimp only at h1; split at h1
    · cases h1; omega
    split at h1
    · cases h1; have := Nat.mod_lt (x % f.signWeight) hb; omega
    split at h1 <;> cases h1
  rw [sg_natAbs]; by_cases h0 : m = 0
  · exact ⟨0, 0, by rw [h0]; simp, Nat.two_pow_pos _, fun _ => rfl⟩
  exact ⟨m, _, rfl, hm, fun e => absurd e h0⟩
theorem rep_of {f g : Format} {x : Nat} {u : Int} (h : f.units x = some u) (hle : f.fractionBits ≤ g.fractionBits) {B j : Nat} (hB : u.natAbs ≤ 2 ^ B) (hj : B + j + 2 ≤ 2 ^ g.exponentBits - 1) : g.Rep (u.natAbs * 2 ^ j) := by
  obtain ⟨c, k, h1, h2, h3⟩ := units_repr h; by_cases h0 : c = 0
  · refine ⟨0, 0, by rw [h1, h0]; simp, Nat.two_pow_pos _, by omega⟩
  refine ⟨c, k + j, by rw [h1, Nat.mul_assoc, ← Nat.pow_add], Nat.lt_of_lt_of_le h2 (Nat.pow_le_pow_right (by omega) (by omega)), ?_⟩
  have hk : k ≤ B := by
    have : 2 ^ k ≤ 2 ^ B := by
      refine Nat.le_trans ?_ hB; rw [h1]; exact Nat.le_mul_of_pos_left _ (by omega)
    exact (Nat.pow_le_pow_iff_right (by omega)).1 this
  omega
theorem rep_small {f : Format} {n j : Nat} (hn : n < 2 ^ (f.fractionBits + 1)) (hj : j + 2 ≤ 2 ^ f.exponentBits - 1) : f.Rep (n * 2 ^ j) := ⟨n, j, rfl, hn, hj⟩
abbrev u32 (x : Nat) : Option Int := single.units x
abbrev u64 (x : Nat) : Option Int := double.units x
theorem m149 : (2 ^ (-single.leastPlace).toNat : Nat) = 713623846352979940529142984724747568191373312 := by decide
def lvlE (x : Nat) : Int := match u32 x with
  | none => 1
  | some u => if (-45671926166590716193865151022383844364247891968 ≤ u ∧ u ≤ 45671926166590716193865151022383844364247891968) ∧ u % 44601490397061246283071436545296723011960832 = 0 then 0 else 3
def sxE (x : Nat) : Int := match u32 x with
  | none => 0
  | some u => u / 44601490397061246283071436545296723011960832
theorem lvl_ok {x : Nat} (h : lvlE x = 0) : u32 x = some (sxE x * 44601490397061246283071436545296723011960832) ∧ -1024 ≤ sxE x ∧ sxE x ≤ 1024 := by
  unfold lvlE at h; split at h
  · cases h
  rename_i u hu; split at h
  · rename_i hc; unfold sxE; rw [hu]; simp only; have hd := Int.mul_ediv_add_emod u 44601490397061246283071436545296723011960832; refine ⟨?_, by omega, by omega⟩; congr 1; omega
  cases h
theorem lvl_of {x : Nat} {n : Int} (h : u32 x = some (n * 44601490397061246283071436545296723011960832)) (h0 : -1024 ≤ n) (h1 : n ≤ 1024) : lvlE x = 0 ∧ sxE x = n := by
  unfold lvlE sxE; rw [h]; simp only; refine ⟨?_, ?_⟩
  · rw [if_pos]; exact ⟨by omega, by rw [Int.mul_emod_left]⟩
  rw [Int.mul_ediv_cancel _ (by decide)]
theorem mul16 {x w : Nat} {u : Int} (hw : u32 w = some (16 * 713623846352979940529142984724747568191373312)) (h : u32 x = some u) (h0 : u.natAbs ≤ 45671926166590716193865151022383844364247891968) : ∃ r, single.mul x w = some r ∧ u32 r = some (16 * u) := by
  refine mul_exact h hw (by decide) ?_ ?_ sng_good
  · rw [m149, Int.mul_comm 16 u, Int.mul_assoc]; rfl
  have := rep_of (g := single) h (Nat.le_refl _) (B := 155) (j := 4) (Nat.le_trans h0 (by decide)) (by decide)
  rwa [show (16 * u).natAbs = u.natAbs * 2 ^ 4 by omega]
theorem toInt32 {x : Nat} {u : Int} (h : u32 x = some u) : (single.read x).toInt .zero = some (u.tdiv 713623846352979940529142984724747568191373312) := by
  rw [toInt_units h (by decide), m149]; rfl
theorem ofInt32 {n : Int} (h : n.natAbs < 2 ^ 24) : u32 (single.write (.number (n < 0) n.natAbs 0)) = some (n * 713623846352979940529142984724747568191373312) := by
  rw [u32, ofInt_units (by decide) (rep_small h (by decide)) sng_good, m149]; rfl
theorem add32 {x y : Nat} {u v : Int} (hx : u32 x = some u) (hy : u32 y = some v) (hr : single.Rep (u + v).natAbs) : ∃ r, single.add x y = some r ∧ u32 r = some (u + v) := add_exact hx hy rfl hr sng_good
theorem sub_self32 {x : Nat} {u : Int} (hx : u32 x = some u) : ∃ r, single.sub x x = some r ∧ u32 r = some 0 := sub_exact hx hx (by omega) ⟨0, 0, rfl, by decide, by decide⟩ sng_good
def kW : Nat := 2 ^ (single.leastPlace - double.leastPlace).toNat
theorem kW_pos : 0 < kW := Nat.two_pow_pos _
def e300 : Nat := 300
theorem widen {x : Nat} {u : Int} (hx : u32 x = some u) (h0 : u.natAbs ≤ 2 ^ e300) : u64 (double.write (single.read x)) = some (u * (kW : Nat)) := by
  have := widen_units (g := double) hx (by decide) (rep_of (g := double) hx (by decide) (B := e300) h0 (by decide +kernel)) dbl_good; rw [u64, this]; rfl
end Ieee
namespace Ieee
open Format
theorem n1074 : (2 ^ (-double.leastPlace).toNat : Nat) = 713623846352979940529142984724747568191373312 * kW := by decide +kernel
theorem u32_bound {x : Nat} {u : Int} (h : u32 x = some u) : u.natAbs ≤ 2 ^ e300 := by
  obtain ⟨s, m, p, h1, h2, rfl⟩ := units_inv h; rw [sg_natAbs]; have hb : 0 < single.binade := Nat.two_pow_pos _
  have eb : single.binade = 8388608 := by decide
  have ei : single.infRung = 2139095040 := by decide
  have hm : m < 2 ^ 24 ∧ (p - single.leastPlace).toNat ≤ 253 := by
    unfold Format.read at h1; dsimp only at h1; split at h1
    · cases h1; omega
    split at h1
    · rename_i h3 h4; cases h1; have h5 := Nat.mod_lt (x % single.signWeight) hb; rw [eb] at h5 ⊢; rw [ei] at h4; omega
    split at h1 <;> cases h1
  have h3 : 2 ^ (p - single.leastPlace).toNat ≤ 2 ^ 253 := Nat.pow_le_pow_right (by omega) hm.2; have h4 : m * 2 ^ (p - single.leastPlace).toNat ≤ 2 ^ 24 * 2 ^ 253 := Nat.mul_le_mul (by omega) h3; exact Nat.le_trans h4 (by decide +kernel)
theorem mul16w {x y w : Nat} {u : Int} (hw : u64 w = some ((16 : Int) * ((713623846352979940529142984724747568191373312 * kW : Nat) : Int))) (hx : u32 x = some u) (hy : u64 y = some (u * (kW : Nat))) (h0 : u.natAbs ≤ 2 ^ e300) : ∃ r, double.mul w y = some r ∧ u64 r = some (16 * (u * (kW : Nat))) := by
  refine mul_exact hw hy (by decide) ?_ ?_ dbl_good
  · rw [n1074, Int.mul_assoc, Int.mul_comm _ (u * (kW : Nat)), ← Int.mul_assoc]
  have := rep_of (g := double) hx (by decide) (B := e300) (j := 4 + (single.leastPlace - double.leastPlace).toNat) h0 (by decide +kernel); rw [Nat.pow_add, ← Nat.mul_assoc] at this
  rwa [show (16 * (u * (kW : Nat))).natAbs = u.natAbs * 2 ^ 4 * kW by rw [Int.natAbs_mul, Int.natAbs_mul, Int.natAbs_natCast, ← Nat.mul_assoc, Nat.mul_comm u.natAbs]; rfl]
theorem floor_mul {a k : Int} (hk : 0 < k) : (a * k).fdiv (713623846352979940529142984724747568191373312 * k) = a / 713623846352979940529142984724747568191373312 := by
  rw [Int.fdiv_eq_ediv_of_nonneg _ (by omega), Int.mul_ediv_mul_of_pos_left _ _ hk]
theorem kW_int : (0 : Int) < (kW : Int) := by have := kW_pos; omega
theorem cast_mk : ((713623846352979940529142984724747568191373312 * kW : Nat) : Int) = 713623846352979940529142984724747568191373312 * (kW : Int) := by rw [Int.natCast_mul]; rfl
theorem floorw {r : Nat} {u : Int} (hr : u64 r = some (16 * (u * (kW : Nat)))) (h0 : -45671926166590716193865151022383844364247891968 ≤ u ∧ u ≤ 45671926166590716193865151022383844364247891968) :
    u64 (double.write ((double.read r).integral .down)) = some (16 * u / 713623846352979940529142984724747568191373312 * (713623846352979940529142984724747568191373312 * kW : Nat)) := by
  have hf : (16 * (u * (kW : Nat))).fdiv (2 ^ (-double.leastPlace).toNat : Nat) = 16 * u / 713623846352979940529142984724747568191373312 := by
    rw [n1074, cast_mk, ← Int.mul_assoc]; exact floor_mul kW_int
  have := floor_units hr (by decide) (by
    rw [hf, Int.natAbs_mul, Int.natAbs_natCast]; refine rep_small ?_ (by decide)
    have : (16 * u / 713623846352979940529142984724747568191373312).natAbs < 2000 := by omega
    exact Nat.lt_of_lt_of_le this (by decide)) dbl_good
  rw [hf, n1074] at this; exact this
theorem whole_iff {u : Int} : (16 * (u * (kW : Nat)) = 16 * u / 713623846352979940529142984724747568191373312 * (713623846352979940529142984724747568191373312 * kW : Nat)) ↔ u % 44601490397061246283071436545296723011960832 = 0 := by
  rw [cast_mk, ← Int.mul_assoc, ← Int.mul_assoc]; have hk := kW_int; constructor
  · intro h; have := Int.eq_of_mul_eq_mul_right (by omega) h; omega
  intro h; congr 1; omega
theorem whole_iff32 {u : Int} (h0 : -45671926166590716193865151022383844364247891968 ≤ u ∧ u ≤ 45671926166590716193865151022383844364247891968) : ((16 * u).tdiv 713623846352979940529142984724747568191373312 * 713623846352979940529142984724747568191373312 = 16 * u) ↔ u % 44601490397061246283071436545296723011960832 = 0 := by
  have h1 := Int.mul_tdiv_add_tmod (16 * u) 713623846352979940529142984724747568191373312; have h2 : (16 * u).tmod 713623846352979940529142984724747568191373312 = 0 ↔ (713623846352979940529142984724747568191373312 : Int) ∣ 16 * u := (Int.dvd_iff_tmod_eq_zero).symm; constructor
  · intro h; have h3 : (713623846352979940529142984724747568191373312 : Int) ∣ 16 * u := h2.1 (by omega); omega
  intro h
  have h3 : (713623846352979940529142984724747568191373312 : Int) ∣ 16 * u := by omega
  have := h2.2 h3; omega
theorem sx_tdiv {u n : Int} (h : u = n * 44601490397061246283071436545296723011960832) : (16 * u).tdiv 713623846352979940529142984724747568191373312 = n := by
  rw [h, show 16 * (n * 44601490397061246283071436545296723011960832) = n * 713623846352979940529142984724747568191373312 by omega, Int.mul_tdiv_cancel _ (by decide)]
end Ieee
namespace Go.Fs
variable {P : Program} {h : Heap} {S : List Nat} {σ : Sto} {t : Tr} {fl : VL} {x y : Operand} {T T' : TypeId} {v pv : PV} {k k' : FloatKind} {p q : Nat}
def fcmpE (b : BinOp) (k : FloatKind) (p q : Nat) : Bool := match b with
  | .eql => k.format.order p q == some .eq
  | .neq => k.format.order p q != some .eq
  | .lss => k.format.order p q == some .lt
  | .leq => k.format.order p q == some .lt || k.format.order p q == some .eq
  | .gtr => k.format.order p q == some .gt
  | .geq => k.format.order p q == some .gt || k.format.order p q == some .eq
  | _ => false
def isCmpF : BinOp → Bool
  | .eql | .neq | .lss | .leq | .gtr | .geq => true
  | _ => false
theorem CalmV.fcmp (b : BinOp) (hb : isCmpF b = true := by rfl) (hx : evV fl x = some (.v (.flt k) p) := by rfl) (hy : evV fl y = some (.v (.flt k) q) := by rfl) : CalmV P fl σ (.binOp b T x y T') (.v .bool (fcmpE b k p q)) :=
  .bin hx hy fun h S a c ha hc => by
    obtain rfl := RepV.flt ha; obtain rfl := RepV.flt hc; refine ⟨.bool (fcmpE b k p q), RepV.ofBool _, rfl, ?_⟩; cases b <;> first | (cases hb; done) | skip
    all_goals simp [purely, eqGuard, binOp, Op.floatCmp, fcmpE, runPure_bind, runPure_pure, runPure, af, af1, af0]
def fopE (b : BinOp) (k : FloatKind) (p q : Nat) : Option Nat := match b with
  | .add => k.format.add p q
  | .sub => k.format.sub p q
  | .mul => k.format.mul p q
  | .quo => k.format.div p q
  | _ => none
theorem CalmV.fop {b : BinOp} {r : Nat} (hr : fopE b k p q = some r) (hx : evV fl x = some (.v (.flt k) p) := by rfl) (hy : evV fl y = some (.v (.flt k) q) := by rfl) : CalmV P fl σ (.binOp b T x y T') (.v (.flt k) r) :=
  .bin hx hy fun h S a c ha hc => by
    obtain rfl := RepV.flt ha; obtain rfl := RepV.flt hc; refine ⟨.float k r, RepV.ofFlt _ _, rfl, ?_⟩; cases b <;> first | (cases hr; done) | skip
    all_goals
      simp only [fopE] at hr; simp [purely, eqGuard, binOp, Op.floatArith, hr, runPure_bind, runPure_pure, runPure, af, af1, af0]
theorem CalmV.fnan {b : BinOp} (hn : nanOp b k p q = true) (hx : evV fl x = some (.v (.flt k) p) := by rfl) (hy : evV fl y = some (.v (.flt k) q) := by rfl) : CalmV P fl σ (.binOp b T x y T') (.raw (nanJ k)) :=
  ⟨rfl, fun h S t hs _ => by
    have ha := RepV.flt (hs x (by simp [Op.operands]) _ hx : RepV h S (.flt k) _ p); have hc := RepV.flt (hs y (by simp [Op.operands]) _ hy : RepV h S (.flt k) _ q); refine ⟨nanJ k, rfl, fun _ _ _ _ _ H => ?_⟩; show (if (af (evalO t x) && af (evalO t y)) = true then ((purely P (do eqGuard b T x y (evalO t x) (evalO t y); binOp b T (evalO t x) (evalO t y))).or (fsNanA b (evalO t x) (evalO t y))).map _ else _) = _; rw [ha, hc, if_pos (show (af (Value.float k p) && af (Value.float k q)) = true from rfl)]
    have h1 : purely P (do eqGuard b T x y (.float k p) (.float k q); binOp b T (.float k p) (.float k q)) = none := by
      unfold nanOp at hn; split at hn
      all_goals first | (cases hn; done) | skip
      all_goals
        rw [Option.isNone_iff_eq_none] at hn; simp [purely, eqGuard, binOp, Op.floatArith, hn, runPure_bind, runPure_pure, runPure, choose, Sem.bind]
        exact fun a ha => by have h0 : (none : Option Value) = some a := ha; cases h0
    have h2 : fsNanA b (.float k p) (.float k q) = some (nanJ k) := by
      unfold fsNanA; simp [hn]
    rw [h1, h2]; rfl⟩
theorem CalmV.fnancmp {b : BinOp} {r : Bool} (hr : nanCmp b = some r) (hx : evV fl x = some (.raw (nanJ k)) := by rfl) (hy : evV fl y = some (.v (.flt k) q) := by rfl) : CalmV P fl σ (.binOp b T x y T') (.v .bool r) :=
  ⟨rfl, fun h S t hs _ => by
    have ha : evalO t x = nanJ k := hs x (by simp [Op.operands]) _ hx; have hc := RepV.flt (hs y (by simp [Op.operands]) _ hy : RepV h S (.flt k) _ q); refine ⟨.bool r, RepV.ofBool _, fun _ _ _ _ _ H => ?_⟩; show (if (af (evalO t x) && af (evalO t y)) = true then _ else ((fsNil P b T (evalO t x) (evalO t y)).or (fsNanC b (evalO t x) (evalO t y))).map _) = _; rw [ha, hc, if_neg (by simp [af, af1, af0, nanJ])]
    have h2 : fsNanC b (nanJ k) (.float k q) = some r := by
      simp [fsNanC, fkind, nanJ, isNanJ, hr]
    rw [h2]; rfl⟩
theorem CalmV.fnancmp2 {b : BinOp} {r : Bool} (hr : nanCmp b = some r) (hx : evV fl x = some (.raw (nanJ k)) := by rfl) (hy : evV fl y = some (.raw (nanJ k)) := by rfl) : CalmV P fl σ (.binOp b T x y T') (.v .bool r) :=
  ⟨rfl, fun h S t hs _ => by
    have ha : evalO t x = nanJ k := hs x (by simp [Op.operands]) _ hx; have hc : evalO t y = nanJ k := hs y (by simp [Op.operands]) _ hy; refine ⟨.bool r, RepV.ofBool _, fun _ _ _ _ _ H => ?_⟩; show (if (af (evalO t x) && af (evalO t y)) = true then _ else ((fsNil P b T (evalO t x) (evalO t y)).or (fsNanC b (evalO t x) (evalO t y))).map _) = _; rw [ha, hc, if_neg (by simp [af, af1, af0, nanJ])]
    have h2 : fsNanC b (nanJ k) (nanJ k) = some r := by
      simp [fsNanC, fkind, nanJ, isNanJ, hr]
    rw [h2]; rfl⟩
def convFB (P : Program) (s D : TypeId) (k2 : FloatKind) : Bool := (P.underlying s).isSome && (match P.underlying D with | some (.float k) => decide (k = k2) | _ => false)
theorem CalmV.cvIF {n : Int} {s D : TypeId} {κ : IntKind} (k2 : FloatKind) (hx : evV fl x = some (.v (.int κ) n) := by rfl) (hb : convFB P s D k2 = true := by kernel_rfl) : CalmV P fl σ (.convert s D x) (.v (.flt k2) (k2.nearest n)) :=
  .conv hx fun h S a ha => by
    obtain rfl := RepV.int ha; unfold convFB at hb; obtain ⟨b1, b2⟩ := band hb; obtain ⟨td, hs⟩ := Option.isSome_iff_exists.1 b1; split at b2
    · rename_i k3 hd; obtain rfl : k3 = k2 := of_decide_eq_true b2; refine ⟨.float k3 (k3.nearest n), RepV.ofFlt _ _, rfl, ?_⟩; unfold purely convert; simp only [runPure_bind, runPure_underlying hs, runPure_underlying hd, Option.bind_some]; show (runPure P (Conv.intToFloat k3 n)).bind _ = _; simp only [Conv.intToFloat, runPure_pure, Option.bind_some]; rfl
    cases b2
theorem CalmV.cvFI {n : Int} {s D : TypeId} (hn : (k.decode p).toInt .zero = some n) (hf : fit n) (hx : evV fl x = some (.v (.flt k) p) := by rfl) (hb : convB P s D .i64 = true := by kernel_rfl) : CalmV P fl σ (.convert s D x) (.v (.int .i64) n) :=
  .conv hx fun h S a ha => by
    obtain rfl := RepV.flt ha; unfold convB at hb; obtain ⟨b1, b2⟩ := band hb; obtain ⟨td, hs⟩ := Option.isSome_iff_exists.1 b1; split at b2
    · rename_i k3 hd; obtain rfl : k3 = .i64 := of_decide_eq_true b2; refine ⟨.int .i64 n, RepV.ofInt _ _, rfl, ?_⟩; unfold purely convert; simp only [runPure_bind, runPure_underlying hs, runPure_underlying hd, Option.bind_some]; show (runPure P (Conv.floatToInt k p .i64)).bind _ = _; have hr : IntKind.i64.min ≤ n ∧ n ≤ IntKind.i64.max := ⟨hf.1, hf.2⟩; simp only [Conv.floatToInt, hn, hr, and_self, if_true, runPure_pure, Option.bind_some]; rfl
    cases b2
theorem CalmV.cvFF {s D : TypeId} (k2 : FloatKind) (hne : ¬ k = k2) {u : Int} (hu : k.format.units p = some u) {r : Nat} {u' : Int} (hr : k2.format.write (k.format.read p) = r) (hr2 : k2.format.units r = some u') (hx : evV fl x = some (.v (.flt k) p) := by rfl) (hb : convFB P s D k2 = true := by kernel_rfl) : CalmV P fl σ (.convert s D x) (.v (.flt k2) r) :=
  .conv hx fun h S a ha => by
    obtain rfl := RepV.flt ha; unfold convFB at hb; obtain ⟨b1, b2⟩ := band hb; obtain ⟨td, hs⟩ := Option.isSome_iff_exists.1 b1; split at b2
    · rename_i k3 hd; obtain rfl : k3 = k2 := of_decide_eq_true b2; refine ⟨.float k3 r, RepV.ofFlt _ _, rfl, ?_⟩; unfold purely convert; simp only [runPure_bind, runPure_underlying hs, runPure_underlying hd, Option.bind_some]; show (runPure P (Conv.floatToFloat k p k3)).bind _ = _; obtain ⟨sg, m, pl, h1, _, _⟩ := Ieee.Format.units_inv hu; have h1' : k.decode p = .number sg m pl := h1
      have h2 : k3.encode (.number sg m pl) = r := by rw [← hr, h1]; rfl
      obtain ⟨sg', m', pl', h3, _, _⟩ := Ieee.Format.units_inv hr2; have h3' : k3.decode r = .number sg' m' pl' := h3; simp only [Conv.floatToFloat, hne, if_false, h1', h2, h3', Ieee.Datum.isInfinity, Bool.false_eq_true, runPure_pure, Option.bind_some]; rfl
    cases b2
theorem CalmV.cvInf {s D : TypeId} {sg : Bool} (k2 : FloatKind) (hne : ¬ k = k2) (hu : k.format.read p = .infinity sg) (hx : evV fl x = some (.v (.flt k) p) := by rfl) (hb : convFB P s D k2 = true := by kernel_rfl) : CalmV P fl σ (.convert s D x) (.v (.flt k2) (k2.format.write (.infinity sg))) :=
  .conv hx fun h S a ha => by
    obtain rfl := RepV.flt ha; unfold convFB at hb; obtain ⟨b1, b2⟩ := band hb; obtain ⟨td, hs⟩ := Option.isSome_iff_exists.1 b1; split at b2
    · rename_i k3 hd; obtain rfl : k3 = k2 := of_decide_eq_true b2; refine ⟨.float k3 (k3.encode (.infinity sg)), RepV.ofFlt _ _, rfl, ?_⟩; unfold purely convert; simp only [runPure_bind, runPure_underlying hs, runPure_underlying hd, Option.bind_some]; show (runPure P (Conv.floatToFloat k p k3)).bind _ = _; have h1' : k.decode p = .infinity sg := hu; simp only [Conv.floatToFloat, hne, if_false, h1', runPure_pure, Option.bind_some]; rfl
    cases b2
theorem CalmV.cvNan {s D : TypeId} {sg : Bool} {m : Nat} (k2 : FloatKind) (hne : ¬ k = k2) (hu : k.format.read p = .nan sg m) (hx : evV fl x = some (.v (.flt k) p) := by rfl) (hb : convFB P s D k2 = true := by kernel_rfl) : CalmV P fl σ (.convert s D x) (.raw (nanJ k2)) :=
  ⟨rfl, fun h S t hs _ => by
    have ha := RepV.flt (hs x (by simp [Op.operands]) _ hx : RepV h S (.flt k) _ p); refine ⟨nanJ k2, rfl, fun _ _ _ _ _ H => ?_⟩; show (if af (evalO t x) = true then ((purely P (convert s D (evalO t x))).or (fsNanV P s D (evalO t x))).map _ else _) = _; rw [ha, if_pos (show af (Value.float k p) = true from rfl)]; unfold convFB at hb; obtain ⟨b1, b2⟩ := band hb; obtain ⟨td, hs⟩ := Option.isSome_iff_exists.1 b1; split at b2
    · rename_i k3 hd; obtain rfl : k3 = k2 := of_decide_eq_true b2; have h1' : k.decode p = .nan sg m := hu
      have e1 : purely P (convert s D (.float k p)) = none := by
        unfold purely convert; simp only [runPure_bind, runPure_underlying hs, runPure_underlying hd, Option.bind_some]; show (runPure P (Conv.floatToFloat k p k3)).bind _ = _; simp [Conv.floatToFloat, hne, h1', choose, runPure_bind, runPure]
        try exact fun a ha => by have h0 : (none : Option Value) = some a := ha; cases h0
      have e2 : fsNanV P s D (.float k p) = some (nanJ k3) := by
        simp [fsNanV, hs, hd, hne, h1', Ieee.Datum.isNaN]
      rw [e1, e2]; rfl
    cases b2⟩
theorem compare_int (u v : Int) : compare u v = if u < v then .lt else if u = v then .eq else .gt := rfl
theorem fcmp_units {u v : Int} (hp : k.format.units p = some u) (hq : k.format.units q = some v) :
    fcmpE .eql k p q = decide (u = v) ∧ fcmpE .neq k p q = decide (u ≠ v) ∧ fcmpE .lss k p q = decide (u < v) ∧ fcmpE .leq k p q = decide (u ≤ v) ∧ fcmpE .gtr k p q = decide (v < u) ∧ fcmpE .geq k p q = decide (v ≤ u) := by
  have ho : k.format.order p q = some (compare u v) := Ieee.Format.order_units hp hq; simp only [fcmpE, ho, compare_int]; by_cases h1 : u < v
  · have : ¬ u = v := by omega
    simp [h1, this]; omega
  by_cases h2 : u = v
  · subst h2; simp
  simp [h1, h2]; omega
end Go.Fs
namespace Go.Fs
variable {P : Program} {orc : FuncId → List Value → Heap → Option (Value × Heap)} {rnd : Option Nat} {h h' h0 h1 h2 : Heap} {S S' S0 B G : List Nat} {σ σ' : Sto} {t t' : Tr} {ms : List Nat} {fl : VL} {ops : Array Oper} {n : Nat} {l : List Oper} {K : VL → Sto → Prop} {Q : Ex → VL → Sto → Prop}
  {d : Tmp} {ty : TypeId} {pos : String} {after : Array Edge} {op : Op} {v pv : PV} {g : Option (Nat × Bool)} {x y z : Operand} {T T' e : TypeId} {κ ν : Ty} {w : Value}
section
variable {α β : Type} [DecidableEq α]
end
structure KeyT (P : Program) (K : TypeId) (κ : Ty) : Prop where
  flat : κ.isFlat = true
  und : ∃ td, P.underlying K = some td ∧ ((∀ {h : Heap} {S : List Nat} (u v : Value) (x y : κ.den) (inst : Decidable (x = y)), RepV h S κ u x → RepV h S κ v y → Instr.sameNow td u v = some (@decide (x = y) inst)) ∨
    ((∀ u v, Instr.sameNow td u v = none) ∧ ∀ {h : Heap} {S : List Nat} (u v : Value) (x y : κ.den) (inst : Decidable (x = y)), RepV h S κ u x → RepV h S κ v y → runPure P (Op.equal K u v) = some (@decide (x = y) inst)))
  chk : ∀ {h : Heap} {S : List Nat} (em : Bool) (u : Value) (x : κ.den), RepV h S κ u x → (runPure P (Instr.checkKey em 10000 K u)).isSome = true
  bits : ∀ {h : Heap} {S : List Nat} (u : Value) (x : κ.den), RepV h S κ u x → Instr.sameBits 10000 u u = true
structure MapT (P : Program) (T : TypeId) (κ ν : Ty) : Prop where
  key : ∃ K E, P.underlying T = some (.map K E) ∧ KeyT P K κ ∧ ZerT P E ν
section
variable [DecidableEq κ.den] {k : κ.den} {kvs : List (κ.den × ν.den)}
end
end Go.Fs
namespace Go.Fs
variable {P : Program} {orc : FuncId → List Value → Heap → Option (Value × Heap)} {h : Heap} {S : List Nat} {σ : Sto} {t : Tr} {fl : VL} {x y : Operand} {T T' : TypeId} {v pv : PV} {k k' : FloatKind} {p q : Nat}
theorem CalmV.fcmpD {b : BinOp} {r : Bool} (he : fcmpE b k p q = r) (hb : isCmpF b = true := by rfl) (hx : evV fl x = some (.v (.flt k) p) := by rfl) (hy : evV fl y = some (.v (.flt k) q) := by rfl) : CalmV P fl σ (.binOp b T x y T') (.v .bool r) := he ▸ CalmV.fcmp b hb hx hy
theorem VF.ext {f : FuncId} {args : List PV} {r : PV} {fn : Func} {e : Array Value → Sem Value} {us : List Value} {w : Value} (hfn : P.funcs[f]? = some fn) (ho : ∀ us h, orc f us h = none) (hb : (fn.body.isNone && !(fn.name == "runtime.NumGoroutine")) = true) (h1 : (Extern.findNext fn).isNone = true) (h2 : Extern.find fn = some e)
    (ha : us.all af = true) (hus : ∀ (h : Heap) (S : List Nat) (us' : List Value), RepL h S args us' → us' = us) (hv : purely P (e us.toArray) = some w) (hr : ∀ (h : Heap) (S : List Nat), RepPV h S r w) : VF P orc f args r := fun h S us' hok hS hrep => by
  obtain rfl := hus h S us' hrep; exact EvF.ext (ho _ _) hfn hb h1 h2 ha hv ⟨Aft.refl _ _, hr _ _, fun _ => rfl⟩
theorem repl_flt {h : Heap} {S : List Nat} {us : List Value} {k : FloatKind} {p : Nat} (hr : RepL h S [.v (.flt k) p] us) : us = [.float k p] := by
  obtain ⟨u, r, rfl, h2, h3⟩ := hr; obtain rfl : r = [] := h3; rw [RepV.flt h2]
theorem VF.extFlt {f : FuncId} {r : PV} {fn : Func} {e : Array Value → Sem Value} {w : Value} (hfn : P.funcs[f]? = some fn) (ho : ∀ us h, orc f us h = none) (hb : (fn.body.isNone && !(fn.name == "runtime.NumGoroutine")) = true) (h1 : (Extern.findNext fn).isNone = true) (h2 : Extern.find fn = some e)
    (hv : purely P (e #[.float k p]) = some w) (hr : ∀ (h : Heap) (S : List Nat), RepPV h S r w) : VF P orc f [.v (.flt k) p] r :=
  VF.ext (us := [.float k p]) hfn ho hb h1 h2 rfl (fun _ _ _ hr => repl_flt hr) hv hr
theorem VF.extInt {f : FuncId} {r : PV} {κ : IntKind} {n : Int} {fn : Func} {e : Array Value → Sem Value} {w : Value} (hfn : P.funcs[f]? = some fn) (ho : ∀ us h, orc f us h = none) (hb : (fn.body.isNone && !(fn.name == "runtime.NumGoroutine")) = true) (h1 : (Extern.findNext fn).isNone = true) (h2 : Extern.find fn = some e)
    (hv : purely P (e #[.int κ n]) = some w) (hr : ∀ (h : Heap) (S : List Nat), RepPV h S r w) : VF P orc f [.v (.int κ) n] r :=
  VF.ext (us := [.int κ n]) hfn ho hb h1 h2 rfl (fun _ _ _ hr => repl_int _ _ _ hr) hv hr
theorem mul32E {p q r : Nat} (h : Ieee.single.mul p q = some r) : fopE .mul .f32 p q = some r := h
theorem sub32E {p q r : Nat} (h : Ieee.single.sub p q = some r) : fopE .sub .f32 p q = some r := h
theorem add32E {p q r : Nat} (h : Ieee.single.add p q = some r) : fopE .add .f32 p q = some r := h
theorem mul64E {p q r : Nat} (h : Ieee.double.mul p q = some r) : fopE .mul .f64 p q = some r := h
theorem nan32E {p : Nat} (h : Ieee.u32 p = none) : nanOp .sub .f32 p p = true := by
  show (Ieee.single.sub p p).isNone = true; rw [Ieee.Format.sub_self_none h]; rfl
theorem toInt32E {p : Nat} {n : Int} (h : (Ieee.single.read p).toInt .zero = some n) : (FloatKind.f32.decode p).toInt .zero = some n := h
theorem toInt64E {p : Nat} {n : Int} (h : (Ieee.double.read p).toInt .zero = some n) : (FloatKind.f64.decode p).toInt .zero = some n := h
theorem fneq_self {p : Nat} (h : Ieee.double.order p p = some .eq) : fcmpE .neq .f64 p p = false := by
  show (Ieee.double.order p p != some .eq) = false; rw [h]; rfl
theorem fcmp32 {p q : Nat} {u v : Int} (hp : Ieee.u32 p = some u) (hq : Ieee.u32 q = some v) :
    fcmpE .eql .f32 p q = decide (u = v) ∧ fcmpE .neq .f32 p q = decide (u ≠ v) ∧ fcmpE .lss .f32 p q = decide (u < v) ∧ fcmpE .leq .f32 p q = decide (u ≤ v) ∧ fcmpE .gtr .f32 p q = decide (v < u) ∧ fcmpE .geq .f32 p q = decide (v ≤ u) := fcmp_units (k := .f32) hp hq
theorem fcmp64 {p q : Nat} {u v : Int} (hp : Ieee.u64 p = some u) (hq : Ieee.u64 q = some v) :
    fcmpE .eql .f64 p q = decide (u = v) ∧ fcmpE .neq .f64 p q = decide (u ≠ v) ∧ fcmpE .lss .f64 p q = decide (u < v) ∧ fcmpE .leq .f64 p q = decide (u ≤ v) ∧ fcmpE .gtr .f64 p q = decide (v < u) ∧ fcmpE .geq .f64 p q = decide (v ≤ u) := fcmp_units (k := .f64) hp hq
theorem CalmV.widen {s D : TypeId} {u u' : Int} (hu : Ieee.u32 p = some u) (hr : Ieee.u64 (Ieee.double.write (Ieee.single.read p)) = some u') (hx : evV fl x = some (.v (.flt .f32) p) := by rfl) (hb : convFB P s D .f64 = true := by kernel_rfl) : CalmV P fl σ (.convert s D x) (.v (.flt .f64) (Ieee.double.write (Ieee.single.read p))) :=
  CalmV.cvFF (k := .f32) .f64 (by decide) hu rfl hr hx hb
theorem CalmV.widenI {s D : TypeId} {sg : Bool} (hu : Ieee.single.read p = .infinity sg) (hx : evV fl x = some (.v (.flt .f32) p) := by rfl) (hb : convFB P s D .f64 = true := by kernel_rfl) : CalmV P fl σ (.convert s D x) (.v (.flt .f64) (Ieee.double.write (.infinity sg))) :=
  CalmV.cvInf (k := .f32) .f64 (by decide) hu hx hb
theorem CalmV.widenN {s D : TypeId} {sg : Bool} {m : Nat} (hu : Ieee.single.read p = .nan sg m) (hx : evV fl x = some (.v (.flt .f32) p) := by rfl) (hb : convFB P s D .f64 = true := by kernel_rfl) : CalmV P fl σ (.convert s D x) (.raw (nanJ .f64)) :=
  CalmV.cvNan (k := .f32) .f64 (by decide) hu hx hb
theorem floor_run {P : Program} {y : Nat} {s : Bool} {m : Nat} {pl : Int} (h : Ieee.double.read y = .number s m pl) : purely P (Extern.MathFloor.toIntegral "math.archFloor" .down #[.float .f64 y]) = some (.float .f64 (Ieee.double.write ((Ieee.double.read y).integral .down))) := by
  have e : Extern.MathFloor.toIntegral "math.archFloor" .down #[.float .f64 y] = (match FloatKind.f64.decode y with
    | .nan s t =>
      if FloatKind.f64.format.quiet t = t then pure (.float .f64 y) else do
      let kept ← choose (.extern "math.Floor,Ceil,Trunc,RoundToEven.signallingNaN kept" 2)
      pure (.float .f64 (if kept == 1 then y else FloatKind.f64.encode (.nan s (FloatKind.f64.format.quiet t))))
    | d => pure (.float .f64 (FloatKind.f64.encode (d.integral .down)))) := rfl
  have h2 : FloatKind.f64.decode y = .number s m pl := h; rw [e, h2, h]; rfl
theorem clr63 {b : Nat} : ((BitVec.ofInt 64 (b : Int)) &&& ~~~(BitVec.ofInt 64 9223372036854775808)).toNat = b % 9223372036854775808 := by
  rw [BitVec.toNat_and]
  have e1 : (~~~(BitVec.ofInt 64 9223372036854775808)).toNat = 2 ^ 63 - 1 := by decide
  have e2 : (BitVec.ofInt 64 (b : Int)).toNat = b % 2 ^ 64 := by
    rw [BitVec.toNat_ofInt]; omega
  rw [e1, e2, Nat.and_two_pow_sub_one_eq_mod]; omega
theorem CalmV.clr63 {b : Nat} (hx : evV fl x = some (.v (.int .u64) ((b : Nat) : Int))) (hy : evV fl y = some (.v (.int .u64) 9223372036854775808)) : CalmV P fl σ (.binOp .andNot T x y T') (.v (.int .u64) ((b % 9223372036854775808 : Nat) : Int)) :=
  .binI hx hy (u := .int .u64 ((b % 9223372036854775808 : Nat) : Int)) (by
    show (runPure P (Op.intBits .andNot .u64 (b : Int) 9223372036854775808)).bind _ = _; have e1 : Op.intBits .andNot .u64 (b : Int) 9223372036854775808 = pure (.int .u64 (IntKind.u64.wrap (((BitVec.ofInt 64 (b : Int)) &&& ~~~(BitVec.ofInt 64 9223372036854775808)).toNat : Int))) := rfl; rw [e1, Fs.clr63, runPure_pure]
    have e2 : IntKind.u64.wrap ((b % 9223372036854775808 : Nat) : Int) = ((b % 9223372036854775808 : Nat) : Int) := by
      have e3 : IntKind.u64.wrap ((b % 9223372036854775808 : Nat) : Int) = ((b % 9223372036854775808 : Nat) : Int) % 18446744073709551616 := rfl; rw [e3]; omega
    rw [e2]; rfl) fun h S => RepV.ofInt _ _
end Go.Fs
namespace Ieee
open Format
theorem read_clr {b : Nat} : double.read (b % 9223372036854775808) = match double.read b with
    | .number _ m p => .number false m p
    | .infinity _ => .infinity false
    | .nan _ f => .nan false f := by
  have e0 : double.signWeight = 9223372036854775808 := by decide
  have e1 : b % 9223372036854775808 % double.signWeight = b % double.signWeight := by rw [e0]; omega
  have e2 : (b % 9223372036854775808 / double.signWeight % 2 == 1) = false := by
    rw [e0, show b % 9223372036854775808 / 9223372036854775808 = 0 by omega]; rfl
  unfold Format.read; simp only [e1, e2]; split
  · rfl
  split
  · rfl
  split <;> rfl
theorem units_clr {b : Nat} {v : Int} (h : double.units b = some v) : double.units (b % 9223372036854775808) = some (v.natAbs : Int) := by
  obtain ⟨s, m, p, h1, h2, rfl⟩ := units_inv h; unfold units; rw [read_clr, h1]; simp only; rw [sg_natAbs]; rfl
def topW : Int := (2 ^ 53 - 1) * (((2 ^ (2045 : Nat) : Nat)) : Int)
theorem top64 : u64 9218868437227405311 = some topW := by decide +kernel
theorem top_bound {u : Int} (h : u.natAbs ≤ 2 ^ e300) : ((u * (kW : Nat)).natAbs : Int) ≤ topW := by
  have h1 : 2 ^ e300 * kW ≤ topW.natAbs := by decide +kernel
  have h2 : (u * (kW : Nat)).natAbs ≤ 2 ^ e300 * kW := by
    rw [Int.natAbs_mul, Int.natAbs_natCast]; exact Nat.mul_le_mul_right _ h
  have h3 : (topW.natAbs : Int) = topW := by decide +kernel
  omega
end Ieee
namespace Go.Fs
variable {P : Program} {orc : FuncId → List Value → Heap → Option (Value × Heap)} {rnd : Option Nat} {h : Heap} {S : List Nat} {σ : Sto} {t : Tr} {fl : VL} {x y : Operand} {T : TypeId} {n : Nat} {τ τ' : Ty} {Q : Ex → VL → Sto → Prop}
section
variable {T' : TypeId}
end
end Go.Fs
namespace Go.Fs
variable {P : Program} {orc : FuncId → List Value → Heap → Option (Value × Heap)} {rnd : Option Nat} {h h' h0 h1 h2 : Heap} {S S' S0 B G : List Nat} {σ σ' : Sto} {t t' : Tr} {ms : List Nat} {fl nw : VL} {ops : Array Oper} {n : Nat} {l : List Oper} {K : VL → Sto → Prop} {Q : Ex → VL → Sto → Prop}
  {d : Tmp} {ty : TypeId} {pos : String} {after : Array Edge} {op : Op} {v pv : PV} {g : Option (Nat × Bool)} {x y z : Operand} {T T' e : TypeId} {w : Value} {s : ByteArray} {p : Nat}
theorem FreshO.rng (hT : P.underlying T = some .string := by kernel_rfl) (hx : evV fl x = some (.v .str s) := by rfl) : FreshO P fl (.range T x) (.it s 0) :=
  ⟨rfl, fun h S t hs hok hS => by
    have hv : evalO t x = .string s := RepV.str (hs x (by simp [Op.operands]) _ hx : RepV h S .str _ s); refine ⟨fun k => .pointer (some ⟨k, 0, none⟩), .iter s 0, fun _ => rfl, fun S' hN hm => ⟨h.next, rfl, hm, by rw [Heap.get_push, if_pos rfl]⟩, fun H _ _ _ _ _ => ?_⟩; show fsRange P T (evalO t x) H = _; rw [hv]
    simp [fsRange, hT]⟩
theorem MakeV.nextT (hp : p < s.size) (hx : evV fl x = some (.raw w)) : MakeV P fl ((w, .it s p) :: σ) (.next x true) fun v σ' => v = .tup [.v .bool true, .v (.int .i64) ((p : Nat) : Int), .v (.int .i32) (((Utf8.decode s p).1 : Nat) : Int)] ∧ σ' = (w, .it s (p + (Utf8.decode s p).2)) :: σ :=
  ⟨rfl, fun S0 h t L => by
    have h1 : evalO t x = w := evV_ok L.slots hx; obtain ⟨b, h3, h4, hg⟩ := L.cells _ List.mem_cons_self; have hw : w = .pointer (some ⟨b, 0, none⟩) := h3
    have hbk : blk w = [b] := by rw [hw]; rfl
    refine ⟨.tuple #[.bool true, .int .i64 ((p : Nat) : Int), .int .i32 (((Utf8.decode s p).1 : Nat) : Int)], h.set b (.iter s (p + (Utf8.decode s p).2)), _, _, ⟨rfl, rfl⟩, Made.head L (Aft.set hg (by rw [hbk]; simp)) (fun b hb => .inl hb) (by rw [hbk]; simp) fun hN => ?_, ?_, fun _ _ _ _ _ => ?_⟩
    · refine ⟨b, h3, ?_, by rw [Heap.get_set hg, if_pos rfl]⟩; rw [own_cons]; exact List.mem_append_left _ (List.mem_append_left _ (by rw [hbk]; simp))
    · exact ⟨_, rfl, _, _, rfl, RepV.ofBool _, _, _, rfl, RepV.ofInt _ _, _, _, rfl, RepV.ofInt _ _, rfl⟩
    show fsNext (evalO t x) true h = _; rw [h1, hw]
    simp [fsNext, hg, hp]⟩
theorem MakeV.nextF (hp : ¬ p < s.size) (hx : evV fl x = some (.raw w)) : MakeV P fl ((w, .it s p) :: σ) (.next x true) fun v σ' => v = .tup [.v .bool false] ∧ σ' = (w, .it s p) :: σ :=
  ⟨rfl, fun S0 h t L => by
    have h1 : evalO t x = w := evV_ok L.slots hx; obtain ⟨b, h3, h4, hg⟩ := L.cells _ List.mem_cons_self; have hw : w = .pointer (some ⟨b, 0, none⟩) := h3; refine ⟨.tuple #[.bool false], h, _, _, ⟨rfl, rfl⟩, Made.same L (Aft.refl h []), ⟨_, rfl, _, _, rfl, RepV.ofBool _, rfl⟩, fun _ _ _ _ _ => ?_⟩; show fsNext (evalO t x) true h = _; rw [h1, hw]
    simp [fsNext, hg, hp]⟩
theorem VO.next (hx : evV fl x = some (.raw w)) (h1 : p < s.size → VO P orc ops n l ((d, .tup [.v .bool true, .v (.int .i64) ((p : Nat) : Int), .v (.int .i32) (((Utf8.decode s p).1 : Nat) : Int)]) :: fl) ((w, .it s (p + (Utf8.decode s p).2)) :: σ) K) (h2 : ¬ p < s.size → VO P orc ops n l ((d, .tup [.v .bool false]) :: fl) ((w, .it s p) :: σ) K)
    (hw : wantV ops fl g = some true := by rfl) (hn : (Nat.blt d n && Nat.ble n 4000) = true := by rfl) : VO P orc ops n (⟨some d, .next x true, ty, pos, after, g⟩ :: l) fl ((w, .it s p) :: σ) K := by
  by_cases hp : p < s.size
  · exact VO.mk (MakeV.nextT hp hx) (by rintro _ _ ⟨rfl, rfl⟩; exact h1 hp) hw hn
  exact VO.mk (MakeV.nextF hp hx) (by rintro _ _ ⟨rfl, rfl⟩; exact h2 hp) hw hn
theorem CalmV.ext0 {b : Bool} (hx : evV fl x = some (.tup [.v .bool b]) := by rfl) : CalmV P fl σ (.extract x 0) (.v .bool b) := ⟨rfl, fun h S t hs _ => by
  obtain ⟨us, h1, u, r, rfl, h2, h3⟩ := (hs x (by simp [Op.operands]) _ hx : RepPV h S (.tup [.v .bool b]) _); obtain rfl : r = [] := h3; have hu : u = .bool b := RepV.bool h2; subst hu; refine ⟨.bool b, RepV.ofBool _, fun _ _ _ _ _ H => ?_⟩; show (bif isJunk (evalO t x) then none else (runPure P (Instr.extract (evalO t x) 0)).map _) = _; rw [h1]; have hj : isJunk (.tuple [Value.bool b].toArray) = false := rfl; rw [hj]
  rfl⟩
theorem decode_low {i : Nat} (h : (s.get! i).toNat < 128) : Utf8.decode s i = ((s.get! i).toNat, 1) := by
  unfold Utf8.decode; simp only [Nat.add_zero]; rw [if_pos h]
theorem decode_high {i : Nat} (h : ¬ (s.get! i).toNat < 128) : 128 ≤ (Utf8.decode s i).1 := by
  unfold Utf8.decode; simp only [Nat.add_zero]; rw [if_neg h]
  have hr : 128 ≤ Utf8.runeError := by decide
  split
  · split
    · assumption
    exact hr
  split
  · split
    · rename_i hc; have := (Bool.and_eq_true .. ▸ hc : _ ∧ _).1; have := of_decide_eq_true this; simp only; omega
    exact hr
  split
  · split
    · rename_i hc; have := (Bool.and_eq_true .. ▸ hc : _ ∧ _).1; have := of_decide_eq_true this; simp only; omega
    exact hr
  exact hr
structure GdT (ops : Array Oper) (fl : VL) (g : Option (Nat × Bool)) (b : Bool) : Prop where
  want : ∀ {h : Heap} {S : List Nat} {t : Tr}, Slots h S t fl → ∀ o : Oper, o.guard = g → fsWanted ops t o = some b
end Go.Fs
namespace Go.Fs
instance : DecidableEq (Ty.den .str) := inferInstanceAs (DecidableEq ByteArray)
instance {k : IntKind} : DecidableEq (Ty.den (.int k)) := inferInstanceAs (DecidableEq Int)
instance : DecidableEq (Ty.den .bool) := inferInstanceAs (DecidableEq Bool)
instance {a b : Ty} [DecidableEq a.den] [DecidableEq b.den] : DecidableEq (Ty.den (.pair a b)) := inferInstanceAs (DecidableEq (a.den × b.den))
variable {P : Program} {orc : FuncId → List Value → Heap → Option (Value × Heap)} {fl : VL} {σ γ : Sto} {T : TypeId} {τ : Ty}
theorem repL_raw {h : Heap} {S : List Nat} : ∀ (us : List Value), RepL h S (us.map PV.raw) us
  | [] => rfl
  | u :: r => ⟨u, r, rfl, rfl, repL_raw r⟩
def byteE (s : ByteArray) (i : Int) : Int := (((s.get! i.toNat).toNat : Nat) : Int)
theorem byteE_nat (s : ByteArray) (i : Nat) : byteE s i = (((s.get! i).toNat : Nat) : Int) := rfl
theorem byteE_range (s : ByteArray) (i : Int) : 0 ≤ byteE s i ∧ byteE s i < 256 := by
  have := (s.get! i.toNat).toNat_lt; unfold byteE; omega
theorem CalmV.ixS {x y : Operand} {s : ByteArray} {i : Int} (hx : evV fl x = some (.v .str s)) (hy : evV fl y = some (.v (.int .i64) i)) (h0 : 0 ≤ i) (h1 : i < (s.size : Nat)) (hT : P.underlying T = some .string := by kernel_rfl) : CalmV P fl σ (.index T x y) (.v (.int .u8) (byteE s i)) :=
  ⟨rfl, fun h S t hq _ => by
    have hv : evalO t x = .string s := RepV.str (hq x (by simp [Op.operands]) _ hx : RepV h S .str _ s); have hi : evalO t y = .int .i64 i := RepV.int (hq y (by simp [Op.operands]) _ hy : RepV h S (.int .i64) _ i); refine ⟨.int .u8 (byteE s i), RepV.ofInt _ _, fun _ _ _ _ _ H => ?_⟩; show (if af (evalO t y) then (runPure P (Instr.index T (evalO t x) (evalO t y))).map _ else none) = _; rw [hi, hv, if_pos (show af (Value.int .i64 i) = true from rfl)]
    have hb : i.toNat < s.size := by omega
    have h8 : s[i.toNat]? = some (s.get! i.toNat) := by
      rw [getElem?_pos s i.toNat hb]; congr 1; show s.data[i.toNat] = s.data[i.toNat]!; rw [getElem!_pos s.data i.toNat hb]
    have h9 : runPure P (Instr.index T (.string s) (.int .i64 i)) = some (.int .u8 (byteE s i)) := by
      unfold Instr.index; simp only [runPure_bind, asIntOf, runPure_pure, Option.bind_some, runPure_underlying hT, if_pos h0, h8]; rfl
    rw [h9]; rfl⟩
end Go.Fs
namespace Go.Fs
variable {P : Program} {orc : FuncId → List Value → Heap → Option (Value × Heap)} {fl : VL} {σ : Sto} {T T' e ty : TypeId} {τ : Ty} {ops : Array Oper} {n : Nat} {l : List Oper} {K : VL → Sto → Prop} {d : Tmp} {pos : String} {after : Array Edge} {g : Option (Nat × Bool)} {x y : Operand} {xs : List τ.den}
theorem agg_one {w : Value} (h : oneCell w = true) : isAggV w = false := by
  cases w <;> first | rfl | cases h
end Go.Fs
namespace Go.Fs
variable {P : Program} {orc : FuncId → List Value → Heap → Option (Value × Heap)} {h h1 h2 h' : Heap} {S S0 : List Nat} {σ γ σr : Sto} {fl : VL} {ops : Array Oper} {n : Nat} {l : List Oper} {K : VL → Sto → Prop} {d : Tmp} {ty : TypeId} {pos : String} {after : Array Edge} {g : Option (Nat × Bool)}
section
variable (P orc)
end
section
variable (P orc)
end
end Go.Fs
namespace Go.Fs
variable {P : Program} {orc : FuncId → List Value → Heap → Option (Value × Heap)} {h h' h0 h1 h2 : Heap} {S S' S0 B G : List Nat} {σ σ' σr : Sto} {t t' : Tr} {ms : List Nat} {fl : VL} {ops : Array Oper} {n i mem : Nat} {l : List Oper} {K : VL → Sto → Prop} {Q : Ex → VL → Sto → Prop}
  {d : Tmp} {ty : TypeId} {pos : String} {after : Array Edge} {op : Op} {v pv : PV} {g : Option (Nat × Bool)} {x y z : Operand} {T T' e : TypeId} {τ τ' : Ty} {w : Value}
def rowFrom (w : Value) (sz k : Nat) : Value :=
  match w with
  | .slice (some ⟨b, o, none⟩) n mk => cutAt sz b o k n mk
  | u => u
theorem rest_run {xs : List τ.den} {k b : Nat} {rs : List Value} {m : Bool} {H : Heap} (hT : ElT P T e τ) (hk : k ≤ xs.length) (hg : H.get b = some (.row e rs true m)) : fsSlice P T (.slice (some ⟨b, 0, none⟩) xs.length 0) (some (.int .i64 (k : Nat))) none none H = some (rowFrom (.slice (some ⟨b, 0, none⟩) xs.length 0) τ.size k) := by
  obtain ⟨i, z, hi1, hi2, _⟩ := hT.sl.info
  have e1 : Nat.ble k xs.length = true := by rw [Nat.ble_eq]; exact hk
  have e2 : Nat.ble xs.length xs.length = true := by rw [Nat.ble_eq]; exact Nat.le_refl _
  have e3 : Nat.beq e e = true := Nat.beq_refl _; have e4 : Nat.beq 0 1 = false := rfl; have e5 : Nat.beq 0 0 = true := rfl; have h0 : (0 : Int) ≤ (k : Nat) := Int.natCast_nonneg _
  have hmk : markOf e b k 0 H = 0 := by
    unfold markOf; rw [hg]; cases Nat.beq k 0 <;> simp [e3, e5]
  simp only [fsSlice, hT.sl.sl, hi1, boundOf, if_pos h0, Int.toNat_natCast, e1, e2, e4, Bool.and_self, cond_true, cond_false, hmk, hi2, rowFrom]
theorem ReadV.restO {xs : List τ.den} {k : Nat} {lo : Operand} (hx : evV fl x = some (.raw w)) (hl : evV fl lo = some (.v (.int .i64) ((k : Nat) : Int))) (hm : (w, Cell.row e τ xs) ∈ σ) (hT : ElT P T e τ) (h0 : 0 < xs.length) (hk : k ≤ xs.length) : ReadV P fl σ (.slice T x (some lo) none none) (.raw (rowFrom w τ.size k)) :=
  ⟨rfl, fun h S t hs hc => by
    have h1 : evalO t x = w := hs x (by simp [Op.operands]) _ hx; have h2 := RepV.int (hs lo (by simp [Op.operands]) _ hl); rcases hc _ hm with ⟨_, rfl⟩ | ⟨b, rs, m, h3, h4, h5, h6⟩
    · simp at h0
    have hw : w = _ := h3; refine ⟨_, rfl, fun H hH _ _ _ _ _ => ?_⟩; show (fsSlice P T (evalO t x) (some (evalO t lo)) none none H).map _ = _
    rw [h1, h2, hw, rest_run hT hk (hH _ _ h5)]; rfl⟩
theorem rest_eq {xs : List τ.den} {k b : Nat} (hk : k < xs.length) : rowFrom (.slice (some ⟨b, 0, none⟩) xs.length 0) τ.size k = .slice (some ⟨b, 0 + k * τ.size, none⟩) (xs.length - k) 0 := by
  have e1 : Nat.blt k xs.length = true := by show Nat.ble (k + 1) xs.length = true; rw [Nat.ble_eq]; exact hk
  simp [rowFrom, cutAt, e1]
theorem VFG.enterC {γ : Sto} {f : FuncId} {args : List PV} {fn : Func} {c : Code} {r : PV} (hfn : P.funcs[f]? = some fn) (hc : fn.body = some c) (ho : ∀ us h, orc f us h = none) (hn : (Nat.blt 4000 fn.ntmps || Nat.blt fn.ntmps args.length) = false)
    (hb : VC P orc none c fn.ntmps (argVL 0 args) γ (VEnd P fn r)) : VFG P orc f args γ (fun r' g => r' = r ∧ g = []) := fun h S us hok hS hcells hnd hsep ha => by
  have hl := ha.len
  have hn2 : Nat.blt 4000 fn.ntmps = false ∧ Nat.blt fn.ntmps args.length = false := by simpa using hn
  have n3 := nble_no hn2.1; have n4 := nble_no hn2.2; have ha' : RepL (entry h) (own γ ++ S) args us := RepL.nx (h := h) (h' := entry h) (fun _ _ a b => ⟨a, b⟩) ha
  have I0 : Iv (entry h) (own γ) S (entry h) γ (fillTr .leaf 0 us) [] (argVL 0 args) := {
    ok := hok
    s0 := hS.1
    aft := Aft.refl _ _
    cells := fun c hc => (hcells c hc).keep (fun _ _ => rfl) (fun _ _ a b => ⟨a, b⟩) fun b hb => List.mem_append_left _ (List.mem_flatMap.2 ⟨c, hc, hb⟩)
    new := fun b hb => ⟨.inl hb, hsep b hb⟩
    apart := hnd
    mark := fun d hd => by cases hd
    marks := List.nodup_nil
    slots := slots_args (hS.2.ent hcells) ha' (by omega) }
  refine EvF.enter hfn hc (ho us h) (by rw [hl]; exact hn) ((hb (entry h) (own γ) S _ (entry h) [] I0).mono fun e fr h1 hq => ?_); obtain ⟨_, fl', σ', I, he, ps, hps, rfl⟩ := hq; obtain ⟨h2, d1, d2, d3⟩ := drops_ok I.marks fun d hd => (I.mark d hd).2
  have hgd : ∀ b o, h1.get b = some o → o ≠ .defd → h2.get b = some o := fun b o hg hne => by
    rw [d3 b (fun hm => hne (by have := (I.mark b hm).2; rw [hg] at this; exact Option.some.inj this))]; exact hg
  have a2 : Aft (entry h) h2 (own γ) := I.aft.trans d2 fun i hi => .inr (I.mark i hi).1; have hN : GoesR h1 S h2 S := fun b _ hg hne hbS => ⟨hgd b _ hg hne, hbS⟩; obtain ⟨us', e1, e2⟩ := hps.ok I.lc hgd hN; have hrep := tup_rep e2; refine ⟨he, h2, us', d1, e1, ?_⟩; unfold leftOf
  cases haf : (af (tupled us') && Nat.ble h.next h2.low) with
  | true => exact ⟨_, [], ⟨rfl, rfl⟩, ⟨Aft.refl _ _, fun b hb => (by cases hb), List.nodup_nil, fun c hc => (by cases hc)⟩, hrep.anyAf (band haf).1⟩
  | false =>
    refine ⟨_, [], ⟨rfl, rfl⟩, ⟨⟨a2.next, a2.get, fun x => a2.ok x, fun e h3 h4 h5 => Nat.le_min.2 ⟨h3, a2.low e (Nat.le_trans h4 (Nat.le_refl _)) h4 h5⟩, fun b hb => ?_, Nat.min_le_left _ _⟩, fun b hb => (by cases hb), List.nodup_nil, fun c hc => (by cases hc)⟩, RepPV.nx (h := h2) (h' := { next := h2.next, low := min h.low h2.low, objs := h2.objs }) (fun _ _ a b => ⟨a, b⟩) hrep⟩; rcases a2.chg b hb with h3 | h3
    · exact .inl h3
    exact .inr (Nat.le_trans (Nat.min_le_right _ _) h3)
section
variable {α : Type} [DecidableEq α] {dd : α} {xs : List α}
end
end Go.Fs
namespace Go.Fs
variable {α : Type}
structure Weak (lt : α → α → Bool) : Prop where
  asym : ∀ a b, lt a b = true → lt b a = false
  neg : ∀ a b c, lt a b = false → lt b c = false → lt a c = false
variable {lt : α → α → Bool}
def eqv (lt : α → α → Bool) (a b : α) : Bool := !lt a b && !lt b a
def SameEq (lt : α → α → Bool) (xs ys : List α) : Prop := ∀ a, xs.filter (eqv lt a) = ys.filter (eqv lt a)
variable {d : α}
abbrev at_ (xs : List α) (i : Nat) (d : α) : α := xs.getD i d
structure Seg (lt : α → α → Bool) (xs ys : List α) (a b : Nat) : Prop where
  len : ys.length = xs.length
  lo : ys.take a = xs.take a
  hi : ys.drop b = xs.drop b
  same : SameEq lt xs ys
theorem three (xs : List α) {a b : Nat} (h : a ≤ b) : xs = xs.take a ++ ((xs.take b).drop a ++ xs.drop b) := by
  conv => lhs; rw [← List.take_append_drop b xs]
  rw [← List.append_assoc]; congr 1
  conv => lhs; rw [← List.take_append_drop a (xs.take b)]
  rw [List.take_take, Nat.min_eq_left h]
structure Insd (lt : α → α → Bool) (d : α) (ys : List α) (a j i : Nat) : Prop where
  srt : ∀ p q, a ≤ p → p < q → q ≤ i → q ≠ j → p ≠ j → lt (ys.getD q d) (ys.getD p d) = false
  less : ∀ q, j < q → q ≤ i → lt (ys.getD j d) (ys.getD q d) = true
end Go.Fs
namespace Go.Fs
variable {α : Type} {lt : α → α → Bool} {d : α} {ys : List α} {a b m n s e i j k : Nat}
theorem four (h1 : s ≤ m) (h2 : m ≤ e) : ys = ys.take s ++ ((ys.drop s).take (m - s) ++ ((ys.drop m).take (e - m) ++ ys.drop e)) := by
  conv => lhs; rw [← List.take_append_drop s ys, ← List.take_append_drop (m - s) (ys.drop s), List.drop_drop, show s + (m - s) = m by omega, ← List.take_append_drop (e - m) (ys.drop m), List.drop_drop, show m + (e - m) = e by omega]
structure Cut (lt : α → α → Bool) (d : α) (ys : List α) (a m b s e : Nat) : Prop where
  le : s ≤ m ∧ m ≤ e ∧ a ≤ s ∧ e ≤ b
  lo : a < s → e < b → lt (ys.getD e d) (ys.getD (s - 1) d) = false
  hi : s < m → m < e → lt (ys.getD (e - 1) d) (ys.getD s d) = true
end Go.Fs
namespace Go.Fs
variable {P : Program} {orc : FuncId → List Value → Heap → Option (Value × Heap)} {h h' h0 h1 h2 : Heap} {S S' S0 B G : List Nat} {σ σ' σr : Sto} {t t' : Tr} {ms : List Nat} {fl : VL} {ops : Array Oper} {n i mem : Nat} {l : List Oper} {K : VL → Sto → Prop} {Q : Ex → VL → Sto → Prop}
  {d : Tmp} {ty : TypeId} {pos : String} {after : Array Edge} {op : Op} {v pv : PV} {g : Option (Nat × Bool)} {x y z : Operand} {T T' e : TypeId} {τ τ' : Ty} {w : Value}
theorem CalmV.shrUU {p q : Int} (hx : evV fl x = some (.v (.int .u64) p)) (hy : evV fl y = some (.v (.int .u64) q)) (hq : 0 ≤ q ∧ q ≤ 64) : CalmV P fl σ (.binOp .shr T x y T') (.v (.int .u64) (p.fdiv (2 ^ q.toNat))) :=
  .binI hx hy (u := .int .u64 (p.fdiv (2 ^ q.toNat))) (by have this : min q.toNat IntKind.u64.bits = q.toNat := Nat.min_eq_left (show q.toNat ≤ 64 by omega); show (runPure P (Op.shift .shr .u64 p .u64 q)).bind _ = _; unfold Op.shift; rw [if_neg (by omega)]; simp only [this]; rfl) fun h S => RepV.ofInt _ _
theorem RepC.same (hg : ∀ b o, h.get b = some o → h2.get b = some o) : ∀ {τ : Ty} {cs : List Value} {x y : τ.den}, RepC h S τ cs x → RepC h2 S' τ cs y → x = y := by
  intro τ
  induction τ with
  | int k => intro cs x y hx hy; have hx' : cs = [.int k x] := hx; have hy' : cs = [.int k y] := hy; rw [hx'] at hy'; simpa using hy'
  | bool => intro cs x y hx hy; have hx' : cs = [.bool x] := hx; have hy' : cs = [.bool y] := hy; rw [hx'] at hy'; simpa using hy'
  | str => intro cs x y hx hy; have hx' : cs = [.string x] := hx; have hy' : cs = [.string y] := hy; rw [hx'] at hy'; simpa using hy'
  | flt k => intro cs x y hx hy; have hx' : cs = [.float k x] := hx; have hy' : cs = [.float k y] := hy; rw [hx'] at hy'; simpa using hy'
  | unit => intro cs x y _ _; rfl
  | fn =>
    intro cs x y hx hy; have hx' : cs = [fnV x] := hx; have hy' : cs = [fnV y] := hy; rw [hx'] at hy'
    have h3 : fnV x = fnV y := by simpa using hy'
    cases x with
    | none => cases y with
      | none => rfl
      | some b => cases h3
    | some a => cases y with
      | none => cases h3
      | some b => injection h3 with h4; injection h4 with h5; rw [h5]
  | hnd =>
    intro cs x y hx hy; have hx' : cs = [hndV x] := hx; have hy' : cs = [hndV y] := hy; rw [hx'] at hy'
    have h3 : hndV x = hndV y := by simpa using hy'
    cases x with
    | none => cases y with
      | none => rfl
      | some b => cases h3
    | some a => cases y with
      | none => cases h3
      | some b =>
        obtain ⟨a1, a2⟩ := a; obtain ⟨b1, b2⟩ := b; simp only [hndV, Value.slice.injEq, Option.some.injEq, Addr.mk.injEq, and_true, true_and] at h3
        rw [h3.1, h3.2]
  | pair a b iha ihb => intro cs x y hx hy; exact Prod.ext (iha hx.1 hy.1) (ihb hx.2 hy.2)
  | sl e ih =>
    rintro cs x y ⟨v, h1, hv⟩ ⟨v', h1', hv'⟩
    obtain rfl : v = v' := by rw [h1] at h1'; simpa using h1'
    have key : List.length (x : List e.den) = List.length (y : List e.den) ∧ ∀ i (hi : i < List.length (x : List e.den)) (hj : i < List.length (y : List e.den)), (x : List e.den)[i] = (y : List e.den)[i] := by
      rcases hv with ⟨rfl, rfl⟩ | ⟨b, o, mk, rfl, hv⟩
      · rcases hv' with ⟨_, rfl⟩ | ⟨_, _, _, h3, _⟩
        · exact ⟨rfl, fun i hi => absurd hi (Nat.not_lt_zero i)⟩
        cases h3
      rcases hv' with ⟨h3, _⟩ | ⟨b', o', mk', h3, hv'⟩
      · cases h3
      injection h3 with h4 h5 h6; injection h4 with h7; injection h7 with h8 h9 h10; subst h8; subst h9; refine ⟨h5, fun i hi hj => ?_⟩; rcases hv with rfl | ⟨_, e1, rs, ow, mo, g1, _, g3⟩
      · exact absurd hi (Nat.not_lt_zero i)
      rcases hv' with rfl | ⟨_, e1', rs', ow', mo', g1', _, g3'⟩
      · exact absurd hj (Nat.not_lt_zero i)
      have h11 := hg _ _ g1; rw [g1'] at h11; injection h11 with h12; injection h12 with _ h13; subst h13; exact ih (g3 i hi) (g3' i hj)
    exact List.ext_getElem key.1 key.2
  | mp a b iha ihb =>
    rintro cs x y ⟨v, h1, hv⟩ ⟨v', h1', hv'⟩
    obtain rfl : v = v' := by rw [h1] at h1'; simpa using h1'
    have key : List.length (x : List (a.den × b.den)) = List.length (y : List (a.den × b.den)) ∧ ∀ i (hi : i < List.length (x : List (a.den × b.den))) (hj : i < List.length (y : List (a.den × b.den))), (x : List (a.den × b.den))[i] = (y : List (a.den × b.den))[i] := by
      rcases hv with ⟨rfl, rfl⟩ | ⟨bb, es, c, rfl, _, g1, g2, g3⟩
      · rcases hv' with ⟨_, rfl⟩ | ⟨_, _, _, h3, _⟩
        · exact ⟨rfl, fun i hi => absurd hi (Nat.not_lt_zero i)⟩
        cases h3
      rcases hv' with ⟨h3, _⟩ | ⟨b', es', c', h3, _, g1', g2', g3'⟩
      · cases h3
      injection h3 with h4; injection h4 with h5; subst h5; have h11 := hg _ _ g1; rw [g1'] at h11; injection h11 with h12; injection h12 with h13 _; subst h13; refine ⟨g2.symm.trans g2', fun i hi hj => ?_⟩; have q1 := g3 i hi (by omega); have q2 := g3' i hj (by omega); exact Prod.ext (iha q1.1.2 q2.1.2) (ihb q1.2.2 q2.2.2)
    exact List.ext_getElem key.1 key.2
end Go.Fs
namespace Go.Fs
variable {P : Program} {orc : FuncId → List Value → Heap → Option (Value × Heap)} {rnd : Option Nat} {h h' h0 h1 h2 : Heap} {S S' S0 B G : List Nat} {σ σ' σr : Sto} {t t' : Tr} {ms : List Nat} {fl : VL} {ops : Array Oper} {n i mem : Nat} {l : List Oper} {K : VL → Sto → Prop} {Q : Ex → VL → Sto → Prop}
  {d : Tmp} {ty : TypeId} {pos : String} {after : Array Edge} {op : Op} {v pv : PV} {g : Option (Nat × Bool)} {x y z : Operand} {T T' e : TypeId} {τ τ' : Ty} {w : Value}
theorem SlV.cellsOf {v : Value} {ys : List τ.den} (hv : SlV h S τ v ys) (hp : 0 < τ.size) : lenV v = some ys.length ∧ ∃ vs, Fs.cellsOf τ.size ys.length v h = some vs ∧ Elems h S τ vs ys := by
  rcases hv with ⟨rfl, rfl⟩ | ⟨b, o, mk, rfl, hv⟩
  · exact ⟨rfl, [], rfl, Elems.nil⟩
  refine ⟨rfl, ?_⟩
  have e1 : Nat.ble ys.length ys.length = true := by rw [Nat.ble_eq]; exact Nat.le_refl _
  by_cases hz : ys.length = 0
  · obtain rfl := List.eq_nil_of_length_eq_zero hz; refine ⟨[], ?_, Elems.nil⟩; simp only [Fs.cellsOf, List.length_nil, Nat.zero_mul]; rfl
  rcases hv with rfl | ⟨h1, e', rs, own, more, h2, h3, h4⟩
  · exact absurd rfl hz
  have e2 : Nat.beq (ys.length * τ.size) 0 = false := beq_no (Nat.ne_of_gt (Nat.mul_pos (Nat.pos_of_ne_zero hz) hp))
  have e3 : Nat.ble (o + ys.length * τ.size) rs.length = true := by rw [Nat.ble_eq]; exact h3
  refine ⟨(rs.drop o).take (ys.length * τ.size), ?_, ?_, fun i hi => ?_⟩
  · simp only [Fs.cellsOf, e1, cond_true, e2, cond_false, h2, e3]
  · rw [List.length_take, List.length_drop]; omega
  have h9 : (i + 1) * τ.size ≤ ys.length * τ.size := Nat.mul_le_mul_right _ hi; rw [Nat.add_mul, Nat.one_mul] at h9; have := h4 i hi; rw [List.drop_take, List.take_take, List.drop_drop, Nat.min_eq_left (by omega)]; exact this
theorem MakeV.copyO {xs ys : List τ.den} (hT : ElT P T e τ) (hl : ys.length = xs.length) (hx : evV fl x = some (.raw w)) (hy : evV fl y = some (.v (.sl τ) ys)) :
    MakeV P fl ((w, .row e τ xs) :: σ) (.call { callee := .builtin .copy, args := #[x, y], argTypes := #[T, T'] }) fun v σ' => v = .v (.int .i64) ((ys.length : Nat) : Int) ∧ σ' = (w, .row e τ ys) :: σ :=
  ⟨rfl, fun S0 h t L => by
    have h1 : evalO t x = w := evV_ok L.slots hx; have hu := (evV_ok L.slots hy : RepV h _ (.sl τ) (evalO t y) ys).sl; obtain ⟨i, z, hi1, hi2, hi3, hi3', hi4, hi5, hi6⟩ := hT.sl.info; obtain ⟨c1, vs, c2, c3⟩ := hu.cellsOf hT.sl.pos; have hmin : Nat.min ys.length xs.length = ys.length := Nat.min_eq_left (Nat.le_of_eq hl); have hvl : vs.length = ys.length * τ.size := c3.1; have hvo : vs.all oneCell = true := Elems.allOne _ _ c3; rcases L.cells _ List.mem_cons_self with ⟨hw, rfl⟩ | ⟨b, rs, m, h3, h4, h5, h6⟩
    · obtain rfl := List.eq_nil_of_length_eq_zero hl; have hw' : w = .slice none 0 0 := hw; obtain rfl := List.eq_nil_of_length_eq_zero (by rw [hvl]; simp : vs.length = 0); refine ⟨.int .i64 ((0 : Nat) : Int), h, .v (.int .i64) ((0 : Nat) : Int), _, ⟨rfl, rfl⟩, Made.same L (Aft.refl _ _), RepV.ofInt _ _, fun _ _ _ _ _ => ?_⟩; show (fsCopy P #[T, T'] (evalO t x) (evalO t y) h) = _; rw [h1, hw']; have c1' : lenV (evalO t y) = some 0 := c1; have c2' : Fs.cellsOf τ.size 0 (evalO t y) h = some [] := c2; simp only [fsCopy, List.getElem?_toArray, List.getElem?_cons_zero, hT.sl.sl, hi1, c1', show lenV (.slice none 0 0) = some 0 from rfl, hi2, show Nat.min 0 0 = 0 from rfl, c2', List.length_nil, Nat.zero_mul]; rfl
    have hw : w = _ := h3
    have hbk : blk w = [b] := by rw [hw]; rfl
    have hrl := h6.1; have hnew : Elems h (own ((w, Cell.row e τ xs) :: σ) ++ S0) τ vs ys := c3; by_cases hz : ys.length = 0
    · obtain rfl := List.eq_nil_of_length_eq_zero hz; obtain rfl := List.eq_nil_of_length_eq_zero (by rw [← hl]; rfl : xs.length = 0); refine ⟨.int .i64 ((0 : Nat) : Int), h, .v (.int .i64) ((0 : Nat) : Int), _, ⟨rfl, rfl⟩, Made.same L (Aft.refl _ _), RepV.ofInt _ _, fun _ _ _ _ _ => ?_⟩; show (fsCopy P #[T, T'] (evalO t x) (evalO t y) h) = _; rw [h1, hw]; obtain rfl := List.eq_nil_of_length_eq_zero (by rw [hvl]; simp : vs.length = 0); have c1' : lenV (evalO t y) = some 0 := c1; have c2' : Fs.cellsOf τ.size 0 (evalO t y) h = some [] := c2; simp only [fsCopy, List.getElem?_toArray, List.getElem?_cons_zero, hT.sl.sl, hi1, c1', List.length_nil, show ∀ q m, lenV (.slice q 0 m) = some 0 from fun _ _ => rfl, hi2, show Nat.min 0 0 = 0 from rfl, c2', Nat.zero_mul]; rfl
    refine ⟨.int .i64 ((ys.length : Nat) : Int), h.set b (.row e vs true m), .v (.int .i64) ((ys.length : Nat) : Int), _, ⟨rfl, rfl⟩, Made.head L (Aft.set h5 (by rw [hbk]; simp)) (fun b hb => .inl hb) (by rw [hbk]; simp) fun hN => ?_, RepV.ofInt _ _, fun _ _ _ _ _ => ?_⟩
    · refine .inr ⟨b, _, m, by rw [hl]; exact h3, ?_, by rw [Heap.get_set h5, if_pos rfl], hnew.nx hN⟩; rw [own_cons]; exact List.mem_append_left _ (List.mem_append_left _ (by rw [hbk]; simp))
    show (fsCopy P #[T, T'] (evalO t x) (evalO t y) h) = _; have e2 : Nat.beq (ys.length * τ.size) 0 = false := beq_no (Nat.ne_of_gt (Nat.mul_pos (Nat.pos_of_ne_zero hz) hT.sl.pos))
    have e3 : Nat.ble (0 + ys.length * τ.size) rs.length = true := by rw [Nat.ble_eq, hrl, hl]; omega
    have e4 : Nat.beq vs.length (ys.length * τ.size) = true := by rw [hvl]; exact Nat.beq_refl _
    have e5 : splice rs 0 vs = vs := splice_all (by rw [hvl, hrl, hl]); rw [h1, hw]; simp only [fsCopy, List.getElem?_toArray, List.getElem?_cons_zero, hT.sl.sl, hi1, c1, show ∀ q m, lenV (.slice q xs.length m) = some xs.length from fun _ _ => rfl, hi2]
    simp only [show Nat.min ys.length xs.length = ys.length from hmin, c2, e4, hvo, Bool.and_self, cond_true, e2, cond_false, h5, e3, e5]⟩
theorem VO.copy {xs ys : List τ.den} (hx : evV fl x = some (.raw w)) (hy : evV fl y = some (.v (.sl τ) ys)) (hT : ElT P T e τ) (hl : ys.length = xs.length) (hk : VO P orc ops n l ((d, .v (.int .i64) ((ys.length : Nat) : Int)) :: fl) ((w, .row e τ ys) :: σ) K) (hw : wantV ops fl g = some true := by rfl) (hn : (Nat.blt d n && Nat.ble n 4000) = true := by rfl) :
    VO P orc ops n (⟨some d, .call { callee := .builtin .copy, args := #[x, y], argTypes := #[T, T'] }, ty, pos, after, g⟩ :: l) fl ((w, .row e τ xs) :: σ) K :=
  VO.mk (MakeV.copyO hT hl hx hy) (by rintro _ _ ⟨rfl, rfl⟩; exact hk) hw hn
end Go.Fs
namespace Go.Fs
variable {P : Program} {orc : FuncId → List Value → Heap → Option (Value × Heap)} {rnd : Option Nat} {h h' h0 h1 h2 : Heap} {S S' S0 B G : List Nat} {σ σ' σr : Sto} {t t' : Tr} {ms : List Nat} {fl : VL} {ops : Array Oper} {n i mem : Nat} {l : List Oper} {K : VL → Sto → Prop} {Q : Ex → VL → Sto → Prop}
  {d : Tmp} {ty : TypeId} {pos : String} {after : Array Edge} {op : Op} {v pv : PV} {g : Option (Nat × Bool)} {x y z : Operand} {T T' e : TypeId} {τ τ' : Ty} {w : Value}
inductive SetP : (τ : Ty) → τ.den → Nat → (τ' : Ty) → τ'.den → τ.den → Prop where
  | o {τ : Ty} {x y : τ.den} : SetP τ x 0 τ y y
  | l {a b : Ty} {x : (Ty.pair a b).den} {k : Nat} {τ' : Ty} {y : τ'.den} {z : a.den} (hs : SetP a x.1 k τ' y z) : SetP (.pair a b) x k τ' y (z, x.2)
  | r {a b : Ty} {x : (Ty.pair a b).den} {k k' : Nat} {τ' : Ty} {y : τ'.den} {z : b.den} (hs : SetP b x.2 k τ' y z) (hk : k' = a.size + k := by rfl) : SetP (.pair a b) x k' τ' y (x.1, z)
theorem splice_len {rs us : List Value} {a : Nat} (h : a + us.length ≤ rs.length) : (splice rs a us).length = rs.length := by
  unfold splice; rw [List.length_append, List.length_append, List.length_take, List.length_drop]; omega
theorem SetP.fits {τ τ' : Ty} {x z : τ.den} {y : τ'.den} {k : Nat} (hs : SetP τ x k τ' y z) : k + τ'.size ≤ τ.size := by
  induction hs with
  | o => omega
  | @l a b x k τ' y z hs ih => show _ ≤ a.size + b.size; omega
  | @r a b x k k' τ' y z hs hk ih => show _ ≤ a.size + b.size; omega
theorem SetP.repC {τ τ' : Ty} {x z : τ.den} {y : τ'.den} {k : Nat} (hs : SetP τ x k τ' y z) : ∀ {cs us : List Value}, RepC h S τ cs x → RepC h S τ' us y → RepC h S τ (splice cs k us) z := by
  induction hs with
  | o =>
    intro cs us hx hy
    rw [splice_all (by rw [hx.len, hy.len])]; exact hy
  | @l a b x k τ' y z hs ih =>
    intro cs us hx hy; have hf := hs.fits; have hyl := hy.len; have hal := hx.1.len; rw [List.length_take] at hal; have h1 := ih hx.1 hy; have h1l := h1.len
    have e : splice cs k us = splice (cs.take a.size) k us ++ cs.drop a.size := by
      unfold splice; rw [List.take_take, Nat.min_eq_left (by omega)]; simp only [List.append_assoc]; have := List.take_append_drop (a.size - (k + us.length)) (cs.drop (k + us.length)); rw [List.drop_drop, show k + us.length + (a.size - (k + us.length)) = a.size by omega] at this; rw [List.drop_take, this]
    rw [e]
    exact ⟨by rw [List.take_left' h1l]; exact h1, by rw [List.drop_left' h1l]; exact hx.2⟩
  | @r a b x k k' τ' y z hs hk ih =>
    intro cs us hx hy; subst hk; have hf := hs.fits; have hyl := hy.len; have hal := hx.1.len; rw [List.length_take] at hal; have h1 := ih hx.2 hy
    have e : splice cs (a.size + k) us = cs.take a.size ++ splice (cs.drop a.size) k us := by
      unfold splice; rw [List.take_add, List.drop_drop, List.append_assoc, List.append_assoc, List.append_assoc, Nat.add_assoc]
    have hl : (cs.take a.size).length = a.size := by rw [List.length_take]; omega
    rw [e]; exact ⟨by rw [List.take_left' hl]; exact hx.1, by rw [List.drop_left' hl]; exact h1⟩
theorem splice_in {rs us : List Value} {a k s : Nat} (h1 : k + us.length ≤ s) (h2 : a + s ≤ rs.length) : splice rs (a + k) us = splice rs a (splice ((rs.drop a).take s) k us) := by
  have hl : ((rs.drop a).take s).length = s := by rw [List.length_take, List.length_drop]; omega
  have hl2 : (splice ((rs.drop a).take s) k us).length = s := by rw [splice_len (by omega), hl]
  conv => rhs; unfold splice
  rw [show (((rs.drop a).take s).take k ++ us ++ ((rs.drop a).take s).drop (k + us.length)).length = s from hl2]; unfold splice; rw [List.take_take, Nat.min_eq_left (by omega), List.take_add, List.drop_take, List.drop_drop]; have := List.take_append_drop (s - (k + us.length)) (rs.drop (a + (k + us.length))); rw [List.drop_drop, show a + (k + us.length) + (s - (k + us.length)) = a + s by omega] at this; simp only [List.append_assoc]; rw [this, Nat.add_assoc]
def cellAt (τ : Ty) (rs : List Value) (o : Nat) : Value := if τ.agg then .agg ((rs.drop o).take τ.size).toArray else rs.getD o undef
theorem load_at {own more : Bool} {rs : List Value} {b o : Nat} {y : τ.den} (hT : ValT P T τ) (hg : h.get b = some (.row e rs own more)) (hb : o + τ.size ≤ rs.length) (hr : RepC h S τ ((rs.drop o).take τ.size) y) : fsLoad P T (.pointer (some ⟨b, o, none⟩)) h = some (cellAt τ rs o) ∧ RepV h S τ (cellAt τ rs o) y := by
  obtain ⟨i, hi, hs⟩ := hT.info; obtain ⟨d, hd, ha⟩ := hT.agg; simp only [fsLoad, cellAt, hg, hd, hi, ha, hs]
  cases hb2 : τ.agg with
  | true =>
    simp only [if_true, hb]
    refine ⟨trivial, by simpa [isAggV] using hb2.symm, by simpa [Value.cells] using hr⟩
  | false =>
    have h1 := Ty.size_one hb2; rw [h1] at hb hr
    have ho : o < rs.length := by omega
    rw [take_one ho] at hr; obtain ⟨u, hu, hv⟩ := hr.one hb2; simp only [List.cons.injEq, and_true] at hu; simp only [Bool.false_eq_true, if_false, List.getD_eq_getElem?_getD, List.getElem?_eq_getElem ho, Option.getD_some]; exact ⟨trivial, by rw [hu]; exact hv⟩
theorem CalmV.faE {s : TypeId} {f k j : Nat} {xs : List τ.den} (hm : (w, Cell.row e τ xs) ∈ σ) (hj : j < xs.length) (hb : offB P s f k = true := by kernel_rfl) (hx : evV fl x = some (.raw (ptrAt w τ.size j)) := by rfl) : CalmV P fl σ (.fieldAddr s x f) (.raw (padd (ptrAt w τ.size j) k)) :=
  ⟨rfl, fun h S t hs hc => by
    have h1 : evalO t x = ptrAt w τ.size j := hs x (by simp [Op.operands]) _ hx; refine ⟨_, rfl, fun _ _ _ _ _ H => ?_⟩; rcases hc _ hm with ⟨_, rfl⟩ | ⟨b, rs, m, h3, h4, h5, h6⟩
    · simp at hj
    have hw : w = _ := h3; have hjs : (j + 1) * τ.size ≤ xs.length * τ.size := Nat.mul_le_mul_right _ hj; rw [Nat.add_mul, Nat.one_mul] at hjs; have hrl := h6.1; have hp : RepP h [] .unit (ptrAt w τ.size j) () := ⟨b, 0 + j * τ.size, e, rs, true, m, by rw [hw]; rfl, by simp, h5, by show 0 + j * τ.size + 0 ≤ _; omega, by simp [RepC, Ty.size]⟩; show (runPure P (Instr.fieldAt s (evalO t x) f)).map _ = _
    rw [h1, hp.fa hb]; rfl⟩
theorem ReadV.ldE {j k : Nat} {xs : List τ.den} {dy : τ'.den} (hj : j < xs.length) (hs : Sub τ xs[j] k τ' dy) (hx : evV fl x = some (.raw (padd (ptrAt w τ.size j) k))) (hm : (w, Cell.row e τ xs) ∈ σ) (hT : ValT P T τ') : ReadV P fl σ (.load T x) (.v τ' dy) :=
  ⟨rfl, fun h S t hsl hc => by
    have h1 : evalO t x = padd (ptrAt w τ.size j) k := hsl x (by simp [Op.operands]) _ hx; rcases hc _ hm with ⟨_, rfl⟩ | ⟨b, rs, m, h3, h4, h5, h6⟩
    · simp at hj
    have hw : w = _ := h3; obtain ⟨q1, q2⟩ := hs.repC (h6.2 j hj); have hjs : (j + 1) * τ.size ≤ xs.length * τ.size := Nat.mul_le_mul_right _ hj; rw [Nat.add_mul, Nat.one_mul] at hjs; have hrl := h6.1; rw [List.length_take, List.length_drop] at q1; rw [List.drop_take, List.take_take, List.drop_drop, Nat.min_eq_left (by omega)] at q2; refine ⟨cellAt τ' rs (j * τ.size + k), (load_at hT h5 (by omega) q2).2, fun H hH _ _ _ _ _ => ?_⟩; have q3 : RepC H S τ' ((rs.drop (j * τ.size + k)).take τ'.size) dy := q2.nx fun b o hg hb => ⟨hH b o hg, hb⟩; show (fsLoad P T (evalO t x) H).map _ = _; rw [h1, hw]; show (fsLoad P T (.pointer (some ⟨b, 0 + j * τ.size + k, none⟩)) H).map _ = _
    rw [Nat.zero_add, (load_at hT (hH b _ h5) (by omega) q3).1]; rfl⟩
theorem MakeV.setEF {xs : List τ.den} {dy : τ'.den} {dz : τ.den} {j k : Nat} (hj : j < xs.length) (hT : ValT P T τ') (hs : SetP τ xs[j] k τ' dy dz) (hx : evV fl x = some (.raw (padd (ptrAt w τ.size j) k))) (hy : evV fl y = some (.v τ' dy)) :
    MakeV P fl ((w, .row e τ xs) :: σ) (.store T x y) fun v σ' => v = .raw undef ∧ σ' = (w, .row e τ (xs.set j dz)) :: σ :=
  ⟨rfl, fun S0 h t L => by
    have h1 : evalO t x = padd (ptrAt w τ.size j) k := evV_ok L.slots hx; have hu := (evV_ok L.slots hy : RepV h _ τ' (evalO t y) dy); rcases L.cells _ List.mem_cons_self with ⟨_, rfl⟩ | ⟨b, rs, m, h3, h4, h5, h6⟩
    · simp at hj
    have hw : w = _ := h3; have hjs : (j + 1) * τ.size ≤ xs.length * τ.size := Nat.mul_le_mul_right _ hj; rw [Nat.add_mul, Nat.one_mul] at hjs; have hrl := h6.1; obtain ⟨i, hi, hsz⟩ := hT.info; have hul : (evalO t y).cells.toList.length = τ'.size := hu.2.len
    have hbk : blk w = [b] := by rw [hw]; rfl
    have hf := hs.fits; have hnew := elems_set h6 hj (hs.repC (h6.2 j hj) hu.2); rw [← splice_in (by omega) (by omega)] at hnew; refine ⟨undef, h.set b (.row e (splice rs (j * τ.size + k) (evalO t y).cells.toList) true m), .raw undef, _, ⟨rfl, rfl⟩, Made.head L (Aft.set h5 (by rw [hbk]; simp)) (fun b hb => .inl hb) (by rw [hbk]; simp) fun hN => ?_, rfl, fun _ _ _ _ _ => ?_⟩
    · refine .inr ⟨b, _, m, by rw [List.length_set]; exact h3, ?_, by rw [Heap.get_set h5, if_pos rfl], hnew.nx hN⟩; rw [own_cons]; exact List.mem_append_left _ (List.mem_append_left _ (by rw [hbk]; simp))
    show (fsStore P T (evalO t x) (evalO t y) h).map _ = _
    have : fsStore P T (evalO t x) (evalO t y) h = some (h.set b (.row e (splice rs (j * τ.size + k) (evalO t y).cells.toList) true m)) := by
      rw [h1, hw]; simp only [fsStore, ptrAt, padd, h5, hi, hsz, hul, hu.2.allOne, Nat.zero_add]; rw [if_pos ⟨trivial, by omega, trivial⟩]
    rw [this]; rfl⟩
theorem VO.setEF {xs : List τ.den} {dy : τ'.den} {dz : τ.den} {j k : Nat} (hj : j < xs.length) (hT : ValT P T τ') (hs : SetP τ xs[j] k τ' dy dz) (hk : VO P orc ops n l fl ((w, .row e τ (xs.set j dz)) :: σ) K) (hx : evV fl x = some (.raw (padd (ptrAt w τ.size j) k)) := by rfl) (hy : evV fl y = some (.v τ' dy) := by rfl) (hw : wantV ops fl g = some true := by rfl) :
    VO P orc ops n (⟨none, .store T x y, ty, pos, after, g⟩ :: l) fl ((w, .row e τ xs) :: σ) K :=
  VO.mk0 (MakeV.setEF hj hT hs hx hy) (by rintro _ _ ⟨rfl, rfl⟩; exact hk) hw
end Go.Fs
namespace Go.Fs
variable {P : Program} {orc : FuncId → List Value → Heap → Option (Value × Heap)} {rnd : Option Nat} {h h' h0 h1 h2 : Heap} {S S' S0 B G : List Nat} {σ σ' σr : Sto} {t t' : Tr} {ms : List Nat} {fl : VL} {ops : Array Oper} {n i mem : Nat} {l : List Oper} {K : VL → Sto → Prop} {Q : Ex → VL → Sto → Prop}
  {d : Tmp} {ty : TypeId} {pos : String} {after : Array Edge} {op : Op} {v pv : PV} {g : Option (Nat × Bool)} {x y z : Operand} {T T' e : TypeId} {τ τ' : Ty} {w : Value}
end Go.Fs
namespace Go.Fs
variable {P : Program} {orc : FuncId → List Value → Heap → Option (Value × Heap)} {rnd : Option Nat} {h h' h0 h1 h2 : Heap} {S S' S0 B G : List Nat} {σ σ' σr : Sto} {t t' : Tr} {ms : List Nat} {fl : VL} {ops : Array Oper} {n i mem : Nat} {l : List Oper} {K : VL → Sto → Prop} {Q : Ex → VL → Sto → Prop}
  {d : Tmp} {ty : TypeId} {pos : String} {after : Array Edge} {op : Op} {v pv : PV} {g : Option (Nat × Bool)} {x y z : Operand} {T T' e : TypeId} {τ τ' : Ty} {w : Value} {ρ : Sto} {bs nw : List Nat} {tl : Bool}
end Go.Fs
namespace Go.Fs
open Go.RowKit (Below)
open Go.Sort Go.Proofs
variable {P : Program}
variable {B : Nat} {w0 w w' : World} {ρ : Ren} {S : Nat → Prop} {h : Heap}
end Go.Fs
namespace Go.Fs
variable {P : Program} {O : FuncId → List Value → Heap → Option (Value × Heap)} {h h' : Heap} {S : List Nat}
end Go.Fs
namespace Go.Fs
open Go.RowKit (Below)
variable {P : Program}
def atoV (s : ByteArray) : Int := match Lib.atoiAll s.data.toList with
  | .ok v => v
  | Lib.NumEnd.syntax => 0
  | .range => Lib.atoiSat s.data.toList
def noSign (l : List UInt8) : List UInt8 := if l.head? = some 45 then l.tail else l
def atoK (s : ByteArray) : Bool := match Lib.atoiAll s.data.toList with
  | .ok v => decide ((noSign s.data.toList).length ≤ 9) && decide ((⟨(Lib.itoa v).toArray⟩ : ByteArray) = s)
  | _ => false
def orcZ (fz : FuncId) (o : FuncId → List Value → Heap → Option (Value × Heap)) : FuncId → List Value → Heap → Option (Value × Heap) := fun f xs h =>
  bif Nat.beq f fz then
    match xs with
    | [.string s] => bif Nat.ble s.size 1000000000 then some (.tuple #[.int .i64 (atoV s), .bool (atoK s)], h) else none
    | _ => none
  else o f xs h
theorem orcZ_sound {B : Nat} {w0 : World} {fz : FuncId} {o : FuncId → List Value → Heap → Option (Value × Heap)} (hz : w0.drawn = 0) (hS : CallSound P B w0 o) (ha : Enters P fz)
    (hA : ∀ (s : ByteArray) (w : World), Below B w0 w → s.size ≤ 1000000000 → Calls P fz #[.string s] w fun | .returned v', w' => v' = .tuple #[.int .i64 (atoV s), .bool (atoK s)] ∧ Below w.heap.size w w' | _, _ => False) : CallSound P B w0 (orcZ fz o) := by
  intro f xs h v h' hf; unfold orcZ at hf
  cases hb : Nat.beq f fz with
  | true =>
    have := nbeq hb; subst this; rw [hb] at hf; simp only [cond_true] at hf; split at hf
    · rename_i s; obtain ⟨hc, hf2⟩ := bif_some hf; have hc := nble hc; simp only [Option.some.injEq, Prod.mk.injEq] at hf2; obtain ⟨rfl, rfl⟩ := hf2; refine ⟨ha, fun ρ S w args' hr har nn => ?_⟩; have he : args' = [.string s] := har.eq_of_af (by rfl); subst he; have hC : CallsIn Fence.wide nn P f #[.string s] w _ := callsIn_wide.2 (hA s w hr.below hc); refine hC.mono fun e w' hret => ?_
      cases e with
      | returned v' =>
        obtain ⟨rfl, hb⟩ := hret
        exact ⟨ρ, Moved.grewWorld hr hb (by rw [hz]; exact Nat.zero_le _), .of_af (by rfl)⟩
      | panicked c => exact hret.elim
      | outgrown => exact hret.elim
    cases hf
  | false =>
    rw [hb] at hf; exact hS f xs h v h' hf
theorem VF.ato {orc : FuncId → List Value → Heap → Option (Value × Heap)} {f : FuncId} {s : ByteArray} (ho : ∀ h : Heap, orc f [.string s] h = some (.tuple #[.int .i64 (atoV s), .bool (atoK s)], h)) : VF P orc f [.v .str s] (.tup [.v (.int .i64) (atoV s), .v .bool (atoK s)]) := fun h S us hok hS hr => by
  obtain ⟨u, r, rfl, hu, hr⟩ := hr; obtain rfl : r = [] := hr; obtain rfl : u = .string s := RepV.str hu; exact EvF.oracle (ho h) ⟨Aft.refl _ _, ⟨[.int .i64 (atoV s), .bool (atoK s)], rfl, ⟨_, _, rfl, RepV.ofInt _ _, ⟨_, _, rfl, RepV.ofBool _, rfl⟩⟩⟩, fun _ => rfl⟩
end Go.Fs
namespace Go.Fs
open Go.RowKit (Below)
open Go.Sort Go.Proofs
variable {P : Program}
structure SortV (srt : List Value → Option (List Value)) : Prop where
  len : ∀ vs vs', srt vs = some vs' → vs'.length = vs.length
  ino : ∀ vs vs', srt vs = some vs' → vs.all af0 = true
  out : ∀ vs vs', srt vs = some vs' → vs'.all af0 = true
variable {B : Nat} {w0 w w' : World} {ρ : Ren} {S : Nat → Prop} {h : Heap}
end Go.Fs
namespace Go.Fs
open Go.RowKit (Below)
open Go.Sort Go.Proofs
variable {P : Program}
def ints : List Value → Option (List Int)
  | [] => some []
  | .int .i64 n :: r => (ints r).map (n :: ·)
  | _ => none
variable {B : Nat} {w0 w w' : World} {ρ : Ren} {S : Nat → Prop} {h : Heap}
end Go.Fs
namespace Go.Fs
open Go.RowKit (Below)
open Go.Proofs
variable {P : Program}
def orcC (fc : FuncId) (tb : TypeId) (O : FuncId → List Value → Heap → Option (Value × Heap)) : FuncId → List Value → Heap → Option (Value × Heap) := fun f xs h =>
  bif Nat.beq f fc then
    match xs with
    | [.pointer (some ⟨b, 0, none⟩)] =>
      match h.get b with
      | some (.row e [.pointer none, u] true false) => bif Nat.beq e tb then some (.tuple #[], h.set b (.row e [.pointer (some ⟨b, 0, none⟩), u] true false)) else none
      | some (.row e [.pointer (some ⟨b', 0, none⟩), u] true false) => bif Nat.beq b' b && Nat.beq e tb then some (.tuple #[], h) else none
      | _ => none
    | _ => none
  else O f xs h
variable {B : Nat} {w0 w w' : World} {ρ : Ren} {S : Nat → Prop} {h : Heap}
theorem vr_nil {x : Value} (h : VR ρ S (.pointer none) x) : x = .pointer none := by
  cases h with
  | lit _ => rfl
theorem vr_ptr {b o : Nat} {x : Value} (h : VR ρ S (.pointer (some ⟨b, o, none⟩)) x) : S b ∧ x = .pointer (some ((ρ b).at o)) := by
  cases h with
  | lit h => cases h
  | ptr b o hs => exact ⟨hs, rfl⟩
theorem orcC_sound {fc : FuncId} {tb : TypeId} {O : FuncId → List Value → Heap → Option (Value × Heap)} (hO : CallSound P B w0 O) (hs : Enters P fc)
    (hF : ∀ (b : Nat) (w : World), w.cell? ⟨b, 0, none⟩ = some (.pointer none) → w.shape? b = some (tb, 2) → w.frozen? ⟨b, 0, none⟩ = false → Calls P fc #[.pointer (some ⟨b, 0, none⟩)] w fun e w' => e = .returned (.tuple #[]) ∧ w' = w.setCell ⟨b, 0, none⟩ (.pointer (some ⟨b, 0, none⟩)))
    (hU : ∀ (b : Nat) (w : World), w.cell? ⟨b, 0, none⟩ = some (.pointer (some ⟨b, 0, none⟩)) → Calls P fc #[.pointer (some ⟨b, 0, none⟩)] w fun e w' => e = .returned (.tuple #[]) ∧ w' = w) : CallSound P B w0 (orcC fc tb O) := by
  intro f xs h v h' hf; unfold orcC at hf
  cases hb : Nat.beq f fc with
  | false =>
    rw [hb] at hf
    exact hO f xs h v h' hf
  | true =>
    have := nbeq hb; subst this; rw [hb] at hf; simp only [cond_true] at hf; split at hf
    · rename_i b; split at hf
      · rename_i e u hg; obtain ⟨hc, hf2⟩ := bif_some hf; clear hf; have he := nbeq hc; subst he; simp only [Option.some.injEq, Prod.mk.injEq] at hf2; obtain ⟨rfl, rfl⟩ := hf2; refine ⟨hs, fun ρ S w args' hr ha nn => ?_⟩
        match args', ha with
        | [x'], ha =>
          have hx : VR ρ S (.pointer (some ⟨b, 0, none⟩)) x' := ha.2 0 (by simp); obtain ⟨hSb, rfl⟩ := vr_ptr hx; obtain ⟨_, cur, h1, h2, h3, h4, h5, h6, h7⟩ := hr.objs b _ hg
          have hat : (ρ b).at 0 = ⟨(ρ b).block, 0, none⟩ := by simp [Loc.at, h2]
          have hl : cur.length = 2 := (h6 rfl).symm
          match cur, hl with
          | [c0, c1], _ =>
            have k0 : c0 = .pointer none := vr_nil (h7 0 (by simp)); have k1 : VR ρ S u c1 := h7 1 (by simp); subst k0; have hC : CallsIn Fence.wide nn P f #[.pointer (some ⟨(ρ b).block, 0, none⟩)] w _ := callsIn_wide.2 (hF (ρ b).block w (by simp [World.cell?, h1]) (by simp [World.shape?, h1]) (frozen_soft h1 (by rw [h3]; simp))); rw [hat]; refine hC.mono fun e' w' hret => ?_; obtain ⟨rfl, rfl⟩ := hret; refine ⟨ρ, Moved.set hr hg rfl rfl rfl rfl rfl (by simp [World.setCell]) (fun k hk => by simp [World.setCell, Array.getElem?_modify, Ne.symm hk]) ?_, VR.undef⟩; refine ⟨[.pointer (some ⟨(ρ b).block, 0, none⟩), c1], ?_, h2, by rw [h3]; rfl, h4, Nat.le_refl _, fun _ => rfl, fun i hi => ?_⟩
            · simp [World.setCell, Array.getElem?_modify, h1]
            match i, hi with
            | 0, _ =>
              have := VR.ptr (ρ := ρ) (S := S) b 0 hSb; rw [hat] at this
              exact this
            | 1, _ => exact k1
      · rename_i e b' u hg; obtain ⟨hc, hf2⟩ := bif_some hf; clear hf; obtain ⟨hc1, hc2⟩ := band hc; have hbb := nbeq hc1; subst hbb; simp only [Option.some.injEq, Prod.mk.injEq] at hf2; obtain ⟨rfl, rfl⟩ := hf2; refine ⟨hs, fun ρ S w args' hr ha nn => ?_⟩
        match args', ha with
        | [x'], ha =>
          have hx := vr_ptr (ha.2 0 (by simp)); obtain ⟨hSb, hx'⟩ := hx; have hx' : x' = _ := hx'; subst hx'; obtain ⟨_, cur, h1, h2, h3, h4, h5, h6, h7⟩ := hr.objs _ _ hg; have hl : cur.length = 2 := (h6 rfl).symm
          match cur, hl with
          | [c0, c1], _ =>
            obtain ⟨_, k0⟩ := vr_ptr (h7 0 (by simp)); have k0 : c0 = _ := k0; subst k0
            have hat : (ρ b').at 0 = ⟨(ρ b').block, 0, none⟩ := by simp [Loc.at, h2]
            rw [hat] at h1; have hC : CallsIn Fence.wide nn P f #[.pointer (some ⟨(ρ b').block, 0, none⟩)] w _ := callsIn_wide.2 (hU (ρ b').block w (by simp [World.cell?, h1])); show CallsIn _ _ _ _ #[.pointer (some ((ρ b').at 0))] _ _; rw [hat]; refine hC.mono fun e' w' hret => ?_; obtain ⟨rfl, rfl⟩ := hret; exact ⟨ρ, Moved.same hr, VR.undef⟩
      cases hf
    cases hf
end Go.Fs
namespace Go.Proofs
open Go.Fs
def OA := orcC 95 99 (orcZ 61 (orcA 96 96 6))
abbrev y60 : Ty := (.sl (.int .i64))
abbrev y127 : Ty := (.sl (.int .i64))
theorem vt3 : ValT Tryz.prog 3 (.int .i64) := valT_of (by kernel_rfl)
theorem vt29 : ValT Tryz.prog 29 (.int .i64) := valT_of (by kernel_rfl)
theorem el60 : ElT Tryz.prog 60 3 (.int .i64) := elT_of (by kernel_rfl)
theorem el127 : ElT Tryz.prog 127 29 (.int .i64) := elT_of (by kernel_rfl)
def whenE (c : Bool) (e : Int) : Int := bif c then e else 0
theorem gWhen_ok {c : Bool} {e : Int} : VF Tryz.prog OA 43 [B c, I e] (I (whenE c e)) := by
  refine VF.enter Tryz.func43 rfl (fun _ _ => rfl) rfl ?_; show VC _ _ _ _ _ [(0, B c), (1, I e)] [] _; refine VC.seq (VC.text ?_); refine VO.c (.assign rfl) ?_; refine VO.go (VC.seq (VC.seq (VC.text ?_))); refine VO.c (.move rfl) (VO.go ?_); refine VC.condB rfl (fun c1 => ?_) (fun c1 => ?_)
  · subst c1; refine VC.seq (VC.text ?_); refine VO.c (.move rfl) (VO.c (.assign rfl) (VO.go ?_)); refine VC.ret ?_; exact VEnd.one rfl evT (pvI (by rfl))
  subst c1; refine VC.skip (VC.seq (VC.text ?_)); refine VO.c (.assign rfl) (VO.go ?_); refine VC.ret ?_; exact VEnd.one rfl evT (pvI (by rfl))
def rangeE (n lo hi : Int) : Int := if n < lo ∨ hi < n then 3 else 0
theorem rCheckRange_ok {n : Int} {lo : Int} {hi : Int} : VF Tryz.prog OA 48 [I n, I lo, I hi] (I (rangeE n lo hi)) := by
  refine VF.enter Tryz.func48 rfl (fun _ _ => rfl) rfl ?_; show VC _ _ _ _ _ [(0, I n), (1, I lo), (2, I hi)] [] _; refine VC.seq (VC.text ?_); refine VO.c (.assign rfl) ?_; refine VO.go (VC.seq (VC.seq (VC.text ?_))); refine VO.c (.move rfl) (VO.c (.move rfl) (VO.c (.lss) (VO.c (.move rfl) ?_))); refine VO.cg (r := decide (n < lo)) (w := false) [] trivial (fun _ => (.move rfl)) ?_; refine VO.cg (r := decide (n < lo)) (w := false) [] trivial (fun _ => (.move rfl)) ?_; refine VO.cg (r := decide (n < lo)) (w := false) [(11, I n), (12, I hi)] ⟨rfl, rfl, trivial⟩ (fun _ => (.gtr)) ?_; refine VO.c (.or) (VO.go ?_); refine VC.condB rfl (fun c1 => ?_) (fun c1 => ?_)
  · try simp only [Bool.and_eq_true, Bool.or_eq_true, Bool.and_eq_false_iff, Bool.or_eq_false_iff, Bool.not_eq_true', Bool.not_eq_false', decide_eq_true_eq, decide_eq_false_iff_not] at c1
    refine VC.seq (VC.text ?_); refine VO.c (.assign rfl) (VO.go ?_); refine VC.ret ?_; exact VEnd.one rfl evT (pvI (by simp only [rangeE, ← Bool.decide_or, decide_eq_true_eq, decide_eq_false_iff_not, Bool.or_eq_true, Bool.or_eq_false_iff] at *; first | rw [if_pos (by omega)] | rw [if_neg (by omega)]))
  try simp only [Bool.and_eq_true, Bool.or_eq_true, Bool.and_eq_false_iff, Bool.or_eq_false_iff, Bool.not_eq_true', Bool.not_eq_false', decide_eq_true_eq, decide_eq_false_iff_not] at c1
  refine VC.skip (VC.seq (VC.text ?_)); refine VO.c (.assign rfl) (VO.go ?_); refine VC.ret ?_; exact VEnd.one rfl evT (pvI (by simp only [rangeE, ← Bool.decide_or, decide_eq_true_eq, decide_eq_false_iff_not, Bool.or_eq_true, Bool.or_eq_false_iff] at *; first | rw [if_pos (by omega)] | rw [if_neg (by omega)]))
theorem whenE_range {n lo hi : Int} : whenE (decide (n < lo) || decide (hi < n)) 3 = rangeE n lo hi := by
  unfold whenE rangeE; by_cases h1 : n < lo <;> by_cases h2 : hi < n <;> simp [h1, h2]
theorem gWithin_ok {n : Int} {lo : Int} {hi : Int} : VF Tryz.prog OA 74 [I n, I lo, I hi] (I (rangeE n lo hi)) := by
  refine VF.enter Tryz.func74 rfl (fun _ _ => rfl) rfl ?_; show VC _ _ _ _ _ [(0, I n), (1, I lo), (2, I hi)] [] _; refine VC.seq (VC.text ?_); refine VO.c (.assign rfl) ?_; refine VO.go (VC.seq (VC.text ?_)); refine VO.c (.move rfl) (VO.c (.move rfl) (VO.c (.lss) (VO.c (.move rfl) ?_))); refine VO.cg (r := decide (n < lo)) (w := false) [] trivial (fun _ => (.move rfl)) ?_; refine VO.cg (r := decide (n < lo)) (w := false) [] trivial (fun _ => (.move rfl)) ?_; refine VO.cg (r := decide (n < lo)) (w := false) [(11, I n), (12, I hi)] ⟨rfl, rfl, trivial⟩ (fun _ => (.gtr)) ?_; refine VO.c (.or) ?_; refine VO.call rfl rfl (VF.call (gWhen_ok )) ?_; refine VO.c (.assign rfl) (VO.go ?_); refine VC.ret ?_; exact VEnd.one rfl evT (pvI (by exact whenE_range))
def firstE : List Int → Int
  | [] => 0
  | x :: r => if x = 0 then firstE r else x
theorem firstE_drop {xs : List Int} {j : Nat} (hj : j < xs.length) : firstE (xs.drop j) = if xs[j] = 0 then firstE (xs.drop (j + 1)) else xs[j] := by
  rw [List.drop_eq_getElem_cons hj] <;> rfl
theorem firstE_end {xs : List Int} {j : Nat} (hj : xs.length ≤ j) : firstE (xs.drop j) = 0 := by rw [List.drop_eq_nil_of_le hj] <;> rfl
theorem gFirst_ok {l : List Int} (hl : l.length < 1000000) : VF Tryz.prog OA 42 [.v y127 l] (I (firstE l)) := by
  refine VF.enter Tryz.func42 rfl (fun _ _ => rfl) rfl ?_; show VC _ _ _ _ _ [(0, .v y127 l)] [] _; refine VC.seq (VC.text ?_); refine VO.c (.assign rfl) ?_; refine VO.go (VC.seq (VC.seq (VC.text ?_))); refine VO.c (.move rfl) ?_; refine VO.r (.len el127) ?_; refine VO.c (.move rfl) ?_; refine VO.go (VC.block ?_); refine VC.keep [(5, .v y127 l), (6, I ((l.length : Nat) : Int)), (7, I ((0 : Nat) : Int))] ⟨rfl, rfl, rfl, trivial⟩ ?_; refine VC.loop (I := fun kk ff ss => ∃ (j : Nat), kk = l.length - j ∧ ff = [(5, .v y127 l), (6, I ((l.length : Nat) : Int)), (7, I ((j : Nat) : Int))] ∧ ss = [] ∧ (j ≤ l.length) ∧ (firstE l = firstE (l.drop j))) ?_ _ _ _ ⟨0, rfl, rfl, rfl, Nat.zero_le _, (by rfl)⟩; rintro kk ff ss ⟨j, hk0, rfl, rfl, hj, hf⟩; refine VC.seq (VC.text ?_); refine VO.c (.lss) ?_; refine VO.go (VC.seq ?_); refine VC.condD rfl (fun c2 => ?_) (fun c2 => ?_)
  · refine VC.skip (VC.seq (VC.block (VC.seq (VC.text ?_)))); refine VO.c (.ix (j := j) rfl rfl el127 (by omega)) ?_; refine VO.r (.ld vt29) ?_; refine VO.c (.assign rfl) ?_; refine VO.go (VC.seq (VC.text ?_)); refine VO.c (.move rfl) (VO.c (.neq) (VO.go ?_)); refine VC.condD rfl (fun c4 => ?_) (fun c4 => ?_)
    · refine VC.seq (VC.text ?_); refine VO.c (.move rfl) (VO.c (.assign rfl) (VO.go ?_)); refine VC.ret ?_; exact VEnd.one rfl evT (pvI (by rw [hf, firstE_drop (by omega), if_neg c4]))
    refine VC.skip (VC.text ?_); refine VO.c (.add rfl rfl (by omega)) (VO.c (.move rfl) ?_); refine VO.nil ?_; refine ⟨_, [(5, .v y127 l), (6, I ((l.length : Nat) : Int)), (7, I (((j + 1) : Nat) : Int))], ?_, ⟨rfl, rfl, rfl, trivial⟩, (j + 1), rfl, rfl, rfl, (by omega), (by rw [hf, firstE_drop (by omega), if_pos (by simpa using c4)])⟩; omega
  refine VC.exit (VC.seq (VC.text ?_)); refine VO.c (.assign rfl) (VO.go ?_); refine VC.ret ?_; exact VEnd.one rfl evT (pvI (by rw [hf, firstE_end (by omega)]))
theorem rFirst_ok {l : List Int} (hl : l.length < 1000000) : VF Tryz.prog OA 46 [.v y60 l] (I (firstE l)) := by
  refine VF.enter Tryz.func46 rfl (fun _ _ => rfl) rfl ?_; show VC _ _ _ _ _ [(0, .v y60 l)] [] _; refine VC.seq (VC.text ?_); refine VO.c (.assign rfl) ?_; refine VO.go (VC.seq (VC.seq (VC.text ?_))); refine VO.c (.assign rfl) ?_; refine VO.go (VC.block ?_); refine VC.keep [(0, .v y60 l), (3, I ((0 : Nat) : Int))] ⟨rfl, rfl, trivial⟩ ?_; refine VC.loop (I := fun kk ff ss => ∃ (j : Nat), kk = l.length - j ∧ ff = [(0, .v y60 l), (3, I ((j : Nat) : Int))] ∧ ss = [] ∧ (j ≤ l.length) ∧ (firstE l = firstE (l.drop j))) ?_ _ _ _ ⟨0, rfl, rfl, rfl, Nat.zero_le _, (by rfl)⟩; rintro kk ff ss ⟨j, hk0, rfl, rfl, hj, hf⟩; refine VC.seq (VC.seq (VC.text ?_)); refine VO.c (.move rfl) (VO.c (.move rfl) ?_); refine VO.r (.len el60) ?_; refine VO.c (.lss) (VO.go ?_); refine VC.condD rfl (fun c2 => ?_) (fun c2 => ?_)
  · refine VC.skip (VC.seq (VC.block (VC.seq (VC.text ?_)))); refine VO.c (.move rfl) (VO.c (.move rfl) (VO.c (.ix (j := j) rfl rfl el60 (by omega)) ?_)); refine VO.r (.ld vt3) ?_; refine VO.c (.neq) (VO.go ?_); refine VC.condD rfl (fun c4 => ?_) (fun c4 => ?_)
    · refine VC.seq (VC.text ?_); refine VO.c (.move rfl) (VO.c (.move rfl) (VO.c (.ix (j := j) rfl rfl el60 (by omega)) ?_)); refine VO.r (.ld vt3) ?_; refine VO.c (.assign rfl) (VO.go ?_); refine VC.ret ?_; exact VEnd.one rfl evT (pvI (by rw [hf, firstE_drop (by omega), if_neg c4]))
    refine VC.skip (VC.text ?_); refine VO.c (.move rfl) (VO.c (.add rfl rfl (by omega)) (VO.c (.assign rfl) ?_)); refine VO.nil ?_; refine ⟨_, [(0, .v y60 l), (3, I (((j + 1) : Nat) : Int))], ?_, ⟨rfl, rfl, trivial⟩, (j + 1), rfl, rfl, rfl, (by omega), (by rw [hf, firstE_drop (by omega), if_pos (by simpa using c4)])⟩; omega
  refine VC.exit (VC.seq (VC.text ?_)); refine VO.c (.assign rfl) (VO.go ?_); refine VC.ret ?_; exact VEnd.one rfl evT (pvI (by rw [hf, firstE_end (by omega)]))
end Go.Proofs
namespace Go.Proofs
open Go.Fs Ieee
def letterB (c : Int) : Bool := decide (65 ≤ c ∧ c ≤ 90 ∨ 97 ≤ c ∧ c ≤ 122)
def otherB (c : Int) : Bool := decide (48 ≤ c ∧ c ≤ 57 ∨ c = 95)
def byteB (c : Int) (i : Nat) : Bool := letterB c || (decide (i ≠ 0) && otherB c)
def nameB (s : ByteArray) : Bool := decide (s.size ≠ 0 ∧ s.size ≤ 24 ∧ ∀ i, i < s.size → byteB (byteE s i) i = true)
theorem nameB_f {s : ByteArray} {i : Nat} (hi : i < s.size) (h : byteB (byteE s i) i = false) : false = nameB s := by
  refine (decide_eq_false fun hh => ?_).symm; rw [hh.2.2 i hi] at h; cases h
theorem nameB_t {s : ByteArray} (h1 : s.size ≠ 0) (h2 : s.size ≤ 24) (h : ∀ i, i < s.size → byteB (byteE s i) i = true) : true = nameB s := (decide_eq_true ⟨h1, h2, h⟩).symm
theorem size_empty {s : ByteArray} : s ≠ ByteArray.empty ↔ s.size ≠ 0 := by
  constructor
  · intro h e; exact h (ByteArray.ext (Array.eq_empty_of_size_eq_zero e))
  rintro h rfl; exact h rfl
theorem byteB_high {c : Int} {i : Nat} (h : 128 ≤ c) : byteB c i = false := by
  have h1 : letterB c = false := decide_eq_false (by omega); have h2 : otherB c = false := decide_eq_false (by omega); rw [byteB, h1, h2]; simp
theorem rune_f {s : ByteArray} {p : Nat} (h : byteB ((Utf8.decode s p).1 : Nat) p = false) : byteB (byteE s p) p = false := by
  by_cases hl : (s.get! p).toNat < 128
  · rw [decode_low hl] at h; exact h
  exact byteB_high (by rw [byteE_nat]; omega)
theorem rune_t {s : ByteArray} {p : Nat} (h : byteB ((Utf8.decode s p).1 : Nat) p = true) : byteB (byteE s p) p = true ∧ (Utf8.decode s p).2 = 1 := by
  by_cases hl : (s.get! p).toNat < 128
  · rw [decode_low hl] at h ⊢; exact ⟨h, rfl⟩
  have := Go.Fs.decode_high hl; rw [byteB_high (by omega)] at h; cases h
theorem name_end {s : ByteArray} (h : ∀ i, i < s.size → byteB (byteE s i) i = true) : (decide (s ≠ ByteArray.empty) && decide (((s.size : Nat) : Int) ≤ 24)) = nameB s := by
  rw [← Bool.decide_and]; exact decide_eq_decide.2 ⟨fun hh => ⟨size_empty.1 hh.1, by omega, h⟩, fun hh => ⟨size_empty.2 hh.1, by omega⟩⟩
theorem gName_ok {s : ByteArray} : VF Tryz.prog OA 82 [St s] (B (nameB s)) := by
  refine VF.enter Tryz.func82 rfl (fun _ _ => rfl) rfl ?_; show VC _ _ _ _ _ [(0, St s)] [] _; refine VC.seq (VC.text ?_); refine VO.c (.assign rfl) ?_; refine VO.go (VC.seq (VC.seq (VC.text ?_))); refine VO.c (.move rfl) ?_; refine VO.cell (.rng) ?_; intro ww1; refine VO.go (VC.block ?_); refine VC.keep [(0, St s), (8, .raw ww1)] ⟨rfl, rfl, trivial⟩ ?_; refine VC.loop (I := fun kk ff ss => ∃ (p : Nat), kk = s.size - p ∧ ff = [(0, St s), (8, .raw ww1)] ∧ ss = [(ww1, .it s p)] ∧ (p ≤ s.size) ∧ (∀ i, i < p → byteB (byteE s i) i = true)) ?_ _ _ _ ⟨0, rfl, rfl, rfl, Nat.zero_le _, (by intro i hi; omega)⟩; rintro kk ff ss ⟨p, hk0, rfl, rfl, hp, hq⟩; refine VC.seq (VC.text ?_); refine VO.next rfl (fun h2_0 => ?_) (fun h2_0 => ?_)
  · refine VO.c (.extract) ?_; refine VO.go (VC.seq ?_); refine VC.condT rfl ?_; refine VC.skip (VC.block (VC.seq (VC.text ?_))); refine VO.c (.extract) (VO.c (.extract) (VO.c (.assign rfl) (VO.c (.assign rfl) ?_))); refine VO.go (VC.seq ?_); refine VC.join [(0, St s), (3, I ((p : Nat) : Int)), (4, .v (.int .i32) (((Utf8.decode s p).1 : Nat) : Int)), (5, B (letterB ((Utf8.decode s p).1 : Nat))), (8, .raw ww1)] [(ww1, .it s (p + (Utf8.decode s p).2))] ?_ ?_
    · skip
      refine VC.text ?_; refine VO.c (.move rfl) (VO.c (.geq) (VO.c (.move rfl) ?_)); refine VO.splitD (x := 15) rfl (fun g4_2 => ?_) (fun g4_2 => ?_)
      · refine VO.c (.move rfl) (VO.c (.leq) (VO.c (.pickT rfl rfl) (VO.c (.move rfl) ?_))); refine VO.splitD (x := 19) rfl (fun g4_6 => ?_) (fun g4_6 => ?_)
        · refine VO.skip (VO.skip (VO.skip (VO.skip ?_))); refine VO.skip (VO.skip (VO.c (.pickT rfl rfl) (VO.c (.assign rfl) ?_))); refine VO.nil ?_; exact ⟨⟨rfl, rfl, rfl, slE rfl (by rw [Bool.eq_iff_iff]; simp [letterB] <;> omega), rfl, trivial⟩, rfl⟩
        refine VO.c (.move rfl) (VO.c (.geq) (VO.c (.move rfl) ?_)); refine VO.cg (r := decide ((97 : Int) ≤ (((Utf8.decode s p).1 : Nat) : Int))) (w := true) [] trivial (fun _ => (.move rfl)) ?_; refine VO.cg (r := decide ((97 : Int) ≤ (((Utf8.decode s p).1 : Nat) : Int))) (w := true) [(23, .v (.int .i32) (((Utf8.decode s p).1 : Nat) : Int))] ⟨rfl, trivial⟩ (fun _ => (.leq)) ?_; refine VO.c (.and) (VO.c (.pickF rfl rfl) (VO.c (.assign rfl) ?_)); refine VO.nil ?_; exact ⟨⟨rfl, rfl, rfl, slE rfl (by rw [Bool.eq_iff_iff]; simp [letterB] <;> omega), rfl, trivial⟩, rfl⟩
      refine VO.skip (VO.skip (VO.c (.pickF rfl rfl) (VO.c (.move rfl) ?_))); refine VO.c (.move rfl) (VO.c (.geq) (VO.c (.move rfl) ?_)); refine VO.cg (r := decide ((97 : Int) ≤ (((Utf8.decode s p).1 : Nat) : Int))) (w := true) [] trivial (fun _ => (.move rfl)) ?_; refine VO.cg (r := decide ((97 : Int) ≤ (((Utf8.decode s p).1 : Nat) : Int))) (w := true) [(23, .v (.int .i32) (((Utf8.decode s p).1 : Nat) : Int))] ⟨rfl, trivial⟩ (fun _ => (.leq)) ?_; refine VO.c (.and) (VO.c (.pickF rfl rfl) (VO.c (.assign rfl) ?_)); refine VO.nil ?_; exact ⟨⟨rfl, rfl, rfl, slE rfl (by rw [Bool.eq_iff_iff]; simp [letterB] <;> omega), rfl, trivial⟩, rfl⟩
    refine VC.seq ?_; refine VC.join [(0, St s), (3, I ((p : Nat) : Int)), (5, B (letterB ((Utf8.decode s p).1 : Nat))), (6, B (otherB ((Utf8.decode s p).1 : Nat))), (8, .raw ww1)] [(ww1, .it s (p + (Utf8.decode s p).2))] ?_ ?_
    · skip
      refine VC.text ?_; refine VO.c (.move rfl) (VO.c (.geq) (VO.c (.move rfl) ?_)); refine VO.splitD (x := 29) rfl (fun g5_2 => ?_) (fun g5_2 => ?_)
      · refine VO.c (.move rfl) (VO.c (.leq) (VO.c (.pickT rfl rfl) (VO.c (.move rfl) ?_))); refine VO.cg (r := decide ((((Utf8.decode s p).1 : Nat) : Int) ≤ (57 : Int))) (w := false) [] trivial (fun _ => (.move rfl)) ?_; refine VO.cg (r := decide ((((Utf8.decode s p).1 : Nat) : Int) ≤ (57 : Int))) (w := false) [(34, .v (.int .i32) (((Utf8.decode s p).1 : Nat) : Int))] ⟨rfl, trivial⟩ (fun _ => (.eql)) ?_; refine VO.c (.or) (VO.c (.assign rfl) ?_); refine VO.nil ?_; exact ⟨⟨rfl, rfl, rfl, slE rfl (by rw [Bool.eq_iff_iff]; simp [otherB] <;> omega), rfl, trivial⟩, rfl⟩
      refine VO.skip (VO.skip (VO.c (.pickF rfl rfl) (VO.c (.move rfl) ?_))); refine VO.c (.move rfl) (VO.c (.eql) (VO.c (.pickF rfl rfl) (VO.c (.assign rfl) ?_))); refine VO.nil ?_; exact ⟨⟨rfl, rfl, rfl, slE rfl (by rw [Bool.eq_iff_iff]; simp [otherB] <;> omega), rfl, trivial⟩, rfl⟩
    refine VC.seq ?_; refine VC.join [(0, St s), (8, .raw ww1), (46, B (!byteB ((Utf8.decode s p).1 : Nat) p))] [(ww1, .it s (p + (Utf8.decode s p).2))] ?_ ?_
    · skip
      refine VC.text ?_; refine VO.c (.move rfl) (VO.c (.not) (VO.c (.move rfl) ?_)); refine VO.splitB (x := 39) rfl (fun g6_2 => ?_) (fun g6_2 => ?_)
      · try simp only [Bool.and_eq_true, Bool.or_eq_true, Bool.and_eq_false_iff, Bool.or_eq_false_iff, Bool.not_eq_true', Bool.not_eq_false', decide_eq_true_eq, decide_eq_false_iff_not] at g6_2
        refine VO.c (.move rfl) (VO.c (.eql) (VO.c (.move rfl) ?_)); refine VO.cg (r := decide (((p : Nat) : Int) = (0 : Int))) (w := false) [] trivial (fun _ => (.move rfl)) ?_; refine VO.cg (r := decide (((p : Nat) : Int) = (0 : Int))) (w := false) [(43, B (otherB ((Utf8.decode s p).1 : Nat)))] ⟨rfl, trivial⟩ (fun _ => (.not)) ?_; refine VO.c (.or) (VO.c (.pickT rfl rfl) ?_); refine VO.nil ?_; exact ⟨⟨rfl, rfl, slE rfl (by simp [byteB, *]), trivial⟩, rfl⟩
      try simp only [Bool.and_eq_true, Bool.or_eq_true, Bool.and_eq_false_iff, Bool.or_eq_false_iff, Bool.not_eq_true', Bool.not_eq_false', decide_eq_true_eq, decide_eq_false_iff_not] at g6_2
      refine VO.skip (VO.skip (VO.skip (VO.skip ?_))); refine VO.skip (VO.skip (VO.c (.pickF rfl rfl) ?_)); refine VO.nil ?_; exact ⟨⟨rfl, rfl, slE rfl (by simp [byteB, *]), trivial⟩, rfl⟩
    refine VC.condB rfl (fun c6 => ?_) (fun c6 => ?_)
    · try simp only [Bool.and_eq_true, Bool.or_eq_true, Bool.and_eq_false_iff, Bool.or_eq_false_iff, Bool.not_eq_true', Bool.not_eq_false', decide_eq_true_eq, decide_eq_false_iff_not] at c6
      refine VC.seq (VC.text ?_); refine VO.c (.assign rfl) (VO.go ?_); refine VC.ret ?_; exact VEnd.one rfl evT (pvE (by exact nameB_f h2_0 (rune_f c6)))
    try simp only [Bool.and_eq_true, Bool.or_eq_true, Bool.and_eq_false_iff, Bool.or_eq_false_iff, Bool.not_eq_true', Bool.not_eq_false', decide_eq_true_eq, decide_eq_false_iff_not] at c6
    refine VC.skip ?_; refine ⟨_, [(0, St s), (8, .raw ww1)], ?_, ⟨rfl, rfl, trivial⟩, (p + 1), rfl, rfl, (by rw [(rune_t c6).2]), (by omega), (by intro i hi; rcases Nat.lt_succ_iff_lt_or_eq.1 hi with h | h; exact hq i h; subst h; exact (rune_t c6).1)⟩; omega
  refine VO.c (.ext0) ?_; refine VO.go (VC.seq ?_); refine VC.condF rfl ?_; refine VC.exit (VC.seq (VC.text ?_)); refine VO.c (.move rfl) (VO.c (.sneq) (VO.c (.move rfl) ?_)); refine VO.cg (r := decide (s ≠ ByteArray.empty)) (w := true) [] trivial (fun _ => (.move rfl)) ?_; refine VO.rg (r := decide (s ≠ ByteArray.empty)) (w := true) [(50, St s)] ⟨rfl, trivial⟩ (fun _ => (.lenS)) ?_; refine VO.cg (r := decide (s ≠ ByteArray.empty)) (w := true) [(51, I ((s.size : Nat) : Int))] ⟨rfl, trivial⟩ (fun _ => (.leq)) ?_; refine VO.c (.and) (VO.c (.assign rfl) (VO.go ?_)); refine VC.ret ?_; exact VEnd.one rfl evT (pvE (by exact name_end (fun i hi => hq i (by omega))))
theorem rName_ok {s : ByteArray} : VF Tryz.prog OA 90 [St s] (B (nameB s)) := by
  refine VF.enter Tryz.func90 rfl (fun _ _ => rfl) rfl ?_; show VC _ _ _ _ _ [(0, St s)] [] _; refine VC.seq (VC.text ?_); refine VO.c (.assign rfl) ?_; refine VO.go (VC.seq (VC.seq (VC.text ?_))); refine VO.c (.move rfl) ?_; refine VO.r (.lenS) ?_; refine VO.c (.eql) (VO.c (.move rfl) ?_); refine VO.cg (r := decide (((s.size : Nat) : Int) = (0 : Int))) (w := false) [] trivial (fun _ => (.move rfl)) ?_; refine VO.rg (r := decide (((s.size : Nat) : Int) = (0 : Int))) (w := false) [(9, St s)] ⟨rfl, trivial⟩ (fun _ => (.lenS)) ?_; refine VO.cg (r := decide (((s.size : Nat) : Int) = (0 : Int))) (w := false) [(10, I ((s.size : Nat) : Int))] ⟨rfl, trivial⟩ (fun _ => (.gtr)) ?_; refine VO.c (.or) (VO.go ?_); refine VC.condB rfl (fun c1 => ?_) (fun c1 => ?_)
  · try simp only [Bool.and_eq_true, Bool.or_eq_true, Bool.and_eq_false_iff, Bool.or_eq_false_iff, Bool.not_eq_true', Bool.not_eq_false', decide_eq_true_eq, decide_eq_false_iff_not] at c1
    refine VC.seq (VC.text ?_); refine VO.c (.assign rfl) (VO.go ?_); refine VC.ret ?_; exact VEnd.one rfl evT (pvE (by exact (decide_eq_false fun hh => by have := hh.1; have := hh.2.1; omega).symm))
  try simp only [Bool.and_eq_true, Bool.or_eq_true, Bool.and_eq_false_iff, Bool.or_eq_false_iff, Bool.not_eq_true', Bool.not_eq_false', decide_eq_true_eq, decide_eq_false_iff_not] at c1
  refine VC.skip (VC.seq (VC.seq (VC.text ?_))); refine VO.c (.assign rfl) ?_; refine VO.go (VC.block ?_); refine VC.keep [(0, St s), (3, I ((0 : Nat) : Int))] ⟨rfl, rfl, trivial⟩ ?_; refine VC.loop (I := fun kk ff ss => ∃ (i : Nat), kk = s.size - i ∧ ff = [(0, St s), (3, I ((i : Nat) : Int))] ∧ ss = [] ∧ (i ≤ s.size) ∧ (∀ k, k < i → byteB (byteE s k) k = true)) ?_ _ _ _ ⟨0, rfl, rfl, rfl, Nat.zero_le _, (by intro k hk; omega)⟩; rintro kk ff ss ⟨i, hk0, rfl, rfl, hi, hq⟩; refine VC.seq (VC.seq (VC.text ?_)); refine VO.c (.move rfl) (VO.c (.move rfl) ?_); refine VO.r (.lenS) ?_; refine VO.c (.lss) (VO.go ?_); refine VC.condD rfl (fun c4 => ?_) (fun c4 => ?_)
  · refine VC.skip (VC.seq (VC.block (VC.seq (VC.text ?_)))); refine VO.c (.move rfl) (VO.c (.move rfl) (VO.c (.ixS rfl rfl (by omega) (by omega)) (VO.c (.assign rfl) ?_))); refine VO.go (VC.seq (VC.seq ?_)); refine VC.join [(0, St s), (3, I ((i : Nat) : Int)), (4, .v (.int .u8) (byteE s ((i : Nat) : Int))), (35, B (letterB (byteE s i)))] [] ?_ ?_
    · skip
      refine VC.text ?_; refine VO.c (.move rfl) (VO.c (.geq) (VO.c (.move rfl) ?_)); refine VO.splitD (x := 24) rfl (fun g7_2 => ?_) (fun g7_2 => ?_)
      · refine VO.c (.move rfl) (VO.c (.leq) (VO.c (.pickT rfl rfl) (VO.c (.move rfl) ?_))); refine VO.splitD (x := 28) rfl (fun g7_6 => ?_) (fun g7_6 => ?_)
        · refine VO.skip (VO.skip (VO.skip (VO.skip ?_))); refine VO.skip (VO.skip (VO.c (.pickT rfl rfl) ?_)); refine VO.nil ?_; exact ⟨⟨rfl, rfl, rfl, slE rfl (by rw [Bool.eq_iff_iff]; simp [letterB] <;> omega), trivial⟩, rfl⟩
        refine VO.c (.move rfl) (VO.c (.geq) (VO.c (.move rfl) ?_)); refine VO.cg (r := decide ((65 : Int) ≤ (byteE s ((i : Nat) : Int)))) (w := true) [] trivial (fun _ => (.move rfl)) ?_; refine VO.cg (r := decide ((65 : Int) ≤ (byteE s ((i : Nat) : Int)))) (w := true) [(32, .v (.int .u8) (byteE s ((i : Nat) : Int)))] ⟨rfl, trivial⟩ (fun _ => (.leq)) ?_; refine VO.c (.and) (VO.c (.pickF rfl rfl) ?_); refine VO.nil ?_; exact ⟨⟨rfl, rfl, rfl, slE rfl (by rw [Bool.eq_iff_iff]; simp [letterB] <;> omega), trivial⟩, rfl⟩
      refine VO.skip (VO.skip (VO.c (.pickF rfl rfl) (VO.c (.move rfl) ?_))); refine VO.c (.move rfl) (VO.c (.geq) (VO.c (.move rfl) ?_)); refine VO.cg (r := decide ((65 : Int) ≤ (byteE s ((i : Nat) : Int)))) (w := true) [] trivial (fun _ => (.move rfl)) ?_; refine VO.cg (r := decide ((65 : Int) ≤ (byteE s ((i : Nat) : Int)))) (w := true) [(32, .v (.int .u8) (byteE s ((i : Nat) : Int)))] ⟨rfl, trivial⟩ (fun _ => (.leq)) ?_; refine VO.c (.and) (VO.c (.pickF rfl rfl) ?_); refine VO.nil ?_; exact ⟨⟨rfl, rfl, rfl, slE rfl (by rw [Bool.eq_iff_iff]; simp [letterB] <;> omega), trivial⟩, rfl⟩
    refine VC.condB rfl (fun c7 => ?_) (fun c7 => ?_)
    · have hok : byteB (byteE s i) i = true := by rw [byteB, c7] <;> rfl
      refine VC.exit (VC.text ?_); refine VO.c (.move rfl) (VO.c (.add rfl rfl (by omega)) (VO.c (.assign rfl) ?_)); refine VO.nil ?_; refine ⟨_, [(0, St s), (3, I (((i + 1) : Nat) : Int))], ?_, ⟨rfl, rfl, trivial⟩, (i + 1), rfl, rfl, rfl, (by omega), (by intro k hk; rcases Nat.lt_succ_iff_lt_or_eq.1 hk with h | h; exact hq k h; subst h; exact hok)⟩; omega
    refine VC.skip (VC.seq ?_); refine VC.join [(0, St s), (3, I ((i : Nat) : Int)), (49, B (!(decide (i ≠ 0) && otherB (byteE s i))))] [] ?_ ?_
    · skip
      refine VC.text ?_; refine VO.c (.move rfl) (VO.c (.eql) (VO.c (.move rfl) ?_)); refine VO.splitD (x := 38) rfl (fun g8_2 => ?_) (fun g8_2 => ?_)
      · refine VO.skip (VO.skip (VO.skip (VO.skip ?_))); refine VO.skip (VO.skip (VO.skip (VO.skip ?_))); refine VO.skip (VO.skip (VO.c (.pickT rfl rfl) ?_)); refine VO.nil ?_; exact ⟨⟨rfl, rfl, slE rfl (by rw [Bool.eq_iff_iff]; simp [otherB] <;> omega), trivial⟩, rfl⟩
      refine VO.c (.move rfl) (VO.c (.neq) (VO.c (.move rfl) ?_)); refine VO.splitD (x := 41) rfl (fun g8_5 => ?_) (fun g8_5 => ?_)
      · refine VO.c (.move rfl) (VO.c (.lss) (VO.c (.move rfl) ?_)); refine VO.cg (r := decide ((byteE s ((i : Nat) : Int)) < (48 : Int))) (w := false) [] trivial (fun _ => (.move rfl)) ?_; refine VO.cg (r := decide ((byteE s ((i : Nat) : Int)) < (48 : Int))) (w := false) [(45, .v (.int .u8) (byteE s ((i : Nat) : Int)))] ⟨rfl, trivial⟩ (fun _ => (.gtr)) ?_; refine VO.c (.or) (VO.c (.pickT rfl rfl) (VO.c (.pickF rfl rfl) ?_)); refine VO.nil ?_; exact ⟨⟨rfl, rfl, slE rfl (by rw [Bool.eq_iff_iff]; simp [otherB] <;> omega), trivial⟩, rfl⟩
      refine VO.skip (VO.skip (VO.skip (VO.skip ?_))); refine VO.skip (VO.skip (VO.c (.pickF rfl rfl) (VO.c (.pickF rfl rfl) ?_))); refine VO.nil ?_; exact ⟨⟨rfl, rfl, slE rfl (by rw [Bool.eq_iff_iff]; simp [otherB] <;> omega), trivial⟩, rfl⟩
    refine VC.condB rfl (fun c8 => ?_) (fun c8 => ?_)
    · try simp only [Bool.and_eq_true, Bool.or_eq_true, Bool.and_eq_false_iff, Bool.or_eq_false_iff, Bool.not_eq_true', Bool.not_eq_false', decide_eq_true_eq, decide_eq_false_iff_not] at c8
      refine VC.seq (VC.text ?_); refine VO.c (.assign rfl) (VO.go ?_); refine VC.ret ?_; exact VEnd.one rfl evT (pvE (by exact nameB_f (i := i) (by omega) (by simp only [byteB, c7, Bool.false_or, Bool.and_eq_false_iff, decide_eq_false_iff_not]; exact c8)))
    try simp only [Bool.and_eq_true, Bool.or_eq_true, Bool.and_eq_false_iff, Bool.or_eq_false_iff, Bool.not_eq_true', Bool.not_eq_false', decide_eq_true_eq, decide_eq_false_iff_not] at c8
    have hok : byteB (byteE s i) i = true := by simp [byteB, *]
    refine VC.skip (VC.text ?_); refine VO.c (.move rfl) (VO.c (.add rfl rfl (by omega)) (VO.c (.assign rfl) ?_)); refine VO.nil ?_; refine ⟨_, [(0, St s), (3, I (((i + 1) : Nat) : Int))], ?_, ⟨rfl, rfl, trivial⟩, (i + 1), rfl, rfl, rfl, (by omega), (by intro k hk; rcases Nat.lt_succ_iff_lt_or_eq.1 hk with h | h; exact hq k h; subst h; exact hok)⟩; omega
  refine VC.exit (VC.seq (VC.text ?_)); refine VO.c (.assign rfl) (VO.go ?_); refine VC.ret ?_; exact VEnd.one rfl evT (pvE (by exact nameB_t (by omega) (by omega) (fun k hk => hq k (by omega))))
theorem rNameE_ok {s : ByteArray} : VF Tryz.prog OA 47 [St s] (I (whenE (!nameB s) 8)) := by
  refine VF.enter Tryz.func47 rfl (fun _ _ => rfl) rfl ?_; show VC _ _ _ _ _ [(0, St s)] [] _; refine VC.seq (VC.text ?_); refine VO.c (.assign rfl) ?_; refine VO.go (VC.seq (VC.seq (VC.text ?_))); refine VO.c (.move rfl) ?_; refine VO.call rfl rfl (VF.call (rName_ok )) ?_; refine VO.c (.not) (VO.go ?_); refine VC.condB rfl (fun c1 => ?_) (fun c1 => ?_)
  · try simp only [Bool.and_eq_true, Bool.or_eq_true, Bool.and_eq_false_iff, Bool.or_eq_false_iff, Bool.not_eq_true', Bool.not_eq_false', decide_eq_true_eq, decide_eq_false_iff_not] at c1
    refine VC.seq (VC.text ?_); refine VO.c (.assign rfl) (VO.go ?_); refine VC.ret ?_; exact VEnd.one rfl evT (pvI (by simp [whenE, *]))
  try simp only [Bool.and_eq_true, Bool.or_eq_true, Bool.and_eq_false_iff, Bool.or_eq_false_iff, Bool.not_eq_true', Bool.not_eq_false', decide_eq_true_eq, decide_eq_false_iff_not] at c1
  refine VC.skip (VC.seq (VC.text ?_)); refine VO.c (.assign rfl) (VO.go ?_); refine VC.ret ?_; exact VEnd.one rfl evT (pvI (by simp [whenE, *]))
end Go.Proofs
namespace Go.Proofs
open Go.Fs
abbrev y53 : Ty := (.pair (.int .i64) (.int .i64))
def spanE (p : Int × Int) : Int := if p.1 < 0 ∨ p.2 ≤ p.1 ∨ 100000 < p.2 then 14 else 0
theorem whenE_span {p : Int × Int} : whenE (decide (p.1 < 0) || decide (p.2 ≤ p.1) || decide (100000 < p.2)) 14 = spanE p := by
  unfold whenE spanE; by_cases h1 : p.1 < 0 <;> by_cases h2 : p.2 ≤ p.1 <;> by_cases h3 : 100000 < p.2 <;> simp [h1, h2, h3]
theorem gSpan_ok {p : Int × Int} : VF Tryz.prog OA 113 [.v y53 p] (I (spanE p)) := by
  refine VF.enter Tryz.func113 rfl (fun _ _ => rfl) rfl ?_; show VC _ _ _ _ _ [(0, .v y53 p)] [] _; refine VC.seq (VC.text ?_); refine VO.new (.box) ?_; refine VO.c (.assign rfl) ?_; refine VO.go (VC.seq (VC.text ?_)); refine VO.c (.fa (.l .o)) ?_; refine VO.r (.ld vt3) ?_; refine VO.c (.lss) (VO.c (.move rfl) ?_); refine VO.cg (r := decide (p.1 < (0 : Int))) (w := false) [] trivial (fun _ => (.fa (.l .o))) ?_; refine VO.rg (r := decide (p.1 < (0 : Int))) (w := false) [(7, .p (.int .i64) p.1)] ⟨rfl, trivial⟩ (fun _ => (.ld vt3)) ?_; refine VO.cg (r := decide (p.1 < (0 : Int))) (w := false) [] trivial (fun _ => (.fa (.r (k := 0) .o))) ?_; refine VO.rg (r := decide (p.1 < (0 : Int))) (w := false) [(9, .p (.int .i64) p.2)] ⟨rfl, trivial⟩ (fun _ => (.ld vt3)) ?_; refine VO.cg (r := decide (p.1 < (0 : Int))) (w := false) [(8, I p.1), (10, I p.2)] ⟨rfl, rfl, trivial⟩ (fun _ => (.geq)) ?_; refine VO.c (.or) (VO.c (.move rfl) ?_); refine VO.cg (r := ((decide (p.1 < (0 : Int))) || (decide (p.2 ≤ p.1)))) (w := false) [] trivial (fun _ => (.fa (.r (k := 0) .o))) ?_; refine VO.rg (r := ((decide (p.1 < (0 : Int))) || (decide (p.2 ≤ p.1)))) (w := false) [(14, .p (.int .i64) p.2)] ⟨rfl, trivial⟩ (fun _ => (.ld vt3)) ?_; refine VO.cg (r := ((decide (p.1 < (0 : Int))) || (decide (p.2 ≤ p.1)))) (w := false) [(15, I p.2)] ⟨rfl, trivial⟩ (fun _ => (.gtr)) ?_; refine VO.c (.or) ?_; refine VO.call rfl rfl (VF.call (gWhen_ok )) ?_; refine VO.c (.assign rfl) (VO.go ?_); refine VC.ret ?_; exact VEnd.one rfl evT (pvI (by exact whenE_span))
theorem rSpan_ok {p : Int × Int} : VF Tryz.prog OA 94 [.v y53 p] (I (spanE p)) := by
  refine VF.enter Tryz.func94 rfl (fun _ _ => rfl) rfl ?_; show VC _ _ _ _ _ [(0, .v y53 p)] [] _; refine VC.seq (VC.text ?_); refine VO.new (.box) ?_; refine VO.c (.assign rfl) ?_; refine VO.go (VC.seq (VC.seq (VC.text ?_))); refine VO.c (.fa (.l .o)) ?_; refine VO.r (.ld vt3) ?_; refine VO.c (.lss) (VO.c (.move rfl) ?_); refine VO.cg (r := decide (p.1 < (0 : Int))) (w := false) [] trivial (fun _ => (.fa (.r (k := 0) .o))) ?_; refine VO.rg (r := decide (p.1 < (0 : Int))) (w := false) [(7, .p (.int .i64) p.2)] ⟨rfl, trivial⟩ (fun _ => (.ld vt3)) ?_; refine VO.cg (r := decide (p.1 < (0 : Int))) (w := false) [] trivial (fun _ => (.fa (.l .o))) ?_; refine VO.rg (r := decide (p.1 < (0 : Int))) (w := false) [(9, .p (.int .i64) p.1)] ⟨rfl, trivial⟩ (fun _ => (.ld vt3)) ?_; refine VO.cg (r := decide (p.1 < (0 : Int))) (w := false) [(8, I p.2), (10, I p.1)] ⟨rfl, rfl, trivial⟩ (fun _ => (.leq)) ?_; refine VO.c (.or) (VO.c (.move rfl) ?_); refine VO.cg (r := ((decide (p.1 < (0 : Int))) || (decide (p.2 ≤ p.1)))) (w := false) [] trivial (fun _ => (.fa (.r (k := 0) .o))) ?_; refine VO.rg (r := ((decide (p.1 < (0 : Int))) || (decide (p.2 ≤ p.1)))) (w := false) [(14, .p (.int .i64) p.2)] ⟨rfl, trivial⟩ (fun _ => (.ld vt3)) ?_; refine VO.cg (r := ((decide (p.1 < (0 : Int))) || (decide (p.2 ≤ p.1)))) (w := false) [(15, I p.2)] ⟨rfl, trivial⟩ (fun _ => (.gtr)) ?_; refine VO.c (.or) (VO.go ?_); refine VC.condB rfl (fun c1 => ?_) (fun c1 => ?_)
  · try simp only [Bool.and_eq_true, Bool.or_eq_true, Bool.and_eq_false_iff, Bool.or_eq_false_iff, Bool.not_eq_true', Bool.not_eq_false', decide_eq_true_eq, decide_eq_false_iff_not] at c1
    refine VC.seq (VC.text ?_); refine VO.c (.assign rfl) (VO.go ?_); refine VC.ret ?_; exact VEnd.one rfl evT (pvI (by simp only [spanE, ← Bool.decide_or, decide_eq_true_eq, decide_eq_false_iff_not, Bool.or_eq_true, Bool.or_eq_false_iff] at *; first | rw [if_pos (by omega)] | rw [if_neg (by omega)]))
  try simp only [Bool.and_eq_true, Bool.or_eq_true, Bool.and_eq_false_iff, Bool.or_eq_false_iff, Bool.not_eq_true', Bool.not_eq_false', decide_eq_true_eq, decide_eq_false_iff_not] at c1
  refine VC.skip (VC.seq (VC.text ?_)); refine VO.c (.assign rfl) (VO.go ?_); refine VC.ret ?_; exact VEnd.one rfl evT (pvI (by simp only [spanE, ← Bool.decide_or, decide_eq_true_eq, decide_eq_false_iff_not, Bool.or_eq_true, Bool.or_eq_false_iff] at *; first | rw [if_pos (by omega)] | rw [if_neg (by omega)]))
end Go.Proofs
namespace Go.Proofs.Sp
abbrev Sp := Int × Int
def inL (l : List Sp) (t : Int) : Bool := l.any fun s => decide (s.1 ≤ t) && decide (t < s.2)
def Canon (m : Int) (l : List Sp) : Prop := (∀ s ∈ l, 0 ≤ s.1 ∧ s.1 < s.2 ∧ s.2 ≤ m) ∧ l.Pairwise fun s u => s.2 < u.1
def edgeE (l : List Sp) (d : Int) : List (Int × Int) := l.flatMap fun s => [(s.1, d), (s.2, -d)]
def sumTo : List (Int × Int) → Int → Int
  | [], _ => 0
  | e :: r, t => (if e.1 ≤ t then e.2 else 0) + sumTo r t
def scan1 (p : Int → Bool) (t : Int) (S : Int × List Sp) : Int × List Sp :=
  if p t = true ∧ S.1 < 0 then (t, S.2) else if p t = false ∧ 0 ≤ S.1 then (-1, S.2 ++ [(S.1, t)]) else S
def scanE (p : Int → Bool) : Nat → Int × List Sp
  | 0 => (-1, [])
  | t + 1 => scan1 p t (scanE p t)
def pE (ch : Int → Bool) (L : List (Int × Int)) (t : Int) : Bool := ch (sumTo L t)
structure CombI (ch : Int → Bool) (L l : List (Int × Int)) (st fr : Int) (out : List Sp) (v : Nat) : Prop where
  done : ∃ d, L = d ++ l ∧ ∀ e ∈ d, e.1 < v
  rest : ∀ e ∈ l, (v : Int) ≤ e.1
  state : st = sumTo L ((v : Int) - 1)
  outs : out = (scanE (pE ch L) v).2
  open_ : 0 ≤ (scanE (pE ch L) v).1 ↔ ch st = true
  from_ : ch st = true → fr = (scanE (pE ch L) v).1
theorem inL_app {a b : List Sp} {t : Int} : inL (a ++ b) t = (inL a t || inL b t) := List.any_append
end Go.Proofs.Sp
namespace Go.Proofs.Sp
theorem canon_of {m : Int} {l : List Sp} (h1 : ∀ s ∈ l, 0 ≤ s.1 ∧ s.1 < s.2 ∧ s.2 ≤ m) (h2 : ∀ j (hj : j < l.length), 0 < j → (l[j - 1]'(by omega)).2 < l[j].1) : Canon m l := by
  refine ⟨h1, List.pairwise_iff_getElem.2 fun i j hi hj hij => ?_⟩
  induction j with
  | zero => omega
  | succ j ih =>
    have h3 := h2 (j + 1) hj (by omega); simp only [Nat.add_sub_cancel] at h3; by_cases e : i = j
    · subst e; exact h3
    have h4 := ih (by omega) (by omega); have h5 := h1 _ (List.getElem_mem (show j < l.length by omega)); omega
end Go.Proofs.Sp
namespace Go.Proofs
open Go.Fs
set_option maxHeartbeats 2000000
abbrev y23 : Ty := (.sl (.pair (.int .i64) (.int .i64)))
theorem vt53 : ValT Tryz.prog 53 y53 := valT_of (by kernel_rfl)
theorem el23 : ElT Tryz.prog 23 53 y53 := elT_of (by kernel_rfl)
theorem zt53 : ZerT Tryz.prog 53 y53 := zerT_of (z := .agg #[.int .i64 0, .int .i64 0]) (by kernel_rfl) rfl rfl
theorem eq53 : EqT Tryz.prog 53 y53 := eqT_of (by kernel_rfl)
def firstR (f : Nat → Int) (i n : Nat) : Int := firstE ((List.range' i (n - i)).map f)
theorem firstR_step {f : Nat → Int} {i n : Nat} (h : i < n) : firstR f i n = if f i = 0 then firstR f (i + 1) n else f i := by
  unfold firstR; rw [show n - i = (n - (i + 1)) + 1 by omega, List.range'_succ] <;> rfl
theorem firstR_end {f : Nat → Int} {i n : Nat} (h : n ≤ i) : firstR f i n = 0 := by
  unfold firstR; rw [show n - i = 0 by omega] <;> rfl
theorem getD_at {α : Type} {l : List α} {i : Nat} {d : α} (h : i < l.length) : l.getD i d = l[i] := by rw [List.getD_eq_getElem?_getD, List.getElem?_eq_getElem h] <;> rfl
def spX (l : List (Int × Int)) (j : Nat) : Int × Int := l.getD j (0, 0)
theorem spX_eq {l : List (Int × Int)} {j : Nat} (h : j < l.length) : spX l j = l[j] := getD_at h
def spanAt (l : List (Int × Int)) (j : Nat) : Int := firstE [spanE (spX l j), whenE (decide (0 < (j : Int)) && decide ((spX l j).1 ≤ (spX l (j - 1)).2)) 11]
def spansE (l : List (Int × Int)) : Int := if 2048 < (l.length : Int) then 5 else firstR (spanAt l) 0 l.length
theorem spX_prev {l : List (Int × Int)} {j : Nat} (h0 : 0 < (j : Int)) (h : ((j : Int) - 1).toNat < l.length) : spX l (j - 1) = l[((j : Int) - 1).toNat] := by
  have e : ((j : Int) - 1).toNat = j - 1 := by omega
  rw [spX_eq (by omega)]; simp only [e]
theorem spX_max {l : List (Int × Int)} {j : Nat} (h0 : 0 < (j : Int)) (h : (max 0 ((j : Int) - 1)).toNat < l.length) : spX l (j - 1) = l[(max 0 ((j : Int) - 1)).toNat] := by
  have e : (max 0 ((j : Int) - 1)).toNat = j - 1 := by omega
  rw [spX_eq (by omega)]; simp only [e]
theorem spanAt_bad {l : List (Int × Int)} {j : Nat} (h : j < l.length) (hb : spanE l[j] ≠ 0) : spanAt l j = 14 := by
  unfold spanAt; rw [spX_eq h]
  have : spanE l[j] = 14 := by
    unfold spanE at hb ⊢; split at hb
    · rename_i hc; rw [if_pos hc]
    exact absurd rfl hb
  rw [this] <;> rfl
theorem spanAt_ok {l : List (Int × Int)} {j : Nat} (h : j < l.length) (hb : ¬ spanE l[j] ≠ 0) : spanAt l j = whenE (decide (0 < (j : Int)) && decide (l[j].1 ≤ (spX l (j - 1)).2)) 11 := by
  unfold spanAt; rw [spX_eq h, Classical.not_not.1 hb]; show (if (0 : Int) = 0 then _ else _) = _; rw [if_pos rfl]; unfold firstE; split
  · rename_i hz; rw [hz] <;> rfl
  rfl
theorem spanAt_t {l : List (Int × Int)} {j : Nat} (h : j < l.length) (h0 : 0 < (j : Int)) (hm : (max 0 ((j : Int) - 1)).toNat < l.length) : spanAt l j = firstE [spanE l[j], whenE (decide (l[j].1 ≤ l[(max 0 ((j : Int) - 1)).toNat].2)) 11] := by
  unfold spanAt; rw [spX_eq h, spX_max h0 hm, decide_eq_true h0, Bool.true_and]
theorem spanAt_f {l : List (Int × Int)} {j : Nat} (h : j < l.length) (h0 : ¬ 0 < (j : Int)) : spanAt l j = firstE [spanE l[j], whenE false 11] := by
  unfold spanAt; rw [spX_eq h, decide_eq_false h0, Bool.false_and]
theorem rSpans_ok {l : List (Int × Int)} (hl : l.length < 1000000) : VF Tryz.prog OA 50 [.v y23 l] (I (spansE l)) := by
  refine VF.enter Tryz.func50 rfl (fun _ _ => rfl) rfl ?_; show VC _ _ _ _ _ [(0, .v y23 l)] [] _; refine VC.seq (VC.text ?_); refine VO.c (.assign rfl) ?_; refine VO.go (VC.seq (VC.seq (VC.text ?_))); refine VO.c (.move rfl) ?_; refine VO.r (.len el23) ?_; refine VO.c (.gtr) (VO.go ?_); refine VC.condD rfl (fun c1 => ?_) (fun c1 => ?_)
  · refine VC.seq (VC.text ?_); refine VO.c (.assign rfl) (VO.go ?_); refine VC.ret ?_; exact VEnd.one rfl evT (pvI (by rw [spansE, if_pos c1]))
  refine VC.skip (VC.seq (VC.seq (VC.text ?_))); refine VO.c (.assign rfl) ?_; refine VO.go (VC.block ?_); refine VC.keep [(0, .v y23 l), (3, I ((0 : Nat) : Int))] ⟨rfl, rfl, trivial⟩ ?_; refine VC.loop (I := fun kk ff ss => ∃ (j : Nat), kk = l.length - j ∧ ff = [(0, .v y23 l), (3, I ((j : Nat) : Int))] ∧ ss = [] ∧ (j ≤ l.length) ∧ (spansE l = firstR (spanAt l) j l.length)) ?_ _ _ _ ⟨0, rfl, rfl, rfl, Nat.zero_le _, (by exact if_neg c1)⟩; rintro kk ff ss ⟨j, hk0, rfl, rfl, hj, hw⟩; refine VC.seq (VC.seq (VC.text ?_)); refine VO.c (.move rfl) (VO.c (.move rfl) ?_); refine VO.r (.len el23) ?_; refine VO.c (.lss) (VO.go ?_); refine VC.condD rfl (fun c4 => ?_) (fun c4 => ?_)
  · refine VC.skip (VC.seq (VC.block (VC.seq (VC.seq (VC.text ?_))))); refine VO.c (.move rfl) (VO.c (.move rfl) (VO.c (.ix (j := j) rfl rfl el23 (by omega)) ?_)); refine VO.r (.ld vt53) ?_; refine VO.call rfl rfl (VF.call (rSpan_ok )) ?_; refine VO.c (.neq) (VO.go ?_); refine VC.condD rfl (fun c6 => ?_) (fun c6 => ?_)
    · refine VC.seq (VC.text ?_); refine VO.c (.assign rfl) (VO.go ?_); refine VC.ret ?_; exact VEnd.one rfl evT (pvI (by rw [hw, firstR_step (by omega), spanAt_bad (by omega) c6, if_neg (by decide)]))
    refine VC.skip (VC.seq (VC.drawn ?_)); refine VD.c (.move rfl) (VD.c (.gtr) (VD.c (.move rfl) ?_)); refine VD.splitD (x := 21) rfl (fun g8_2 => ?_) (fun g8_2 => ?_)
    · refine VD.c (.move rfl) (VD.c (.move rfl) (VD.nw [] (VD.c (.ix (j := j) rfl rfl el23 (by omega)) ?_))); refine VD.c (.fa (.l .o)) ?_; refine VD.r [] (.ld vt3) (.inl rfl) ?_; refine VD.c (.move rfl) (VD.c (.move rfl) (VD.c (.sub rfl rfl (by omega)) (VD.c (.ixZ (k := (((j : Nat) : Int) - (1 : Int))) rfl rfl el23 (by omega) (by omega)) ?_))); refine VD.nw [] (VD.c (.fa (.r .o)) ?_); refine VD.r [] (.ld vt3) (.inl rfl) ?_; refine VD.c (.leq) (VD.c (.pickT rfl rfl) (VD.go ?_)); refine VC.condD rfl (fun c8 => ?_) (fun c8 => ?_)
      · refine VC.seq (VC.text ?_); refine VO.c (.assign rfl) (VO.go ?_); refine VC.ret ?_; exact VEnd.one rfl evT (pvI (by rw [hw, firstR_step (by omega), spanAt_ok (by omega) c6, spX_prev g8_2 (by omega), decide_eq_true c8, decide_eq_true g8_2] <;> rfl))
      have hz : spanAt l j = 0 := by rw [spanAt_ok (by omega) c6, spX_prev g8_2 (by omega), decide_eq_false c8, Bool.and_false] <;> rfl
      refine VC.skip (VC.text ?_); refine VO.c (.move rfl) (VO.c (.add rfl rfl (by omega)) (VO.c (.assign rfl) ?_)); refine VO.nil ?_; refine ⟨_, [(0, .v y23 l), (3, I (((j + 1) : Nat) : Int))], ?_, ⟨rfl, rfl, trivial⟩, (j + 1), rfl, rfl, rfl, (by omega), (by rw [hw, firstR_step (by omega), if_pos hz])⟩; omega
    have hz : spanAt l j = 0 := by rw [spanAt_ok (by omega) c6, decide_eq_false (show ¬ 0 < (j : Int) by omega)] <;> rfl
    refine VD.skip (VD.skip (VD.nw [] (VD.skip ?_))); refine VD.skip (VD.skip (VD.skip (VD.skip ?_))); refine VD.skip (VD.skip (VD.nw [] (VD.skip ?_))); refine VD.skip (VD.skip (VD.c (.pickF rfl rfl) (VD.go ?_))); refine VC.condF rfl ?_; refine VC.skip (VC.text ?_); refine VO.c (.move rfl) (VO.c (.add rfl rfl (by omega)) (VO.c (.assign rfl) ?_)); refine VO.nil ?_; refine ⟨_, [(0, .v y23 l), (3, I (((j + 1) : Nat) : Int))], ?_, ⟨rfl, rfl, trivial⟩, (j + 1), rfl, rfl, rfl, (by omega), (by rw [hw, firstR_step (by omega), if_pos hz])⟩; omega
  refine VC.exit (VC.seq (VC.text ?_)); refine VO.c (.assign rfl) (VO.go ?_); refine VC.ret ?_; exact VEnd.one rfl evT (pvI (by rw [hw, firstR_end (by omega)]))
theorem gSpans_ok {l : List (Int × Int)} (hl : l.length < 1000000) : VF Tryz.prog OA 84 [.v y23 l] (I (spansE l)) := by
  refine VF.enter Tryz.func84 rfl (fun _ _ => rfl) rfl ?_; show VC _ _ _ _ _ [(0, .v y23 l)] [] _; refine VC.seq (VC.text ?_); refine VO.c (.assign rfl) ?_; refine VO.go (VC.seq (VC.seq (VC.text ?_))); refine VO.c (.move rfl) ?_; refine VO.r (.len el23) ?_; refine VO.c (.gtr) (VO.go ?_); refine VC.condD rfl (fun c1 => ?_) (fun c1 => ?_)
  · refine VC.seq (VC.text ?_); refine VO.c (.assign rfl) (VO.go ?_); refine VC.ret ?_; exact VEnd.one rfl evT (pvI (by rw [spansE, if_pos c1]))
  refine VC.skip (VC.seq (VC.seq (VC.text ?_))); refine VO.c (.move rfl) ?_; refine VO.r (.len el23) ?_; refine VO.c (.move rfl) ?_; refine VO.go (VC.block ?_); refine VC.keep [(0, .v y23 l), (9, .v y23 l), (10, I ((l.length : Nat) : Int)), (11, I ((0 : Nat) : Int))] ⟨rfl, rfl, rfl, rfl, trivial⟩ ?_; refine VC.loop (I := fun kk ff ss => ∃ (j : Nat), kk = l.length - j ∧ ff = [(0, .v y23 l), (9, .v y23 l), (10, I ((l.length : Nat) : Int)), (11, I ((j : Nat) : Int))] ∧ ss = [] ∧ (j ≤ l.length) ∧ (spansE l = firstR (spanAt l) j l.length)) ?_ _ _ _ ⟨0, rfl, rfl, rfl, Nat.zero_le _, (by exact if_neg c1)⟩; rintro kk ff ss ⟨j, hk0, rfl, rfl, hj, hw⟩; refine VC.seq (VC.text ?_); refine VO.c (.lss) ?_; refine VO.go (VC.seq ?_); refine VC.condD rfl (fun c4 => ?_) (fun c4 => ?_)
  · refine VC.skip (VC.seq (VC.block (VC.seq (VC.text ?_)))); refine VO.c (.move rfl) (VO.c (.ix (j := j) rfl rfl el23 (by omega)) ?_); refine VO.r (.ld vt53) ?_; refine VO.cell (.alloc zt53) ?_; intro ww1; refine VO.c (.assign rfl) ?_; refine VO.setV (cs' := [I ((l[j]).1), I ((l[j]).2)]) vt53 .v ?_; refine VO.shut [(4, .p y53 (l[j]))] (.cons rfl (.var m0 .refl) .nil) ?_; refine VO.go (VC.seq (VC.drawn ?_)); refine VD.r [] (.ld vt53) (.inl rfl) ?_; refine VD.call rfl rfl (VF.call (gSpan_ok )) ?_; refine VD.c (.move rfl) (VD.c (.gtr) (VD.c (.move rfl) ?_)); refine VD.splitD (x := 20) rfl (fun g6_4 => ?_) (fun g6_4 => ?_)
    · have hv := spanAt_t (l := l) (j := j) (by omega) g6_4 (by omega); refine VD.nw [] (VD.c (.fa (.l .o)) ?_); refine VD.r [] (.ld vt3) (.inl rfl) ?_; refine VD.c (.move rfl) (VD.c (.move rfl) (VD.c (.sub rfl rfl (by omega)) (VD.c (.imax) ?_))); refine VD.c (.ixZ (k := (max (0 : Int) (((j : Nat) : Int) - (1 : Int)))) rfl rfl el23 (by omega) (by omega)) (VD.nw [] (VD.c (.fa (.r .o)) ?_)); refine VD.r [] (.ld vt3) (.inl rfl) ?_; refine VD.c (.leq) (VD.c (.pickT rfl rfl) ?_); refine VD.call rfl rfl (VF.call (gWhen_ok )) ?_; refine VD.new (.lit [spanE (l[j]), whenE (decide ((l[j]).1 ≤ (l[Int.toNat (max (0 : Int) (((j : Nat) : Int) - (1 : Int)))]).2)) (11 : Int)] el127) ?_; refine VD.callO rfl rfl (VF.call (gFirst_ok (by first | assumption | omega | simp))) ?_; refine VD.nw [33] (VD.c (.assign rfl) ?_); refine VD.go (VC.seq (VC.text ?_)); refine VO.c (.move rfl) (VO.c (.neq) (VO.go ?_)); refine VC.condD rfl (fun c7 => ?_) (fun c7 => ?_)
      · refine VC.seq (VC.text ?_); refine VO.c (.move rfl) (VO.c (.assign rfl) (VO.go ?_)); refine VC.ret ?_; exact VEnd.one rfl evT (pvI (by rw [hw, firstR_step (by omega), hv, if_neg c7]))
      refine VC.skip (VC.text ?_); refine VO.c (.add rfl rfl (by omega)) (VO.c (.move rfl) ?_); refine VO.nil ?_; refine ⟨_, [(0, .v y23 l), (9, .v y23 l), (10, I ((l.length : Nat) : Int)), (11, I (((j + 1) : Nat) : Int))], ?_, ⟨rfl, rfl, rfl, rfl, trivial⟩, (j + 1), rfl, rfl, rfl, (by omega), (by rw [hw, firstR_step (by omega), hv, if_pos (Classical.not_not.1 c7)])⟩; omega
    have hv := spanAt_f (l := l) (j := j) (by omega) g6_4; refine VD.nw [] (VD.skip (VD.skip (VD.skip ?_))); refine VD.skip (VD.skip (VD.skip (VD.skip ?_))); refine VD.nw [] (VD.skip (VD.skip (VD.skip ?_))); refine VD.c (.pickF rfl rfl) ?_; refine VD.call rfl rfl (VF.call (gWhen_ok )) ?_; refine VD.new (.lit [spanE (l[j]), whenE false (11 : Int)] el127) ?_; refine VD.callO rfl rfl (VF.call (gFirst_ok (by first | assumption | omega | simp))) ?_; refine VD.nw [33] (VD.c (.assign rfl) ?_); refine VD.go (VC.seq (VC.text ?_)); refine VO.c (.move rfl) (VO.c (.neq) (VO.go ?_)); refine VC.condD rfl (fun c7 => ?_) (fun c7 => ?_)
    · refine VC.seq (VC.text ?_); refine VO.c (.move rfl) (VO.c (.assign rfl) (VO.go ?_)); refine VC.ret ?_; exact VEnd.one rfl evT (pvI (by rw [hw, firstR_step (by omega), hv, if_neg c7]))
    refine VC.skip (VC.text ?_); refine VO.c (.add rfl rfl (by omega)) (VO.c (.move rfl) ?_); refine VO.nil ?_; refine ⟨_, [(0, .v y23 l), (9, .v y23 l), (10, I ((l.length : Nat) : Int)), (11, I (((j + 1) : Nat) : Int))], ?_, ⟨rfl, rfl, rfl, rfl, trivial⟩, (j + 1), rfl, rfl, rfl, (by omega), (by rw [hw, firstR_step (by omega), hv, if_pos (Classical.not_not.1 c7)])⟩; omega
  refine VC.exit (VC.seq (VC.text ?_)); refine VO.c (.assign rfl) (VO.go ?_); refine VC.ret ?_; exact VEnd.one rfl evT (pvI (by rw [hw, firstR_end (by omega)]))
theorem rSameSp_ok {a : List (Int × Int)} {b : List (Int × Int)} (ha : a.length < 1000000) (hb : b.length < 1000000) : VF Tryz.prog OA 24 [.v y23 a, .v y23 b] (B (decide (a = b))) := by
  refine VF.enter Tryz.func24 rfl (fun _ _ => rfl) rfl ?_; show VC _ _ _ _ _ [(0, .v y23 a), (1, .v y23 b)] [] _; refine VC.seq (VC.text ?_); refine VO.c (.assign rfl) ?_; refine VO.go (VC.seq (VC.seq (VC.text ?_))); refine VO.c (.move rfl) ?_; refine VO.r (.len el23) ?_; refine VO.c (.move rfl) ?_; refine VO.r (.len el23) ?_; refine VO.c (.neq) (VO.go ?_); refine VC.condD rfl (fun c1 => ?_) (fun c1 => ?_)
  · refine VC.seq (VC.text ?_); refine VO.c (.assign rfl) (VO.go ?_); refine VC.ret ?_; exact VEnd.one rfl evT (pvE (by exact (decide_eq_false (fun e => c1 (by rw [e]))).symm))
  refine VC.skip (VC.seq (VC.seq (VC.text ?_))); refine VO.c (.assign rfl) ?_; refine VO.go (VC.block ?_); refine VC.keep [(0, .v y23 a), (1, .v y23 b), (5, I ((0 : Nat) : Int))] ⟨rfl, rfl, rfl, trivial⟩ ?_; refine VC.loop (I := fun kk ff ss => ∃ (j : Nat), kk = a.length - j ∧ ff = [(0, .v y23 a), (1, .v y23 b), (5, I ((j : Nat) : Int))] ∧ ss = [] ∧ (j ≤ a.length) ∧ (a.length = b.length) ∧ (∀ k (h : k < a.length) (h2 : k < b.length), k < j → a[k] = b[k])) ?_ _ _ _ ⟨0, rfl, rfl, rfl, Nat.zero_le _, (by omega), (by exact fun k _ _ h => absurd h (by omega))⟩; rintro kk ff ss ⟨j, hk0, rfl, rfl, hj, hl, hi⟩; refine VC.seq (VC.seq (VC.text ?_)); refine VO.c (.move rfl) (VO.c (.move rfl) ?_); refine VO.r (.len el23) ?_; refine VO.c (.lss) (VO.go ?_); refine VC.condD rfl (fun c4 => ?_) (fun c4 => ?_)
  · refine VC.skip (VC.seq (VC.block (VC.seq (VC.drawn ?_)))); refine VD.c (.move rfl) (VD.c (.move rfl) (VD.c (.ix (j := j) rfl rfl el23 (by omega)) ?_)); refine VD.r [] (.ld vt53) (.inl rfl) ?_; refine VD.c (.move rfl) (VD.c (.move rfl) (VD.nw [] (VD.c (.ix (j := j) rfl rfl el23 (by omega)) ?_))); refine VD.r [] (.ld vt53) (.inl rfl) ?_; refine VD.c (.eneq eq53) (VD.go ?_); refine VC.condD rfl (fun c6 => ?_) (fun c6 => ?_)
    · refine VC.seq (VC.text ?_); refine VO.c (.assign rfl) (VO.go ?_); refine VC.ret ?_; exact VEnd.one rfl evT (pvE (by exact (decide_eq_false (fun h => c6 (List.getElem_of_eq h _))).symm))
    refine VC.skip (VC.text ?_); refine VO.c (.move rfl) (VO.c (.add rfl rfl (by omega)) (VO.c (.assign rfl) ?_)); refine VO.nil ?_; refine ⟨_, [(0, .v y23 a), (1, .v y23 b), (5, I (((j + 1) : Nat) : Int))], ?_, ⟨rfl, rfl, rfl, trivial⟩, (j + 1), rfl, rfl, rfl, (by omega), (by omega), (by exact fun k h h2 h3 => if e : k = j then (by subst e; exact Classical.not_not.1 c6) else hi k h h2 (by omega))⟩; omega
  refine VC.exit (VC.seq (VC.text ?_)); refine VO.c (.assign rfl) (VO.go ?_); refine VC.ret ?_; exact VEnd.one rfl evT (pvE (by exact (decide_eq_true (List.ext_getElem hl (fun k h h2 => hi k h h2 (by omega)))).symm))
theorem rShortSp_ok {l : List (Int × Int)} {n : Int} : VF Tryz.prog OA 36 [.v y23 l, I n] (B (decide ((l.length : Int) ≤ n) || decide ((l.length : Int) = 2049))) := by
  refine VF.enter Tryz.func36 rfl (fun _ _ => rfl) rfl ?_; show VC _ _ _ _ _ [(0, .v y23 l), (1, I n)] [] _; refine VC.seq (VC.text ?_); refine VO.c (.assign rfl) ?_; refine VO.go (VC.seq (VC.text ?_)); refine VO.c (.move rfl) ?_; refine VO.r (.len el23) ?_; refine VO.c (.move rfl) (VO.c (.leq) (VO.c (.move rfl) ?_)); refine VO.cg (r := decide (((l.length : Nat) : Int) ≤ n)) (w := false) [] trivial (fun _ => (.move rfl)) ?_; refine VO.rg (r := decide (((l.length : Nat) : Int) ≤ n)) (w := false) [(10, .v y23 l)] ⟨rfl, trivial⟩ (fun _ => (.len el23)) ?_; refine VO.cg (r := decide (((l.length : Nat) : Int) ≤ n)) (w := false) [(11, I ((l.length : Nat) : Int))] ⟨rfl, trivial⟩ (fun _ => (.eql)) ?_; refine VO.c (.or) (VO.c (.assign rfl) (VO.go ?_)); refine VC.ret ?_; exact VEnd.one rfl evT (pvE (by first | rfl | simp [*]))
end Go.Proofs
namespace Go.Fs
variable {P : Program} {fl : VL} {σ : Sto} {T T' : TypeId} {x y : Operand}
end Go.Fs
namespace Go.Proofs
open Go.Fs
set_option maxHeartbeats 2000000
def upTo (l : List (Int × Int)) (i : Nat) (t : Int) (u : Int) : Bool := Sp.inL (l.take i) u || (decide ((spX l i).1 ≤ u) && decide (u < t))
theorem upTo_0 {l : List (Int × Int)} {i : Nat} {t u : Int} (h : t ≤ (spX l i).1) : upTo l i t u = Sp.inL (l.take i) u := by
  unfold upTo; by_cases h1 : (spX l i).1 ≤ u
  · rw [decide_eq_false (show ¬ u < t by omega)]; simp
  rw [decide_eq_false h1]; simp
theorem upTo_end {l : List (Int × Int)} {i : Nat} {t u : Int} (hi : i < l.length) (h : t = l[i].2) : upTo l i t u = Sp.inL (l.take (i + 1)) u := by
  unfold upTo; rw [List.take_succ_eq_append_getElem hi, Sp.inL_app, spX_eq hi, h]; simp [Sp.inL]
theorem upTo_self {l : List (Int × Int)} {i t : Nat} (h : (spX l i).1 ≤ t) : upTo l i ((t + 1 : Nat) : Int) t = true := by
  unfold upTo; rw [decide_eq_true h, decide_eq_true (show (t : Int) < ((t + 1 : Nat) : Int) by omega)]; simp
theorem upTo_other {l : List (Int × Int)} {i t u : Nat} (h : u ≠ t) : upTo l i ((t + 1 : Nat) : Int) u = upTo l i t u := by
  unfold upTo; congr 2; exact decide_eq_decide.2 (by omega)
end Go.Proofs
namespace Go.Proofs.Sp
structure EdgesOf (a b : List Sp) (L : List (Int × Int)) : Prop where
  ca : Canon 100000 a
  cb : Canon 100000 b
  perm : L.Perm (edgeE a 1 ++ edgeE b 2)
  sorted : L.Pairwise fun x y => x.1 ≤ y.1
end Go.Proofs.Sp
namespace Go.Proofs
open Go.Fs
set_option maxHeartbeats 2000000
theorem firstE_zero {l : List Int} : firstE l = 0 ↔ ∀ x ∈ l, x = 0 := by
  induction l with
  | nil => exact ⟨fun _ x hx => (by cases hx), fun _ => rfl⟩
  | cons y l ih =>
    rw [firstE]; by_cases h : y = 0
    · rw [if_pos h, ih]; exact ⟨fun h2 x hx => (by rcases List.mem_cons.1 hx with rfl | hx; exact h; exact h2 x hx), fun h2 x hx => h2 x (List.mem_cons_of_mem _ hx)⟩
    rw [if_neg h]; exact ⟨fun h2 => absurd h2 h, fun h2 => h2 y List.mem_cons_self⟩
theorem firstR_zero {f : Nat → Int} {n : Nat} (h : firstR f 0 n = 0) {i : Nat} (hi : i < n) : f i = 0 :=
  firstE_zero.1 h _ (List.mem_map.2 ⟨i, by rw [List.mem_range'_1]; omega, rfl⟩)
theorem spanE_zero {p : Int × Int} : spanE p = 0 ↔ 0 ≤ p.1 ∧ p.1 < p.2 ∧ p.2 ≤ 100000 := by
  unfold spanE; split
  · rename_i h; exact ⟨fun h2 => absurd h2 (by decide), fun h2 => by omega⟩
  exact ⟨fun _ => by omega, fun _ => rfl⟩
theorem whenE_zero {c : Bool} {e : Int} (he : e ≠ 0) : whenE c e = 0 ↔ c = false := by
  cases c
  · exact ⟨fun _ => rfl, fun _ => rfl⟩
  exact ⟨fun h => absurd h he, fun h => by cases h⟩
theorem spans_canon {l : List (Int × Int)} (h : spansE l = 0) : Sp.Canon 100000 l ∧ l.length ≤ 2048 := by
  unfold spansE at h; split at h
  · exact absurd h (by decide)
  rename_i hn; have hz : ∀ j, j < l.length → spanAt l j = 0 := fun j hj => firstR_zero h hj
  have hz1 : ∀ j (hj : j < l.length), 0 ≤ l[j].1 ∧ l[j].1 < l[j].2 ∧ l[j].2 ≤ 100000 := fun j hj => by
    have := firstE_zero.1 (hz j hj) _ List.mem_cons_self; rw [spX_eq hj] at this; exact spanE_zero.1 this
  refine ⟨Sp.canon_of (fun s hs => ?_) fun j hj h0 => ?_, by omega⟩
  · obtain ⟨j, hj, rfl⟩ := List.mem_iff_getElem.1 hs; exact hz1 j hj
  have h1 := firstE_zero.1 (hz j hj) _ (List.mem_cons_of_mem _ List.mem_cons_self); have h2 := (whenE_zero (by decide)).1 h1; rw [spX_eq hj, spX_eq (show j - 1 < l.length by omega), decide_eq_true (show (0 : Int) < (j : Int) by omega), Bool.true_and, decide_eq_false_iff_not] at h2; omega
theorem awake_ok : VF Tryz.prog OA 6 [] (B true) := VF.oracle (fun _ => rfl) fun _ _ => ⟨rfl, rfl⟩
theorem lSpans_ok {l : List (Int × Int)} (hl : l.length < 1000000) : VF Tryz.prog OA 41 [.v y23 l] (.v y23 l) := by
  refine VF.enter Tryz.func41 rfl (fun _ _ => rfl) rfl ?_; show VC _ _ _ _ _ [(0, .v y23 l)] [] _; refine VC.seq (VC.text ?_); refine VO.c (.assign rfl) ?_; refine VO.go (VC.seq (VC.text ?_)); refine VO.cell (.lit0 el23) ?_; intro ww1; refine VO.c (.move rfl) ?_; refine VO.app rfl rfl el23 el23 (by simp; omega) ?_; intro ww2; refine VO.c (.assign rfl) (VO.go ?_); refine VC.ret ?_; exact VEnd.one rfl (evC (.row m0)) (pvE (by rfl))
theorem rHas_ok {l : List (Int × Int)} {t : Int} (hl : l.length < 1000000) : VF Tryz.prog OA 51 [.v y23 l, I t] (B (Sp.inL l t)) := by
  refine VF.enter Tryz.func51 rfl (fun _ _ => rfl) rfl ?_; show VC _ _ _ _ _ [(0, .v y23 l), (1, I t)] [] _; refine VC.seq (VC.text ?_); refine VO.c (.assign rfl) ?_; refine VO.go (VC.seq (VC.seq (VC.text ?_))); refine VO.c (.assign rfl) ?_; refine VO.go (VC.block ?_); refine VC.keep [(0, .v y23 l), (1, I t), (5, I ((0 : Nat) : Int))] ⟨rfl, rfl, rfl, trivial⟩ ?_; refine VC.loop (I := fun kk ff ss => ∃ (j : Nat), kk = l.length - j ∧ ff = [(0, .v y23 l), (1, I t), (5, I ((j : Nat) : Int))] ∧ ss = [] ∧ (j ≤ l.length) ∧ (∀ k (h : k < l.length), k < j → ¬ (l[k].1 ≤ t ∧ t < l[k].2))) ?_ _ _ _ ⟨0, rfl, rfl, rfl, Nat.zero_le _, (by exact fun k _ h => absurd h (by omega))⟩; rintro kk ff ss ⟨j, hk0, rfl, rfl, hj, hi⟩; refine VC.seq (VC.seq (VC.text ?_)); refine VO.c (.move rfl) (VO.c (.move rfl) ?_); refine VO.r (.len el23) ?_; refine VO.c (.lss) (VO.go ?_); refine VC.condD rfl (fun c2 => ?_) (fun c2 => ?_)
  · have hjl : j < l.length := by omega
    refine VC.skip (VC.seq (VC.block (VC.seq (VC.text ?_)))); refine VO.c (.move rfl) (VO.c (.move rfl) (VO.c (.move rfl) (VO.c (.ix (j := j) rfl rfl el23 (by omega)) ?_))); refine VO.c (.fa (.l .o)) ?_; refine VO.r (.ld vt3) ?_; refine VO.c (.geq) (VO.c (.move rfl) ?_); refine VO.cg (r := decide ((l[j]).1 ≤ t)) (w := true) [] trivial (fun _ => (.move rfl)) ?_; refine VO.cg (r := decide ((l[j]).1 ≤ t)) (w := true) [] trivial (fun _ => (.move rfl)) ?_; refine VO.cg (r := decide ((l[j]).1 ≤ t)) (w := true) [] trivial (fun _ => (.move rfl)) ?_; refine VO.cg (r := decide ((l[j]).1 ≤ t)) (w := true) [(21, .v y23 l), (22, I ((j : Nat) : Int))] ⟨rfl, rfl, trivial⟩ (fun hgd => have g4_7 : (l[j]).1 ≤ t := (by simpa using hgd); (.ixD (j := j) rfl rfl (0, 0) el23 (by omega))) ?_; refine VO.cg (r := decide ((l[j]).1 ≤ t)) (w := true) [(23, .p y53 (l.getD j (0, 0)))] ⟨rfl, trivial⟩ (fun _ => (.fa (.r (k := 0) .o))) ?_; refine VO.rg (r := decide ((l[j]).1 ≤ t)) (w := true) [(24, .p (.int .i64) ((l.getD j (0, 0)).2))] ⟨rfl, trivial⟩ (fun _ => (.ld vt3)) ?_; refine VO.cg (r := decide ((l[j]).1 ≤ t)) (w := true) [(20, I t), (25, I ((l.getD j (0, 0)).2))] ⟨rfl, rfl, trivial⟩ (fun _ => (.lss)) ?_; refine VO.c (.and) (VO.go ?_); refine VC.condB rfl (fun c4 => ?_) (fun c4 => ?_)
    · try simp only [Bool.and_eq_true, Bool.or_eq_true, Bool.and_eq_false_iff, Bool.or_eq_false_iff, Bool.not_eq_true', Bool.not_eq_false', decide_eq_true_eq, decide_eq_false_iff_not] at c4
      refine VC.seq (VC.text ?_); refine VO.c (.assign rfl) (VO.go ?_); refine VC.ret ?_; exact VEnd.one rfl evT (pvE (by rw [getD_at hjl] at c4; exact (List.any_eq_true.2 ⟨_, List.getElem_mem hjl, by rw [decide_eq_true c4.1, decide_eq_true c4.2]; rfl⟩).symm))
    try simp only [Bool.and_eq_true, Bool.or_eq_true, Bool.and_eq_false_iff, Bool.or_eq_false_iff, Bool.not_eq_true', Bool.not_eq_false', decide_eq_true_eq, decide_eq_false_iff_not] at c4
    have hno : ¬ (l[j].1 ≤ t ∧ t < l[j].2) := by rw [getD_at hjl] at c4; omega
    refine VC.skip (VC.text ?_); refine VO.c (.move rfl) (VO.c (.add rfl rfl (by omega)) (VO.c (.assign rfl) ?_)); refine VO.nil ?_; refine ⟨_, [(0, .v y23 l), (1, I t), (5, I (((j + 1) : Nat) : Int))], ?_, ⟨rfl, rfl, rfl, trivial⟩, (j + 1), rfl, rfl, rfl, (by omega), (by exact fun k h h3 => if e : k = j then (by subst e; exact hno) else hi k h (by omega))⟩; omega
  refine VC.exit (VC.seq (VC.text ?_)); refine VO.c (.assign rfl) (VO.go ?_); refine VC.ret ?_; exact VEnd.one rfl evT (pvE (by exact (List.any_eq_false.2 fun x hx => by obtain ⟨k, h, rfl⟩ := List.mem_iff_getElem.1 hx; have := hi k h (by omega); simp; omega).symm))
end Go.Proofs
