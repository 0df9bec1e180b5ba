/- Parts of the proof: an evaluator of the model, what it is sound for, and contracts of functions. No condition. -/
import Derived.Test.YtjmkmalgfanifaaGreatDoorP2
import Derived.Test.YtjmkmalgfanifaaGreatDoorP4
import Derived.Scope
import Derived.Lib.ItoaNum
import Derived.Lib.Join
import Derived.Sort.OwnSorted
import Derived.Test.YtjmkmalgfanifaaGreatDoorChecked
import Derived.ChangeArms
import Derived.Carry
import Derived.RowKit
import Derived.OpenShut
import Derived.Test.YtjmkmalgfanifaaGreatDoorP3
set_option linter.all false
namespace Go
variable {P : Program}
theorem stepR_scopeFs {b : Frame} {a : Act} {k : List Item} {cs : List Frame} {w : World} {c : Code} : step P (lone (b.atR a (.code (.scope c) :: k)) cs w) = .next (lone (b.atR a (.code c :: .inScope c :: k)) cs w) :=
  step_lone_go (by simp [stepG, stepG.exec, Frame.atR])
theorem stepR_inScopeFs {b : Frame} {a : Act} {k : List Item} {cs : List Frame} {w : World} {c : Code} : step P (lone (b.atR a (.inScope c :: k)) cs w) = .next (lone (b.atR a k) cs w) :=
  step_lone_go (by simp [stepG, stepG.exec, Frame.atR])
theorem wpIn_scopeFs {F : Fence} {n : Nat} {Q : Exit → Act → World → Prop} {a : Act} {w : World} {c : Code} (h : c.wpIn F n P (Exit.noGoto Q) a w) : (Code.scope c).wpIn F n P Q a w := by
  intro b k cs hro hb hr; have h0 : (lone (b.atR a (.code (.scope c) :: k)) cs w).fenced P F := fenced_calm hb hr rfl; obtain ⟨e, a₁, w₁, hq, harr⟩ := h b (.inScope c :: k) cs hro hb hr
  cases e with
  | normal => exact ⟨.normal, a₁, w₁, hq, .head h0 stepR_scopeFs (StepsIn.trans harr (.one (fenced_calm hb hr rfl) stepR_inScopeFs))⟩
  | exit id =>
    have hx : exitTo id (.inScope c :: k) = exitTo id k := by simp [exitTo]
    exact ⟨.exit id, a₁, w₁, hq, fun k' hk => .head h0 stepR_scopeFs (harr.1 k' (by rw [hx]; exact hk)),
      fun hr' hk => let ⟨k₁, h1, h2⟩ := harr.2 hr' (by rw [hx]; exact hk); ⟨k₁, h1, .head h0 stepR_scopeFs h2⟩⟩
  | goto l => exact hq.elim
  | ret => exact ⟨_, a₁, w₁, hq, .of_steps (.one h0 stepR_scopeFs) harr⟩
  | panic ch => exact ⟨_, a₁, w₁, hq, .of_steps (.one h0 stepR_scopeFs) harr⟩
  | outgrown => exact ⟨_, a₁, w₁, hq, .of_steps (.one h0 stepR_scopeFs) harr⟩
end Go
namespace Go.Fs
open Go.RowKit (Below)
variable {P : Program} {ρ ρ' : Ren} {S S' : Nat → Prop} {B : Nat} {w0 w w' w1 w2 : World} {h h' h1 h2 : Heap}
theorem call_sound (hP : ProgOk P) {orc : FuncId → List Value → Heap → Option (Value × Heap)} (horc : CallSound P B w0 orc) {m : Nat} {rec : Rec} (hrec : SoundR P B w0 m rec) : CallSnd P B w0 (callOf P orc rec) := by
  intro f args h v h' hf; unfold callOf at hf; split at hf
  · rename_i r hr; simp only [Option.some.injEq] at hf; subst hf; exact .inl (horc _ _ _ _ _ hr)
  split at hf
  · rename_i r hr; simp only [Option.some.injEq] at hf; subst hf; refine .inr fun ρ S w args' hr2 ha => ?_; unfold fsExt at hr; split at hr
    · rename_i fn hfn; obtain ⟨hb, hr3⟩ := bif_some hr; obtain ⟨hb1, hb2⟩ := band hb; split at hr3
      · rename_i e h1 h2; obtain ⟨haf, hr4⟩ := bif_some hr3; obtain ⟨hp, rfl⟩ := map_pair hr4; obtain ⟨h3, h4⟩ := purely_ok hp w; have he : args' = args := ha.eq_of_af haf; subst he; refine ⟨w, v, ?_, ρ, Moved.same hr2, .of_af h4⟩; unfold callFunc
        have hb2' : (fn.name == "runtime.NumGoroutine") = false := by simpa using hb2
        simp only [Sem.run_bind, run_program, Result.andThen_ok, hfn, hb1, hb2', Bool.false_eq_true, if_false, if_true, h1, h2]; have hm : (mark (Mark.extern f)).run P w = .ok () w := rfl; rw [hm]; simp only [Result.andThen_ok, h3, Sem.run_pure]
      cases hr3
    cases hr
  exact .inl (enter_sound hP hrec _ _ _ _ _ hf)
theorem Post.same {fr : Fr} {a : Act} (hr : HR P ρ S B w0 h w) (ht : TrR ρ S fr.t fr.n a.tmps) (hm : MarksR ρ S fr.marks a.defers) : Post P B w0 ρ ρ S h w fr h w a :=
  ⟨Moved.same hr, ht.mono fun _ hb => ⟨.inl hb, rfl⟩, hm.mono fun _ hb => ⟨.inl hb, rfl⟩⟩
theorem step_sound (hP : ProgOk P) {orc : FuncId → List Value → Heap → Option (Value × Heap)} (horc : CallSound P B w0 orc) {m : Nat} {rec : Rec} (hrec : SoundR P B w0 m rec) : SoundR P B w0 (m + 1) (fsStep P orc rec) := by
  intro rnd c fr h e fr' h' hok hf ρ S w a nn Q hr ht hm hs k; have hcs : CallSnd P B w0 (callOf P orc rec) := call_sound hP horc hrec; have hys : YieldSound P B w0 (fsYield rec) := yield_sound hrec
  cases c with
  | skip =>
    simp only [fsStep, Option.some.injEq, Prod.mk.injEq] at hf; obtain ⟨rfl, rfl, rfl⟩ := hf
    exact wpIn_skip (k _ _ _ (Post.same hr ht hm))
  | label l =>
    simp only [fsStep, Option.some.injEq, Prod.mk.injEq] at hf; obtain ⟨rfl, rfl, rfl⟩ := hf
    exact wpIn_label (k _ _ _ (Post.same hr ht hm))
  | exit id =>
    simp only [fsStep, Option.some.injEq, Prod.mk.injEq] at hf; obtain ⟨rfl, rfl, rfl⟩ := hf
    exact wpIn_exit (k _ _ _ (Post.same hr ht hm))
  | ret =>
    simp only [fsStep, Option.some.injEq, Prod.mk.injEq] at hf; obtain ⟨rfl, rfl, rfl⟩ := hf
    exact wpIn_ret (k _ _ _ (Post.same hr ht hm))
  | goto l => simp only [fsStep] at hf; cases hf
  | refuse l => simp only [fsStep] at hf; cases hf
  | scope b =>
    simp only [fsStep] at hf; refine wpIn_scopeFs ?_; refine (hrec rnd b fr h e fr' h' hok hf ρ S w a nn _ hr ht hm hs fun ρ1 w1 a1 p1 => ?_).wpIn; have hq := k _ _ _ p1
    cases e with
    | normal => exact hq
    | exit id => exact hq
    | ret => exact hq
  | seq x y =>
    simp only [fsStep] at hf; obtain ⟨ok1, ok2⟩ := band (show (codeOk x && codeOk y) = true from hok); refine wpIn_seq ?_; split at hf
    · rename_i fr1 h1 hrun; refine (hrec rnd x fr h _ fr1 h1 ok1 hrun ρ S w a nn _ hr ht hm hs fun ρ1 w1 a1 p1 => ?_).wpIn; show y.wpIn (rndF ρ rnd) nn P Q a1 w1; rw [← rndF_eq hs p1.moved.agree]; exact (hrec rnd y fr1 h1 e fr' h' ok2 hf ρ1 _ w1 a1 nn Q p1.moved.hr p1.tmps p1.marks (fun l hl => .inl (hs l hl)) fun ρ2 w2 a2 p2 => k _ _ _ (Post.trans (fr1 := fr1) (a1 := a1) p1.moved p2)).wpIn
    rename_i hne; refine (hrec rnd x fr h e fr' h' ok1 hf ρ S w a nn _ hr ht hm hs fun ρ1 w1 a1 p1 => ?_).wpIn; have hq := k _ _ _ p1
    cases e with
    | normal => exact (hne _ _ hf).elim
    | exit id => exact hq
    | ret => exact hq
  | cond x y z =>
    simp only [fsStep] at hf; obtain ⟨ok1, ok2⟩ := band (show (codeOk y && codeOk z) = true from hok); have hev := ht.eval a.defers x; split at hf
    · rename_i hx; rw [hx] at hev; exact wpIn_cond_true hev.bool_inv (hrec rnd y fr h e fr' h' ok1 hf ρ S w a nn Q hr ht hm hs k).wpIn
    · rename_i hx; rw [hx] at hev; exact wpIn_cond_false hev.bool_inv (hrec rnd z fr h e fr' h' ok2 hf ρ S w a nn Q hr ht hm hs k).wpIn
    cases hf
  | block id b =>
    simp only [fsStep] at hf; refine wpIn_block ?_; split at hf
    · rename_i id' fr1 h1 hrun; refine (hrec rnd b fr h _ fr1 h1 hok hrun ρ S w a nn _ hr ht hm hs fun ρ1 w1 a1 p1 => ?_).wpIn
      cases hb : Nat.beq id' id with
      | true =>
        rw [hb] at hf; simp only [cond_true, Option.some.injEq, Prod.mk.injEq] at hf; obtain ⟨rfl, rfl, rfl⟩ := hf; have := k _ _ _ p1; simp only [exOf, Exit.inBlock, nbeq hb, if_true]
        exact this
      | false =>
        rw [hb] at hf; simp only [cond_false, Option.some.injEq, Prod.mk.injEq] at hf; obtain ⟨rfl, rfl, rfl⟩ := hf; have := k _ _ _ p1; simp only [exOf, Exit.inBlock, if_neg (ne_of_no hb)]; exact this
    rename_i hne; refine (hrec rnd b fr h e fr' h' hok hf ρ S w a nn _ hr ht hm hs fun ρ1 w1 a1 p1 => ?_).wpIn; have hq := k _ _ _ p1
    cases e with
    | normal => exact hq
    | exit id' => exact (hne _ _ _ hf).elim
    | ret => exact hq
  | loop b =>
    simp only [fsStep] at hf; show Code.roundsIn (rndF ρ rnd) nn P b Q (m + 1) a w; rw [roundsIn_succ]; split at hf
    · rename_i fr1 h1 hrun; refine (hrec rnd b fr h _ fr1 h1 hok hrun ρ S w a nn _ hr ht hm hs fun ρ1 w1 a1 p1 => ?_).wpIn; show Code.roundsIn (rndF ρ rnd) nn P b Q m a1 w1; rw [← rndF_eq hs p1.moved.agree]; exact hrec rnd (.loop b) fr1 h1 e fr' h' hok hf ρ1 _ w1 a1 nn Q p1.moved.hr p1.tmps p1.marks (fun l hl => .inl (hs l hl)) fun ρ2 w2 a2 p2 => k _ _ _ (Post.trans (fr1 := fr1) (a1 := a1) p1.moved p2)
    rename_i hne; refine (hrec rnd b fr h e fr' h' hok hf ρ S w a nn _ hr ht hm hs fun ρ1 w1 a1 p1 => ?_).wpIn; have hq := k _ _ _ p1
    cases e with
    | normal => exact (hne _ _ hf).elim
    | exit id => exact hq
    | ret => exact hq
  | region id ops draw =>
    cases draw with
    | false =>
      simp only [fsStep] at hf; split at hf
      · rename_i t h1 hrun; simp only [Option.some.injEq, Prod.mk.injEq] at hf; obtain ⟨rfl, rfl, rfl⟩ := hf; refine wpIn_region ?_; exact ops_wp (step := fsOpM P (callOf P orc rec) (fsYield rec)) rfl hcs hys _ _ ρ S w a fr.t h range_map hr ht hrun fun ρ1 w1 a1 m1 ht1 hd1 => k _ _ _ ⟨m1, ht1, by rw [hd1]; exact hm.mono fun b hb => ⟨.inl hb, m1.agree b hb⟩⟩
      cases hf
    | true =>
      simp only [fsStep] at hf
      cases hl : lateB ops with
      | false =>
        rw [hl] at hf; simp only [cond_false] at hf; split at hf
        · rename_i s hrun; simp only [Option.some.injEq, Prod.mk.injEq] at hf; obtain ⟨rfl, rfl, rfl⟩ := hf; refine wpIn_region_draw fun t => ?_; rw [hP.mixed]; exact drawn_wp (call := callOf P orc rec) (yield := fsYield rec) hcs hys hok hrun (hr.drew _) ht (fun ρ1 w1 a1 m1 ht1 hd1 => k _ _ _ ⟨Moved.ofDrew m1, ht1, by rw [hd1]; exact hm.mono fun b hb => ⟨.inl hb, m1.agree b hb⟩⟩) t
        cases hf
      | true =>
        rw [hl] at hf; simp only [cond_true] at hf; split at hf
        · rename_i s hrun; simp only [Option.some.injEq, Prod.mk.injEq] at hf; obtain ⟨rfl, rfl, rfl⟩ := hf; refine wpIn_region_draw fun t => ?_; rw [hP.mixed]; exact drawn_wpL (call := callOf P orc rec) (yield := fsYield rec) hcs hys hok hrun (hr.drew _) ht (fun ρ1 w1 a1 m1 ht1 hd1 => k _ _ _ ⟨Moved.ofDrew m1, ht1, by rw [hd1]; exact hm.mono fun b hb => ⟨.inl hb, m1.agree b hb⟩⟩) t
        cases hf
  | rangeFunc g ps assign body =>
    simp only [fsStep] at hf; obtain ⟨ok1, ok2⟩ := band (show (codeOk assign && codeOk body) = true from hok); exact rangeFunc_sound hP hrec ok1 ok2 hf hr ht hm hs k
theorem code_sound (hP : ProgOk P) {orc : FuncId → List Value → Heap → Option (Value × Heap)} (horc : CallSound P B w0 orc) : ∀ m, SoundR P B w0 m (fsCode P orc m)
  | 0 => fun rnd c fr h e fr' h' _ hf => by cases hf
  | m + 1 => step_sound hP horc (code_sound hP horc m)
end Go.Fs
namespace Go.Fs
open Go.RowKit (Below)
variable {P : Program}
theorem fs_open (hP : ProgOk P) {B : Nat} {w0 w : World} {orc : FuncId → List Value → Heap → Option (Value × Heap)} (horc : CallSound P B w0 orc) {ρ : Ren} {S : Nat → Prop} {h : Heap} {f : FuncId} {args args' : List Value} {v : Value}
    (hE : Enters P f) (hr : HR P ρ S B w0 h w) (ha : LR ρ S args args') (he : EvF P orc f args h fun u _ => u = v) (hv : af v = true) : Calls P f args'.toArray w fun | .returned v', w' => v' = v ∧ Below B w0 w' | _, _ => False := by
  obtain ⟨m, u, h', h1, rfl⟩ := he
  have hc : CallsIn Fence.wide 0 P f args'.toArray w (RetR P B w0 ρ S h w u h') := by
    rcases call_sound hP horc (code_sound hP horc m) f args h u h' h1 with h2 | h2
    · exact h2.2 ρ S w args' hr ha 0
    obtain ⟨w', v', h3, _⟩ := h2 ρ S w args' hr ha; rw [callFunc_run hE] at h3; simp at h3
  refine Calls.mono (callsIn_wide.1 hc) fun e w' he => ?_
  cases e with
  | returned v' =>
    obtain ⟨ρ', m1, hv1⟩ := he
    exact ⟨hv1.eq_of_af hv, m1.hr.below⟩
  | panicked c => exact he.elim
  | outgrown => exact he.elim
end Go.Fs
namespace Go.Fs
open Go.RowKit (Below)
variable {P : Program}
def digs : Nat → Nat → List UInt8
  | 0, _ => []
  | f + 1, n => bif Nat.blt n 10 then [UInt8.ofNat (48 + n)] else digs f (n / 10) ++ [UInt8.ofNat (48 + n % 10)]
def itoaF (n : Int) : List UInt8 := match n with
  | .ofNat k => digs 20 k
  | .negSucc k => 45 :: digs 20 (k + 1)
def joinF (sep : List UInt8) : List (List UInt8) → List UInt8
  | [] => []
  | [w] => w
  | w :: r => w ++ sep ++ joinF sep r
def strs : List Value → Option (List ByteArray)
  | [] => some []
  | .string s :: r => (strs r).map (s :: ·)
  | _ => none
theorem digs_eq : ∀ (f n : Nat), n < 10 ^ (f + 1) → digs (f + 1) n = Lib.decDigits n
  | f, n, h => by
    unfold digs Lib.decDigits
    cases hb : Nat.blt n 10 with
    | true => rw [dif_pos (nblt hb)]; rfl
    | false =>
      have h1 : ¬ n < 10 := by have := nble_no hb; omega
      rw [dif_neg h1]; simp only [cond_false]
      cases f with
      | zero => simp at h; omega
      | succ f => rw [digs_eq f (n / 10) (by rw [Nat.pow_succ] at h; omega)]
theorem itoaF_eq {n : Int} (h0 : -1000000000000000000 < n) (h1 : n < 1000000000000000000) : itoaF n = Lib.itoa n := by
  unfold Lib.itoa
  cases n with
  | ofNat k =>
    rw [if_neg (by simp)]; show digs 20 k = _; rw [digs_eq 19 k (by have : (k : Int) < 1000000000000000000 := h1; have : (10 : Nat) ^ (19 + 1) = 100000000000000000000 := (by decide); omega)]
    rfl
  | negSucc k =>
    rw [if_pos (by omega)]; show 45 :: digs 20 (k + 1) = _; rw [digs_eq 19 (k + 1) (by have h2 : -1000000000000000000 < Int.negSucc k := h0; have : (10 : Nat) ^ (19 + 1) = 100000000000000000000 := (by decide); omega)]; rfl
theorem joinF_eq (sep : List UInt8) : ∀ xs : List (List UInt8), joinF sep xs = Lib.join xs sep
  | [] => rfl
  | [w] => by rw [Lib.join_one]; rfl
  | w :: v :: r => by
    rw [Lib.join_cons]; simp only [joinF]; rw [joinF_eq sep (v :: r), Lib.join_cons]; simp [Lib.joinTail]
def orcS (fi fj : FuncId) : FuncId → List Value → Heap → Option (Value × Heap) := fun f xs h =>
  bif Nat.beq f fi then
    match xs with
    | [.int .i64 n] => bif decide (-1000000000000000000 < n) && decide (n < 1000000000000000000) then some (.string ⟨(itoaF n).toArray⟩, h) else none
    | _ => none
  else bif Nat.beq f fj then
    match xs with
    | [.slice (some ⟨b, o, none⟩) n _, .string sep] =>
      match h.get b with
      | some (.row _ cs _ _) =>
        bif Nat.ble (o + n) cs.length && Nat.ble n 1000000 then
          match strs ((cs.drop o).take n) with
          | some ss => let r := joinF sep.data.toList (ss.map (·.data.toList))
            bif Nat.ble r.length 1000000000 then some (.string ⟨r.toArray⟩, h) else none
          | none => none
        else none
      | _ => none
    | _ => none
  else none
variable {B : Nat} {w0 w w' : World} {ρ : Ren} {S : Nat → Prop} {h : Heap}
theorem strs_ok : ∀ (cs cs' : List Value) (ss : List ByteArray), LR ρ S cs cs' → strs cs = some ss → cs' = ss.map .string
  | [], cs', ss, hl, hs => by
    simp only [strs, Option.some.injEq] at hs; subst hs
    exact List.eq_nil_of_length_eq_zero hl.1.symm
  | v :: r, [], ss, hl, _ => by have := hl.1; simp at this
  | v :: r, v' :: r', ss, hl, hs => by
    unfold strs at hs; split at hs
    · rename_i he; cases he
    · rename_i s r0 he; simp only [List.cons.injEq] at he; obtain ⟨rfl, rfl⟩ := he; obtain ⟨ss0, h1, rfl⟩ := Option.map_eq_some_iff.1 hs; have hv : VR ρ S (.string s) v' := hl.2 0 (by simp); have hr : LR ρ S r r' := ⟨by have := hl.1; simpa using this, fun i hi => by have := hl.2 (i + 1) (by simp; omega); simpa using this⟩; rw [hv.string_inv, strs_ok r r' ss0 hr h1]; rfl
    cases hs
theorem orcS_sound {fi fj : FuncId} (hz : w0.drawn = 0) (hi : Enters P fi) (hj : Enters P fj)
    (hI : ∀ (n : Int) (w : World), Below B w0 w → -9223372036854775808 ≤ n → n ≤ 9223372036854775807 → Calls P fi #[.int .i64 n] w fun e w' => e = .returned (.string ⟨(Lib.itoa n).toArray⟩) ∧ Below w.heap.size w w')
    (hJ : ∀ (bk o c : Nat) (xs : List ByteArray) (sep : ByteArray) (w : World), (∀ (j : Nat) x, xs[j]? = some x → w.cell? ⟨bk, o + j, none⟩ = some (.string x)) → bk < w.heap.size → xs.length ≤ 140737488355328 → xs.length ≤ c →
      (Lib.join (xs.map (·.data.toList)) sep.data.toList).length ≤ 140737488355328 →
      Calls P fj #[.slice (some ⟨bk, o, none⟩) xs.length c, .string sep] w fun e w' => e = .returned (.string ⟨(Lib.join (xs.map (·.data.toList)) sep.data.toList).toArray⟩) ∧ Below w.heap.size w w') :
    CallSound P B w0 (orcS fi fj) := by
  intro f xs h v h' hf; unfold orcS at hf
  cases hfi : Nat.beq f fi with
  | true =>
    have := nbeq hfi; subst this; rw [hfi] at hf; simp only [cond_true] at hf; split at hf
    · rename_i n; obtain ⟨hc, hf2⟩ := bif_some hf; obtain ⟨h0, h1⟩ := band hc; have h0 := of_decide_eq_true h0; have h1 := of_decide_eq_true h1; simp only [Option.some.injEq, Prod.mk.injEq] at hf2; obtain ⟨rfl, rfl⟩ := hf2; refine ⟨hi, fun ρ S w args' hr ha nn => ?_⟩; have he : args' = [.int .i64 n] := ha.eq_of_af (by rfl); subst he; have hC : CallsIn Fence.wide nn P f #[.int .i64 n] w _ := callsIn_wide.2 (hI n w hr.below (by omega) (by omega)); refine hC.mono fun e w' hret => ?_; obtain ⟨rfl, hb⟩ := hret; exact ⟨ρ, Moved.grewWorld hr hb (by rw [hz]; exact Nat.zero_le _), by rw [itoaF_eq h0 h1]; exact .lit rfl⟩
    cases hf
  | false =>
    rw [hfi] at hf; simp only [cond_false] at hf; obtain ⟨hfj, hf2⟩ := bif_some hf; have := nbeq hfj; subst this; clear hf; split at hf2
    · rename_i b o n mk sep; split at hf2
      · rename_i e cs own more hg; obtain ⟨hc, hf3⟩ := bif_some hf2; obtain ⟨hle, hn⟩ := band hc; have hle := nble hle; have hn := nble hn; split at hf3
        · rename_i ss hss; obtain ⟨hlen, hf4⟩ := bif_some hf3; have hlen := nble hlen; simp only [Option.some.injEq, Prod.mk.injEq] at hf4; obtain ⟨rfl, rfl⟩ := hf4; refine ⟨hj, fun ρ S w args' hr ha nn => ?_⟩
          match args', ha with
          | [x', s'], ha =>
            have hx : VR ρ S (.slice (some ⟨b, o, none⟩) n mk) x' := ha.2 0 (by simp); have hs : VR ρ S (.string sep) s' := ha.2 1 (by simp); obtain ⟨A, c, rfl, hnc, _, _, hb⟩ := hx.slice_inv; obtain rfl := hs.string_inv; have hb0 : b ≠ 0 := (hr.ids b (hr.objs b _ hg).1).2; obtain ⟨_, rfl, _⟩ := hb hb0; have hobj := (hr.objs b _ hg).2
            have hlt : (ρ b).block < w.heap.size := by
              by_cases hown : ownO (.row e cs own more) = true
              · exact hobj.lt hown
              have := hr.ro b _ hg (by simpa using hown); have := hr.size; omega
            have hlr : LR ρ S ((cs.drop o).take n) ((List.range n).map fun j => (w.cell? ((ρ b).at (o + j))).getD undef) := by
              refine LR.of_get? (by simp; omega) fun i v v' hv hv' => ?_; rw [List.getElem?_take] at hv; split at hv
              · rename_i hin; rw [List.getElem?_drop] at hv; obtain ⟨u, h1, h2⟩ := hobj.cell (i := o + i) (by omega); simp [hin, h1] at hv'; subst hv'
                have : cs.getD (o + i) undef = v := by simp [List.getD, hv]
                rwa [this] at h2
              cases hv
            have heq := strs_ok _ _ ss hlr hss
            have hsl : ss.length = n := by
              have := congrArg List.length heq; simp at this; omega
            have hcells : ∀ (j : Nat) x, ss[j]? = some x → w.cell? ⟨(ρ b).block, (ρ b).off + o + j, none⟩ = some (.string x) := fun j x hjx => by
              have hjn : j < n := by have := (List.getElem?_eq_some_iff.1 hjx).1; omega
              obtain ⟨u, h1, h2⟩ := hobj.cell (i := o + j) (by omega); have h3 := congrArg (·[j]?) heq; simp [hjn, hjx, h1] at h3; subst h3; simpa [Loc.at, Nat.add_assoc] using h1
            rw [joinF_eq] at hlen; have hC : CallsIn Fence.wide nn P f #[.slice (some ⟨(ρ b).block, (ρ b).off + o, none⟩) ss.length c, .string sep] w _ := callsIn_wide.2 (hJ (ρ b).block ((ρ b).off + o) c ss sep w hcells hlt (by omega) (by omega) (by omega)); rw [hsl] at hC; refine hC.mono fun e w' hret => ?_; obtain ⟨rfl, hb⟩ := hret; exact ⟨ρ, Moved.grewWorld hr hb (by rw [hz]; exact Nat.zero_le _), by rw [joinF_eq]; exact .lit rfl⟩
        cases hf3
      cases hf2
    cases hf2
end Go.Fs
namespace Go.Fs
open Go.RowKit (Below)
variable {P : Program}
def orcA (fi fj fa : FuncId) : FuncId → List Value → Heap → Option (Value × Heap) := fun f xs h =>
  bif Nat.beq f fa then
    match xs with
    | [] => some (.bool true, h)
    | _ => none
  else orcS fi fj f xs h
theorem orcA_sound {B : Nat} {w0 : World} {fi fj fa : FuncId} (hz : w0.drawn = 0) (hS : CallSound P B w0 (orcS fi fj)) (ha : Enters P fa)
    (hA : ∀ w, Below B w0 w → Calls P fa #[] w fun | .returned v', w' => v' = .bool true ∧ Below w.heap.size w w' | _, _ => False) : CallSound P B w0 (orcA fi fj fa) := by
  intro f xs h v h' hf; unfold orcA at hf
  cases hb : Nat.beq f fa with
  | true =>
    have := nbeq hb; subst this; rw [hb] at hf; simp only [cond_true] at hf; split at hf
    · simp only [Option.some.injEq, Prod.mk.injEq] at hf; obtain ⟨rfl, rfl⟩ := hf; refine ⟨ha, fun ρ S w args' hr har nn => ?_⟩; have he : args' = [] := List.eq_nil_of_length_eq_zero har.1.symm; subst he; have hC : CallsIn Fence.wide nn P f #[] w _ := callsIn_wide.2 (hA w hr.below); refine hC.mono fun e w' hret => ?_
      cases e with
      | returned v' =>
        obtain ⟨rfl, hb⟩ := hret
        exact ⟨ρ, Moved.grewWorld hr hb (by rw [hz]; exact Nat.zero_le _), .lit rfl⟩
      | panicked c => exact hret.elim
      | outgrown => exact hret.elim
    cases hf
  | false =>
    rw [hb] at hf; exact hS f xs h v h' hf
end Go.Fs
namespace Go.Fs
open Go.RowKit (Below)
open Go.Sort Go.Proofs
variable {P : Program}
variable {B : Nat} {w0 w w' : World} {ρ : Ren} {S : Nat → Prop} {h : Heap}
end Go.Fs
namespace Go.Fs
variable {P : Program} {O : FuncId → List Value → Heap → Option (Value × Heap)} {h h' : Heap} {S : List Nat}
end Go.Fs
namespace Go.Fs
variable {P : Program} {orc : FuncId → List Value → Heap → Option (Value × Heap)} {h h' : Heap} {S S' : List Nat} {σ : Sto}
end Go.Fs
namespace Go.Fs
variable {P : Program} {fl : VL} {σ : Sto} {x y : Operand} {T T' : TypeId} {p q : Int}
end Go.Fs
namespace Go.Proofs
open Go.Fs
def OA := orcA 160 160 14
theorem awake_ok : VF Tryz.prog OA 14 [] (B true) := VF.oracle (fun _ => rfl) fun _ _ => ⟨rfl, rfl⟩
abbrev y25 : Ty := (.sl (.int .i64))
abbrev y154 : Ty := (.sl (.int .i64))
theorem vt3 : ValT Tryz.prog 3 (.int .i64) := valT_of (by kernel_rfl)
theorem vt26 : ValT Tryz.prog 26 (.int .i64) := valT_of (by kernel_rfl)
theorem el25 : ElT Tryz.prog 25 3 (.int .i64) := elT_of (by kernel_rfl)
theorem el154 : ElT Tryz.prog 154 26 (.int .i64) := elT_of (by kernel_rfl)
def whenE (c : Bool) (e : Int) : Int := bif c then e else 0
theorem cWhen_ok {c : Bool} {e : Int} : VF Tryz.prog OA 100 [B c, I e] (I (whenE c e)) := by
  refine VF.enter Tryz.func100 rfl (fun _ _ => rfl) rfl ?_; show VC _ _ _ _ _ [(0, B c), (1, I e)] [] _; refine VC.seq (VC.text ?_); refine VO.c (.assign rfl) ?_; refine VO.go (VC.seq (VC.seq (VC.text ?_))); refine VO.c (.move rfl) (VO.go ?_); refine VC.condB rfl (fun c1 => ?_) (fun c1 => ?_)
  · subst c1; refine VC.seq (VC.text ?_); refine VO.c (.move rfl) (VO.c (.assign rfl) (VO.go ?_)); refine VC.ret ?_; exact VEnd.one rfl evT (pvI (by rfl))
  subst c1; refine VC.skip (VC.seq (VC.text ?_)); refine VO.c (.assign rfl) (VO.go ?_); refine VC.ret ?_; exact VEnd.one rfl evT (pvI (by rfl))
theorem rWhen_ok {c : Bool} {e : Int} : VF Tryz.prog OA 94 [B c, I e] (I (whenE c e)) := by
  refine VF.enter Tryz.func94 rfl (fun _ _ => rfl) rfl ?_; show VC _ _ _ _ _ [(0, B c), (1, I e)] [] _; refine VC.seq (VC.text ?_); refine VO.c (.assign rfl) ?_; refine VO.go (VC.seq (VC.seq (VC.text ?_))); refine VO.c (.move rfl) (VO.go ?_); refine VC.condB rfl (fun c1 => ?_) (fun c1 => ?_)
  · subst c1; refine VC.seq (VC.text ?_); refine VO.c (.move rfl) (VO.c (.assign rfl) (VO.go ?_)); refine VC.ret ?_; exact VEnd.one rfl evT (pvI (by rfl))
  subst c1; refine VC.skip (VC.seq (VC.text ?_)); refine VO.c (.assign rfl) (VO.go ?_); refine VC.ret ?_; exact VEnd.one rfl evT (pvI (by rfl))
def rangeE (n lo hi : Int) : Int := if n < lo ∨ hi < n then 3 else 0
theorem rCheckRange_ok {n : Int} {lo : Int} {hi : Int} : VF Tryz.prog OA 93 [I n, I lo, I hi] (I (rangeE n lo hi)) := by
  refine VF.enter Tryz.func93 rfl (fun _ _ => rfl) rfl ?_; show VC _ _ _ _ _ [(0, I n), (1, I lo), (2, I hi)] [] _; refine VC.seq (VC.text ?_); refine VO.c (.assign rfl) ?_; refine VO.go (VC.seq (VC.seq (VC.text ?_))); refine VO.c (.move rfl) (VO.c (.move rfl) (VO.c (.lss) (VO.c (.move rfl) ?_))); refine VO.cg (r := decide (n < lo)) (w := false) [] trivial (fun _ => (.move rfl)) ?_; refine VO.cg (r := decide (n < lo)) (w := false) [] trivial (fun _ => (.move rfl)) ?_; refine VO.cg (r := decide (n < lo)) (w := false) [(11, I n), (12, I hi)] ⟨rfl, rfl, trivial⟩ (fun _ => (.gtr)) ?_; refine VO.c (.or) (VO.go ?_); refine VC.condB rfl (fun c1 => ?_) (fun c1 => ?_)
  · try simp only [Bool.and_eq_true, Bool.or_eq_true, Bool.and_eq_false_iff, Bool.or_eq_false_iff, Bool.not_eq_true', Bool.not_eq_false', decide_eq_true_eq, decide_eq_false_iff_not] at c1
    refine VC.seq (VC.text ?_); refine VO.c (.assign rfl) (VO.go ?_); refine VC.ret ?_; exact VEnd.one rfl evT (pvI (by simp only [rangeE, ← Bool.decide_or, decide_eq_true_eq, decide_eq_false_iff_not, Bool.or_eq_true, Bool.or_eq_false_iff] at *; first | rw [if_pos (by omega)] | rw [if_neg (by omega)]))
  try simp only [Bool.and_eq_true, Bool.or_eq_true, Bool.and_eq_false_iff, Bool.or_eq_false_iff, Bool.not_eq_true', Bool.not_eq_false', decide_eq_true_eq, decide_eq_false_iff_not] at c1
  refine VC.skip (VC.seq (VC.text ?_)); refine VO.c (.assign rfl) (VO.go ?_); refine VC.ret ?_; exact VEnd.one rfl evT (pvI (by simp only [rangeE, ← Bool.decide_or, decide_eq_true_eq, decide_eq_false_iff_not, Bool.or_eq_true, Bool.or_eq_false_iff] at *; first | rw [if_pos (by omega)] | rw [if_neg (by omega)]))
theorem whenE_range {n lo hi : Int} : whenE (decide (n < lo) || decide (hi < n)) 3 = rangeE n lo hi := by
  unfold whenE rangeE; by_cases h1 : n < lo <;> by_cases h2 : hi < n <;> simp [h1, h2]
theorem cWithin_ok {n : Int} {lo : Int} {hi : Int} : VF Tryz.prog OA 102 [I n, I lo, I hi] (I (rangeE n lo hi)) := by
  refine VF.enter Tryz.func102 rfl (fun _ _ => rfl) rfl ?_; show VC _ _ _ _ _ [(0, I n), (1, I lo), (2, I hi)] [] _; refine VC.seq (VC.text ?_); refine VO.c (.assign rfl) ?_; refine VO.go (VC.seq (VC.text ?_)); refine VO.c (.move rfl) (VO.c (.move rfl) (VO.c (.lss) (VO.c (.move rfl) ?_))); refine VO.cg (r := decide (n < lo)) (w := false) [] trivial (fun _ => (.move rfl)) ?_; refine VO.cg (r := decide (n < lo)) (w := false) [] trivial (fun _ => (.move rfl)) ?_; refine VO.cg (r := decide (n < lo)) (w := false) [(11, I n), (12, I hi)] ⟨rfl, rfl, trivial⟩ (fun _ => (.gtr)) ?_; refine VO.c (.or) ?_; refine VO.call rfl rfl (VF.call (cWhen_ok )) ?_; refine VO.c (.assign rfl) (VO.go ?_); refine VC.ret ?_; exact VEnd.one rfl evT (pvI (by exact whenE_range))
def firstE : List Int → Int
  | [] => 0
  | x :: r => if x = 0 then firstE r else x
theorem firstE_drop {xs : List Int} {j : Nat} (hj : j < xs.length) : firstE (xs.drop j) = if xs[j] = 0 then firstE (xs.drop (j + 1)) else xs[j] := by
  rw [List.drop_eq_getElem_cons hj] <;> rfl
theorem firstE_end {xs : List Int} {j : Nat} (hj : xs.length ≤ j) : firstE (xs.drop j) = 0 := by rw [List.drop_eq_nil_of_le hj] <;> rfl
theorem firstE_app {l : List Int} {z : Int} : firstE (l ++ [z]) = if firstE l = 0 then z else firstE l := by
  induction l with
  | nil =>
    show (if z = 0 then 0 else z) = _; rw [if_pos (show firstE [] = 0 from rfl)]; split
    · rename_i h; exact h.symm
    rfl
  | cons x r ih =>
    show (if x = 0 then firstE (r ++ [z]) else x) = if (if x = 0 then firstE r else x) = 0 then z else (if x = 0 then firstE r else x); by_cases hx : x = 0
    · rw [if_pos hx, if_pos hx]; exact ih
    rw [if_neg hx, if_neg hx, if_neg hx]
theorem firstE_zero : ∀ {l : List Int}, firstE l = 0 ↔ ∀ x ∈ l, x = 0
  | [] => ⟨fun _ x hx => (by cases hx), fun _ => rfl⟩
  | x :: r => by
    have ih := firstE_zero (l := r); show (if x = 0 then firstE r else x) = 0 ↔ _; by_cases hx : x = 0
    · rw [if_pos hx, ih]; exact ⟨fun h y hy => (List.mem_cons.1 hy).elim (fun e => e.trans hx) (h y), fun h y hy => h y (List.mem_cons_of_mem _ hy)⟩
    rw [if_neg hx]; exact ⟨fun h => absurd h hx, fun h => absurd (h x List.mem_cons_self) hx⟩
theorem cFirst_ok {l : List Int} (hl : l.length < 1000000) : VF Tryz.prog OA 99 [.v y154 l] (I (firstE l)) := by
  refine VF.enter Tryz.func99 rfl (fun _ _ => rfl) rfl ?_; show VC _ _ _ _ _ [(0, .v y154 l)] [] _; refine VC.seq (VC.text ?_); refine VO.c (.assign rfl) ?_; refine VO.go (VC.seq (VC.seq (VC.text ?_))); refine VO.c (.move rfl) ?_; refine VO.r (.len el154) ?_; refine VO.c (.move rfl) ?_; refine VO.go (VC.block ?_); refine VC.keep [(5, .v y154 l), (6, I ((l.length : Nat) : Int)), (7, I ((0 : Nat) : Int))] ⟨rfl, rfl, rfl, trivial⟩ ?_; refine VC.loop (I := fun kk ff ss => ∃ (j : Nat), kk = l.length - j ∧ ff = [(5, .v y154 l), (6, I ((l.length : Nat) : Int)), (7, I ((j : Nat) : Int))] ∧ ss = [] ∧ (j ≤ l.length) ∧ (firstE l = firstE (l.drop j))) ?_ _ _ _ ⟨0, rfl, rfl, rfl, Nat.zero_le _, (by rfl)⟩; rintro kk ff ss ⟨j, hk0, rfl, rfl, hj, hf⟩; refine VC.seq (VC.text ?_); refine VO.c (.lss) ?_; refine VO.go (VC.seq ?_); refine VC.condD rfl (fun c2 => ?_) (fun c2 => ?_)
  · refine VC.skip (VC.seq (VC.block (VC.seq (VC.text ?_)))); refine VO.c (.ix (j := j) rfl rfl el154 (by omega)) ?_; refine VO.r (.ld vt26) ?_; refine VO.c (.assign rfl) ?_; refine VO.go (VC.seq (VC.text ?_)); refine VO.c (.move rfl) (VO.c (.neq) (VO.go ?_)); refine VC.condD rfl (fun c4 => ?_) (fun c4 => ?_)
    · refine VC.seq (VC.text ?_); refine VO.c (.move rfl) (VO.c (.assign rfl) (VO.go ?_)); refine VC.ret ?_; exact VEnd.one rfl evT (pvI (by rw [hf, firstE_drop (by omega), if_neg c4]))
    refine VC.skip (VC.text ?_); refine VO.c (.add rfl rfl (by omega)) (VO.c (.move rfl) ?_); refine VO.nil ?_; refine ⟨_, [(5, .v y154 l), (6, I ((l.length : Nat) : Int)), (7, I (((j + 1) : Nat) : Int))], ?_, ⟨rfl, rfl, rfl, trivial⟩, (j + 1), rfl, rfl, rfl, (by omega), (by rw [hf, firstE_drop (by omega), if_pos (by simpa using c4)])⟩; omega
  refine VC.exit (VC.seq (VC.text ?_)); refine VO.c (.assign rfl) (VO.go ?_); refine VC.ret ?_; exact VEnd.one rfl evT (pvI (by rw [hf, firstE_end (by omega)]))
theorem rFirst_ok {l : List Int} (hl : l.length < 1000000) : VF Tryz.prog OA 92 [.v y25 l] (I (firstE l)) := by
  refine VF.enter Tryz.func92 rfl (fun _ _ => rfl) rfl ?_; show VC _ _ _ _ _ [(0, .v y25 l)] [] _; refine VC.seq (VC.text ?_); refine VO.c (.assign rfl) ?_; refine VO.go (VC.seq (VC.seq (VC.text ?_))); refine VO.c (.assign rfl) ?_; refine VO.go (VC.block ?_); refine VC.keep [(0, .v y25 l), (3, I ((0 : Nat) : Int))] ⟨rfl, rfl, trivial⟩ ?_; refine VC.loop (I := fun kk ff ss => ∃ (j : Nat), kk = l.length - j ∧ ff = [(0, .v y25 l), (3, I ((j : Nat) : Int))] ∧ ss = [] ∧ (j ≤ l.length) ∧ (firstE l = firstE (l.drop j))) ?_ _ _ _ ⟨0, rfl, rfl, rfl, Nat.zero_le _, (by rfl)⟩; rintro kk ff ss ⟨j, hk0, rfl, rfl, hj, hf⟩; refine VC.seq (VC.seq (VC.text ?_)); refine VO.c (.move rfl) (VO.c (.move rfl) ?_); refine VO.r (.len el25) ?_; refine VO.c (.lss) (VO.go ?_); refine VC.condD rfl (fun c2 => ?_) (fun c2 => ?_)
  · refine VC.skip (VC.seq (VC.block (VC.seq (VC.text ?_)))); refine VO.c (.move rfl) (VO.c (.move rfl) (VO.c (.ix (j := j) rfl rfl el25 (by omega)) ?_)); refine VO.r (.ld vt3) ?_; refine VO.c (.neq) (VO.go ?_); refine VC.condD rfl (fun c4 => ?_) (fun c4 => ?_)
    · refine VC.seq (VC.text ?_); refine VO.c (.move rfl) (VO.c (.move rfl) (VO.c (.ix (j := j) rfl rfl el25 (by omega)) ?_)); refine VO.r (.ld vt3) ?_; refine VO.c (.assign rfl) (VO.go ?_); refine VC.ret ?_; exact VEnd.one rfl evT (pvI (by rw [hf, firstE_drop (by omega), if_neg c4]))
    refine VC.skip (VC.text ?_); refine VO.c (.move rfl) (VO.c (.add rfl rfl (by omega)) (VO.c (.assign rfl) ?_)); refine VO.nil ?_; refine ⟨_, [(0, .v y25 l), (3, I (((j + 1) : Nat) : Int))], ?_, ⟨rfl, rfl, trivial⟩, (j + 1), rfl, rfl, rfl, (by omega), (by rw [hf, firstE_drop (by omega), if_pos (by simpa using c4)])⟩; omega
  refine VC.exit (VC.seq (VC.text ?_)); refine VO.c (.assign rfl) (VO.go ?_); refine VC.ret ?_; exact VEnd.one rfl evT (pvI (by rw [hf, firstE_end (by omega)]))
end Go.Proofs
namespace Go.Proofs
open Go.Fs
set_option maxHeartbeats 400000
abbrev Gat := List Int × List Int × List (List Int)
theorem getDg {α : Type} {l : List α} {i : Nat} {d : α} (h : i < l.length) : l.getD i d = l[i] := by
  rw [List.getD_eq_getElem?_getD, List.getElem?_eq_getElem h] <;> rfl
theorem whenE_zero {c : Bool} {e : Int} (he : e ≠ 0) : whenE c e = 0 ↔ c = false := by
  cases c with
  | false => exact ⟨fun _ => rfl, fun _ => rfl⟩
  | true => exact ⟨fun h => absurd h he, fun h => by cases h⟩
theorem rangeE_zero {n lo hi : Int} : rangeE n lo hi = 0 ↔ lo ≤ n ∧ n ≤ hi := by
  unfold rangeE; by_cases h : n < lo ∨ hi < n
  · rw [if_pos h]; exact ⟨fun h => absurd h (by decide), fun hh => by omega⟩
  rw [if_neg h]; exact ⟨fun _ => by omega, fun _ => rfl⟩
def setE (g : Gat) (set : Int) : Int := whenE (decide (set < 0) || decide ((1 : Int) * 2 ^ ((g.1.length : Nat) : Int).toNat ≤ set)) 10
end Go.Proofs
namespace Go.Proofs
open Go.Fs Ieee
def letterB (c : Int) : Bool := decide (65 ≤ c ∧ c ≤ 90 ∨ 97 ≤ c ∧ c ≤ 122)
def otherB (c : Int) : Bool := decide (48 ≤ c ∧ c ≤ 57 ∨ c = 95)
def byteB (c : Int) (i : Nat) : Bool := letterB c || (decide (i ≠ 0) && otherB c)
def nameB (s : ByteArray) : Bool := decide (s.size ≠ 0 ∧ s.size ≤ 24 ∧ ∀ i, i < s.size → byteB (byteE s i) i = true)
theorem nameB_f {s : ByteArray} {i : Nat} (hi : i < s.size) (h : byteB (byteE s i) i = false) : false = nameB s := by
  refine (decide_eq_false fun hh => ?_).symm; rw [hh.2.2 i hi] at h; cases h
theorem nameB_t {s : ByteArray} (h1 : s.size ≠ 0) (h2 : s.size ≤ 24) (h : ∀ i, i < s.size → byteB (byteE s i) i = true) : true = nameB s := (decide_eq_true ⟨h1, h2, h⟩).symm
theorem size_empty {s : ByteArray} : s ≠ ByteArray.empty ↔ s.size ≠ 0 := by
  constructor
  · intro h e; exact h (ByteArray.ext (Array.eq_empty_of_size_eq_zero e))
  rintro h rfl; exact h rfl
theorem byteB_high {c : Int} {i : Nat} (h : 128 ≤ c) : byteB c i = false := by
  have h1 : letterB c = false := decide_eq_false (by omega); have h2 : otherB c = false := decide_eq_false (by omega); rw [byteB, h1, h2]; simp
theorem rune_f {s : ByteArray} {p : Nat} (h : byteB ((Utf8.decode s p).1 : Nat) p = false) : byteB (byteE s p) p = false := by
  by_cases hl : (s.get! p).toNat < 128
  · rw [decode_low hl] at h; exact h
  exact byteB_high (by rw [byteE_nat]; omega)
theorem rune_t {s : ByteArray} {p : Nat} (h : byteB ((Utf8.decode s p).1 : Nat) p = true) : byteB (byteE s p) p = true ∧ (Utf8.decode s p).2 = 1 := by
  by_cases hl : (s.get! p).toNat < 128
  · rw [decode_low hl] at h ⊢; exact ⟨h, rfl⟩
  have := Go.Fs.decode_high hl; rw [byteB_high (by omega)] at h; cases h
theorem name_end {s : ByteArray} (h : ∀ i, i < s.size → byteB (byteE s i) i = true) : (decide (s ≠ ByteArray.empty) && decide (((s.size : Nat) : Int) ≤ 24)) = nameB s := by
  rw [← Bool.decide_and]; exact decide_eq_decide.2 ⟨fun hh => ⟨size_empty.1 hh.1, by omega, h⟩, fun hh => ⟨size_empty.2 hh.1, by omega⟩⟩
theorem gName_ok {s : ByteArray} : VF Tryz.prog OA 101 [St s] (B (nameB s)) := by
  refine VF.enter Tryz.func101 rfl (fun _ _ => rfl) rfl ?_; show VC _ _ _ _ _ [(0, St s)] [] _; refine VC.seq (VC.text ?_); refine VO.c (.assign rfl) ?_; refine VO.go (VC.seq (VC.seq (VC.text ?_))); refine VO.c (.move rfl) ?_; refine VO.cell (.rng) ?_; intro ww1; refine VO.go (VC.block ?_); refine VC.keep [(0, St s), (8, .raw ww1)] ⟨rfl, rfl, trivial⟩ ?_; refine VC.loop (I := fun kk ff ss => ∃ (p : Nat), kk = s.size - p ∧ ff = [(0, St s), (8, .raw ww1)] ∧ ss = [(ww1, .it s p)] ∧ (p ≤ s.size) ∧ (∀ i, i < p → byteB (byteE s i) i = true)) ?_ _ _ _ ⟨0, rfl, rfl, rfl, Nat.zero_le _, (by intro i hi; omega)⟩; rintro kk ff ss ⟨p, hk0, rfl, rfl, hp, hq⟩; refine VC.seq (VC.text ?_); refine VO.next rfl (fun h2_0 => ?_) (fun h2_0 => ?_)
  · refine VO.c (.extract) ?_; refine VO.go (VC.seq ?_); refine VC.condT rfl ?_; refine VC.skip (VC.block (VC.seq (VC.text ?_))); refine VO.c (.extract) (VO.c (.extract) (VO.c (.assign rfl) (VO.c (.assign rfl) ?_))); refine VO.go (VC.seq ?_); refine VC.join [(0, St s), (3, I ((p : Nat) : Int)), (4, .v (.int .i32) (((Utf8.decode s p).1 : Nat) : Int)), (5, B (letterB ((Utf8.decode s p).1 : Nat))), (8, .raw ww1)] [(ww1, .it s (p + (Utf8.decode s p).2))] ?_ ?_
    · skip
      refine VC.text ?_; refine VO.c (.move rfl) (VO.c (.geq) (VO.c (.move rfl) ?_)); refine VO.splitD (x := 15) rfl (fun g4_2 => ?_) (fun g4_2 => ?_)
      · refine VO.c (.move rfl) (VO.c (.leq) (VO.c (.pickT rfl rfl) (VO.c (.move rfl) ?_))); refine VO.splitD (x := 19) rfl (fun g4_6 => ?_) (fun g4_6 => ?_)
        · refine VO.skip (VO.skip (VO.skip (VO.skip ?_))); refine VO.skip (VO.skip (VO.c (.pickT rfl rfl) (VO.c (.assign rfl) ?_))); refine VO.nil ?_; exact ⟨⟨rfl, rfl, rfl, slE rfl (by rw [Bool.eq_iff_iff]; simp [letterB] <;> omega), rfl, trivial⟩, rfl⟩
        refine VO.c (.move rfl) (VO.c (.geq) (VO.c (.move rfl) ?_)); refine VO.cg (r := decide ((97 : Int) ≤ (((Utf8.decode s p).1 : Nat) : Int))) (w := true) [] trivial (fun _ => (.move rfl)) ?_; refine VO.cg (r := decide ((97 : Int) ≤ (((Utf8.decode s p).1 : Nat) : Int))) (w := true) [(23, .v (.int .i32) (((Utf8.decode s p).1 : Nat) : Int))] ⟨rfl, trivial⟩ (fun _ => (.leq)) ?_; refine VO.c (.and) (VO.c (.pickF rfl rfl) (VO.c (.assign rfl) ?_)); refine VO.nil ?_; exact ⟨⟨rfl, rfl, rfl, slE rfl (by rw [Bool.eq_iff_iff]; simp [letterB] <;> omega), rfl, trivial⟩, rfl⟩
      refine VO.skip (VO.skip (VO.c (.pickF rfl rfl) (VO.c (.move rfl) ?_))); refine VO.c (.move rfl) (VO.c (.geq) (VO.c (.move rfl) ?_)); refine VO.cg (r := decide ((97 : Int) ≤ (((Utf8.decode s p).1 : Nat) : Int))) (w := true) [] trivial (fun _ => (.move rfl)) ?_; refine VO.cg (r := decide ((97 : Int) ≤ (((Utf8.decode s p).1 : Nat) : Int))) (w := true) [(23, .v (.int .i32) (((Utf8.decode s p).1 : Nat) : Int))] ⟨rfl, trivial⟩ (fun _ => (.leq)) ?_; refine VO.c (.and) (VO.c (.pickF rfl rfl) (VO.c (.assign rfl) ?_)); refine VO.nil ?_; exact ⟨⟨rfl, rfl, rfl, slE rfl (by rw [Bool.eq_iff_iff]; simp [letterB] <;> omega), rfl, trivial⟩, rfl⟩
    refine VC.seq ?_; refine VC.join [(0, St s), (3, I ((p : Nat) : Int)), (5, B (letterB ((Utf8.decode s p).1 : Nat))), (6, B (otherB ((Utf8.decode s p).1 : Nat))), (8, .raw ww1)] [(ww1, .it s (p + (Utf8.decode s p).2))] ?_ ?_
    · skip
      refine VC.text ?_; refine VO.c (.move rfl) (VO.c (.geq) (VO.c (.move rfl) ?_)); refine VO.splitD (x := 29) rfl (fun g5_2 => ?_) (fun g5_2 => ?_)
      · refine VO.c (.move rfl) (VO.c (.leq) (VO.c (.pickT rfl rfl) (VO.c (.move rfl) ?_))); refine VO.cg (r := decide ((((Utf8.decode s p).1 : Nat) : Int) ≤ (57 : Int))) (w := false) [] trivial (fun _ => (.move rfl)) ?_; refine VO.cg (r := decide ((((Utf8.decode s p).1 : Nat) : Int) ≤ (57 : Int))) (w := false) [(34, .v (.int .i32) (((Utf8.decode s p).1 : Nat) : Int))] ⟨rfl, trivial⟩ (fun _ => (.eql)) ?_; refine VO.c (.or) (VO.c (.assign rfl) ?_); refine VO.nil ?_; exact ⟨⟨rfl, rfl, rfl, slE rfl (by rw [Bool.eq_iff_iff]; simp [otherB] <;> omega), rfl, trivial⟩, rfl⟩
      refine VO.skip (VO.skip (VO.c (.pickF rfl rfl) (VO.c (.move rfl) ?_))); refine VO.c (.move rfl) (VO.c (.eql) (VO.c (.pickF rfl rfl) (VO.c (.assign rfl) ?_))); refine VO.nil ?_; exact ⟨⟨rfl, rfl, rfl, slE rfl (by rw [Bool.eq_iff_iff]; simp [otherB] <;> omega), rfl, trivial⟩, rfl⟩
    refine VC.seq ?_; refine VC.join [(0, St s), (8, .raw ww1), (46, B (!byteB ((Utf8.decode s p).1 : Nat) p))] [(ww1, .it s (p + (Utf8.decode s p).2))] ?_ ?_
    · skip
      refine VC.text ?_; refine VO.c (.move rfl) (VO.c (.not) (VO.c (.move rfl) ?_)); refine VO.splitB (x := 39) rfl (fun g6_2 => ?_) (fun g6_2 => ?_)
      · try simp only [Bool.and_eq_true, Bool.or_eq_true, Bool.and_eq_false_iff, Bool.or_eq_false_iff, Bool.not_eq_true', Bool.not_eq_false', decide_eq_true_eq, decide_eq_false_iff_not] at g6_2
        refine VO.c (.move rfl) (VO.c (.eql) (VO.c (.move rfl) ?_)); refine VO.cg (r := decide (((p : Nat) : Int) = (0 : Int))) (w := false) [] trivial (fun _ => (.move rfl)) ?_; refine VO.cg (r := decide (((p : Nat) : Int) = (0 : Int))) (w := false) [(43, B (otherB ((Utf8.decode s p).1 : Nat)))] ⟨rfl, trivial⟩ (fun _ => (.not)) ?_; refine VO.c (.or) (VO.c (.pickT rfl rfl) ?_); refine VO.nil ?_; exact ⟨⟨rfl, rfl, slE rfl (by simp [byteB, *]), trivial⟩, rfl⟩
      try simp only [Bool.and_eq_true, Bool.or_eq_true, Bool.and_eq_false_iff, Bool.or_eq_false_iff, Bool.not_eq_true', Bool.not_eq_false', decide_eq_true_eq, decide_eq_false_iff_not] at g6_2
      refine VO.skip (VO.skip (VO.skip (VO.skip ?_))); refine VO.skip (VO.skip (VO.c (.pickF rfl rfl) ?_)); refine VO.nil ?_; exact ⟨⟨rfl, rfl, slE rfl (by simp [byteB, *]), trivial⟩, rfl⟩
    refine VC.condB rfl (fun c6 => ?_) (fun c6 => ?_)
    · try simp only [Bool.and_eq_true, Bool.or_eq_true, Bool.and_eq_false_iff, Bool.or_eq_false_iff, Bool.not_eq_true', Bool.not_eq_false', decide_eq_true_eq, decide_eq_false_iff_not] at c6
      refine VC.seq (VC.text ?_); refine VO.c (.assign rfl) (VO.go ?_); refine VC.ret ?_; exact VEnd.one rfl evT (pvE (by exact nameB_f h2_0 (rune_f c6)))
    try simp only [Bool.and_eq_true, Bool.or_eq_true, Bool.and_eq_false_iff, Bool.or_eq_false_iff, Bool.not_eq_true', Bool.not_eq_false', decide_eq_true_eq, decide_eq_false_iff_not] at c6
    refine VC.skip ?_; refine ⟨_, [(0, St s), (8, .raw ww1)], ?_, ⟨rfl, rfl, trivial⟩, (p + 1), rfl, rfl, (by rw [(rune_t c6).2]), (by omega), (by intro i hi; rcases Nat.lt_succ_iff_lt_or_eq.1 hi with h | h; exact hq i h; subst h; exact (rune_t c6).1)⟩; omega
  refine VO.c (.ext0) ?_; refine VO.go (VC.seq ?_); refine VC.condF rfl ?_; refine VC.exit (VC.seq (VC.text ?_)); refine VO.c (.move rfl) (VO.c (.sneq) (VO.c (.move rfl) ?_)); refine VO.cg (r := decide (s ≠ ByteArray.empty)) (w := true) [] trivial (fun _ => (.move rfl)) ?_; refine VO.rg (r := decide (s ≠ ByteArray.empty)) (w := true) [(50, St s)] ⟨rfl, trivial⟩ (fun _ => (.lenS)) ?_; refine VO.cg (r := decide (s ≠ ByteArray.empty)) (w := true) [(51, I ((s.size : Nat) : Int))] ⟨rfl, trivial⟩ (fun _ => (.leq)) ?_; refine VO.c (.and) (VO.c (.assign rfl) (VO.go ?_)); refine VC.ret ?_; exact VEnd.one rfl evT (pvE (by exact name_end (fun i hi => hq i (by omega))))
theorem rName_ok {s : ByteArray} : VF Tryz.prog OA 147 [St s] (B (nameB s)) := by
  refine VF.enter Tryz.func147 rfl (fun _ _ => rfl) rfl ?_; show VC _ _ _ _ _ [(0, St s)] [] _; refine VC.seq (VC.text ?_); refine VO.c (.assign rfl) ?_; refine VO.go (VC.seq (VC.seq (VC.text ?_))); refine VO.c (.move rfl) ?_; refine VO.r (.lenS) ?_; refine VO.c (.eql) (VO.c (.move rfl) ?_); refine VO.cg (r := decide (((s.size : Nat) : Int) = (0 : Int))) (w := false) [] trivial (fun _ => (.move rfl)) ?_; refine VO.rg (r := decide (((s.size : Nat) : Int) = (0 : Int))) (w := false) [(9, St s)] ⟨rfl, trivial⟩ (fun _ => (.lenS)) ?_; refine VO.cg (r := decide (((s.size : Nat) : Int) = (0 : Int))) (w := false) [(10, I ((s.size : Nat) : Int))] ⟨rfl, trivial⟩ (fun _ => (.gtr)) ?_; refine VO.c (.or) (VO.go ?_); refine VC.condB rfl (fun c1 => ?_) (fun c1 => ?_)
  · try simp only [Bool.and_eq_true, Bool.or_eq_true, Bool.and_eq_false_iff, Bool.or_eq_false_iff, Bool.not_eq_true', Bool.not_eq_false', decide_eq_true_eq, decide_eq_false_iff_not] at c1
    refine VC.seq (VC.text ?_); refine VO.c (.assign rfl) (VO.go ?_); refine VC.ret ?_; exact VEnd.one rfl evT (pvE (by exact (decide_eq_false fun hh => by have := hh.1; have := hh.2.1; omega).symm))
  try simp only [Bool.and_eq_true, Bool.or_eq_true, Bool.and_eq_false_iff, Bool.or_eq_false_iff, Bool.not_eq_true', Bool.not_eq_false', decide_eq_true_eq, decide_eq_false_iff_not] at c1
  refine VC.skip (VC.seq (VC.seq (VC.text ?_))); refine VO.c (.assign rfl) ?_; refine VO.go (VC.block ?_); refine VC.keep [(0, St s), (3, I ((0 : Nat) : Int))] ⟨rfl, rfl, trivial⟩ ?_; refine VC.loop (I := fun kk ff ss => ∃ (i : Nat), kk = s.size - i ∧ ff = [(0, St s), (3, I ((i : Nat) : Int))] ∧ ss = [] ∧ (i ≤ s.size) ∧ (∀ k, k < i → byteB (byteE s k) k = true)) ?_ _ _ _ ⟨0, rfl, rfl, rfl, Nat.zero_le _, (by intro k hk; omega)⟩; rintro kk ff ss ⟨i, hk0, rfl, rfl, hi, hq⟩; refine VC.seq (VC.seq (VC.text ?_)); refine VO.c (.move rfl) (VO.c (.move rfl) ?_); refine VO.r (.lenS) ?_; refine VO.c (.lss) (VO.go ?_); refine VC.condD rfl (fun c4 => ?_) (fun c4 => ?_)
  · refine VC.skip (VC.seq (VC.block (VC.seq (VC.text ?_)))); refine VO.c (.move rfl) (VO.c (.move rfl) (VO.c (.ixS rfl rfl (by omega) (by omega)) (VO.c (.assign rfl) ?_))); refine VO.go (VC.seq (VC.seq ?_)); refine VC.join [(0, St s), (3, I ((i : Nat) : Int)), (4, .v (.int .u8) (byteE s ((i : Nat) : Int))), (35, B (letterB (byteE s i)))] [] ?_ ?_
    · skip
      refine VC.text ?_; refine VO.c (.move rfl) (VO.c (.geq) (VO.c (.move rfl) ?_)); refine VO.splitD (x := 24) rfl (fun g7_2 => ?_) (fun g7_2 => ?_)
      · refine VO.c (.move rfl) (VO.c (.leq) (VO.c (.pickT rfl rfl) (VO.c (.move rfl) ?_))); refine VO.splitD (x := 28) rfl (fun g7_6 => ?_) (fun g7_6 => ?_)
        · refine VO.skip (VO.skip (VO.skip (VO.skip ?_))); refine VO.skip (VO.skip (VO.c (.pickT rfl rfl) ?_)); refine VO.nil ?_; exact ⟨⟨rfl, rfl, rfl, slE rfl (by rw [Bool.eq_iff_iff]; simp [letterB] <;> omega), trivial⟩, rfl⟩
        refine VO.c (.move rfl) (VO.c (.geq) (VO.c (.move rfl) ?_)); refine VO.cg (r := decide ((65 : Int) ≤ (byteE s ((i : Nat) : Int)))) (w := true) [] trivial (fun _ => (.move rfl)) ?_; refine VO.cg (r := decide ((65 : Int) ≤ (byteE s ((i : Nat) : Int)))) (w := true) [(32, .v (.int .u8) (byteE s ((i : Nat) : Int)))] ⟨rfl, trivial⟩ (fun _ => (.leq)) ?_; refine VO.c (.and) (VO.c (.pickF rfl rfl) ?_); refine VO.nil ?_; exact ⟨⟨rfl, rfl, rfl, slE rfl (by rw [Bool.eq_iff_iff]; simp [letterB] <;> omega), trivial⟩, rfl⟩
      refine VO.skip (VO.skip (VO.c (.pickF rfl rfl) (VO.c (.move rfl) ?_))); refine VO.c (.move rfl) (VO.c (.geq) (VO.c (.move rfl) ?_)); refine VO.cg (r := decide ((65 : Int) ≤ (byteE s ((i : Nat) : Int)))) (w := true) [] trivial (fun _ => (.move rfl)) ?_; refine VO.cg (r := decide ((65 : Int) ≤ (byteE s ((i : Nat) : Int)))) (w := true) [(32, .v (.int .u8) (byteE s ((i : Nat) : Int)))] ⟨rfl, trivial⟩ (fun _ => (.leq)) ?_; refine VO.c (.and) (VO.c (.pickF rfl rfl) ?_); refine VO.nil ?_; exact ⟨⟨rfl, rfl, rfl, slE rfl (by rw [Bool.eq_iff_iff]; simp [letterB] <;> omega), trivial⟩, rfl⟩
    refine VC.condB rfl (fun c7 => ?_) (fun c7 => ?_)
    · have hok : byteB (byteE s i) i = true := by rw [byteB, c7] <;> rfl
      refine VC.exit (VC.text ?_); refine VO.c (.move rfl) (VO.c (.add rfl rfl (by omega)) (VO.c (.assign rfl) ?_)); refine VO.nil ?_; refine ⟨_, [(0, St s), (3, I (((i + 1) : Nat) : Int))], ?_, ⟨rfl, rfl, trivial⟩, (i + 1), rfl, rfl, rfl, (by omega), (by intro k hk; rcases Nat.lt_succ_iff_lt_or_eq.1 hk with h | h; exact hq k h; subst h; exact hok)⟩; omega
    refine VC.skip (VC.seq ?_); refine VC.join [(0, St s), (3, I ((i : Nat) : Int)), (49, B (!(decide (i ≠ 0) && otherB (byteE s i))))] [] ?_ ?_
    · skip
      refine VC.text ?_; refine VO.c (.move rfl) (VO.c (.eql) (VO.c (.move rfl) ?_)); refine VO.splitD (x := 38) rfl (fun g8_2 => ?_) (fun g8_2 => ?_)
      · refine VO.skip (VO.skip (VO.skip (VO.skip ?_))); refine VO.skip (VO.skip (VO.skip (VO.skip ?_))); refine VO.skip (VO.skip (VO.c (.pickT rfl rfl) ?_)); refine VO.nil ?_; exact ⟨⟨rfl, rfl, slE rfl (by rw [Bool.eq_iff_iff]; simp [otherB] <;> omega), trivial⟩, rfl⟩
      refine VO.c (.move rfl) (VO.c (.neq) (VO.c (.move rfl) ?_)); refine VO.splitD (x := 41) rfl (fun g8_5 => ?_) (fun g8_5 => ?_)
      · refine VO.c (.move rfl) (VO.c (.lss) (VO.c (.move rfl) ?_)); refine VO.cg (r := decide ((byteE s ((i : Nat) : Int)) < (48 : Int))) (w := false) [] trivial (fun _ => (.move rfl)) ?_; refine VO.cg (r := decide ((byteE s ((i : Nat) : Int)) < (48 : Int))) (w := false) [(45, .v (.int .u8) (byteE s ((i : Nat) : Int)))] ⟨rfl, trivial⟩ (fun _ => (.gtr)) ?_; refine VO.c (.or) (VO.c (.pickT rfl rfl) (VO.c (.pickF rfl rfl) ?_)); refine VO.nil ?_; exact ⟨⟨rfl, rfl, slE rfl (by rw [Bool.eq_iff_iff]; simp [otherB] <;> omega), trivial⟩, rfl⟩
      refine VO.skip (VO.skip (VO.skip (VO.skip ?_))); refine VO.skip (VO.skip (VO.c (.pickF rfl rfl) (VO.c (.pickF rfl rfl) ?_))); refine VO.nil ?_; exact ⟨⟨rfl, rfl, slE rfl (by rw [Bool.eq_iff_iff]; simp [otherB] <;> omega), trivial⟩, rfl⟩
    refine VC.condB rfl (fun c8 => ?_) (fun c8 => ?_)
    · try simp only [Bool.and_eq_true, Bool.or_eq_true, Bool.and_eq_false_iff, Bool.or_eq_false_iff, Bool.not_eq_true', Bool.not_eq_false', decide_eq_true_eq, decide_eq_false_iff_not] at c8
      refine VC.seq (VC.text ?_); refine VO.c (.assign rfl) (VO.go ?_); refine VC.ret ?_; exact VEnd.one rfl evT (pvE (by exact nameB_f (i := i) (by omega) (by simp only [byteB, c7, Bool.false_or, Bool.and_eq_false_iff, decide_eq_false_iff_not]; exact c8)))
    try simp only [Bool.and_eq_true, Bool.or_eq_true, Bool.and_eq_false_iff, Bool.or_eq_false_iff, Bool.not_eq_true', Bool.not_eq_false', decide_eq_true_eq, decide_eq_false_iff_not] at c8
    have hok : byteB (byteE s i) i = true := by simp [byteB, *]
    refine VC.skip (VC.text ?_); refine VO.c (.move rfl) (VO.c (.add rfl rfl (by omega)) (VO.c (.assign rfl) ?_)); refine VO.nil ?_; refine ⟨_, [(0, St s), (3, I (((i + 1) : Nat) : Int))], ?_, ⟨rfl, rfl, trivial⟩, (i + 1), rfl, rfl, rfl, (by omega), (by intro k hk; rcases Nat.lt_succ_iff_lt_or_eq.1 hk with h | h; exact hq k h; subst h; exact hok)⟩; omega
  refine VC.exit (VC.seq (VC.text ?_)); refine VO.c (.assign rfl) (VO.go ?_); refine VC.ret ?_; exact VEnd.one rfl evT (pvE (by exact nameB_t (by omega) (by omega) (fun k hk => hq k (by omega))))
theorem rNameE_ok {s : ByteArray} : VF Tryz.prog OA 91 [St s] (I (whenE (!nameB s) 8)) := by
  refine VF.enter Tryz.func91 rfl (fun _ _ => rfl) rfl ?_; show VC _ _ _ _ _ [(0, St s)] [] _; refine VC.seq (VC.text ?_); refine VO.c (.assign rfl) ?_; refine VO.go (VC.seq (VC.seq (VC.text ?_))); refine VO.c (.move rfl) ?_; refine VO.call rfl rfl (VF.call (rName_ok )) ?_; refine VO.c (.not) (VO.go ?_); refine VC.condB rfl (fun c1 => ?_) (fun c1 => ?_)
  · try simp only [Bool.and_eq_true, Bool.or_eq_true, Bool.and_eq_false_iff, Bool.or_eq_false_iff, Bool.not_eq_true', Bool.not_eq_false', decide_eq_true_eq, decide_eq_false_iff_not] at c1
    refine VC.seq (VC.text ?_); refine VO.c (.assign rfl) (VO.go ?_); refine VC.ret ?_; exact VEnd.one rfl evT (pvI (by simp [whenE, *]))
  try simp only [Bool.and_eq_true, Bool.or_eq_true, Bool.and_eq_false_iff, Bool.or_eq_false_iff, Bool.not_eq_true', Bool.not_eq_false', decide_eq_true_eq, decide_eq_false_iff_not] at c1
  refine VC.skip (VC.seq (VC.text ?_)); refine VO.c (.assign rfl) (VO.go ?_); refine VC.ret ?_; exact VEnd.one rfl evT (pvI (by simp [whenE, *]))
end Go.Proofs
namespace Go.Proofs
open Go.Fs
set_option maxHeartbeats 400000
theorem vt25 : ValT Tryz.prog 25 y25 := valT_of (by kernel_rfl)
theorem el86 : ElT Tryz.prog 86 25 y25 := elT_of (by kernel_rfl)
end Go.Proofs
namespace Go.Proofs
open Go.Fs
set_option maxHeartbeats 1000000
abbrev y86 : Ty := (.sl (.sl (.int .i64)))
end Go.Proofs
namespace Go.Fs
variable {P : Program} {h : Heap} {S : List Nat} {σ : Sto} {t : Tr} {fl : VL} {x : Operand} {T e : TypeId} {τ : Ty}
end Go.Fs
namespace Go.Fs
variable {P : Program} {σ : Sto} {fl : VL} {x y : Operand} {T T' : TypeId} {p q : Bool}
end Go.Fs
namespace Go.Fs
variable {P : Program} {orc : FuncId → List Value → Heap → Option (Value × Heap)} {σ : Sto} {fl : VL} {ops : Array Oper} {n : Nat} {l : List Oper} {K : VL → Sto → Prop} {d : Tmp} {ty : TypeId} {pos : String} {after : Array Edge} {g : Option (Nat × Bool)} {x : Operand} {T e : TypeId} {τ : Ty}
end Go.Fs
namespace Go.Fs
variable {P : Program} {fl : VL} {e : TypeId} {τ : Ty}
end Go.Fs
namespace Go.Fs
open Go.RowKit (Below)
variable {P : Program} {H : Type} {enc : TypeId × Value → H} {w : World} {base : Nat} {sp : Nat → Bool} {held : Bool}
def fsB (P : Program) (ty : TypeId → Ty → Bool) : List Field → Nat → Ty → Bool
  | [f], off, .pair a .unit => Nat.beq f.offset off && Nat.beq (P.cellsOf f.type) a.size && ty f.type a
  | [f], off, τ => Nat.beq f.offset off && Nat.beq (P.cellsOf f.type) τ.size && ty f.type τ
  | f :: fs, off, .pair a b => Nat.beq f.offset off && Nat.beq (P.cellsOf f.type) a.size && ty f.type a && fsB P ty fs (off + a.size) b
  | _, _, _ => false
def arrFs (P : Program) (m : Nat) (e : TypeId) : List Field := (List.range m).map fun i => { name := "", type := e, offset := i * P.cellsOf e, embedded := false, tag := "", pkgPath := "", byteOffset := 0 }
def tyB (P : Program) : Nat → TypeId → Ty → Bool
  | 0, _, _ => false
  | n + 1, t, τ =>
    match P.underlying t, τ with
    | some (.int k), .int k' => decide (k = k')
    | some .bool, .bool => true
    | some .string, .str => true
    | some (.float k), .flt k' => decide (k = k')
    | some (.slice te), .sl e => Nat.beq (P.cellsOf te) e.size && Nat.blt 0 e.size && tyB P n te e
    | some (.struct fs), .pair a b => Nat.beq (P.cellsOf t) (Ty.pair a b).size && fsB P (tyB P n) fs.toList 0 (.pair a b)
    | some (.array m e), .pair a b => Nat.beq (P.cellsOf t) (Ty.pair a b).size && fsB P (tyB P n) (arrFs P m e) 0 (.pair a b)
    | _, _ => false
def Wf : (τ : Ty) → τ.den → Prop
  | .int k, n => (Lit.int k n).wf = true
  | .bool, _ => True
  | .str, s => s.size ≤ maxLen
  | .flt k, n => (Lit.float k n).wf = true
  | .sl e, xs => List.length xs ≤ maxLen ∧ ∀ x ∈ (xs : List e.den), Wf e x
  | .pair a b, x => Wf a x.1 ∧ Wf b x.2
  | .unit, _ => True
  | .mp _ _, _ => True
  | .fn, _ => True
  | .hnd, _ => True
structure Got (P : Program) (w : World) (ρ : Ren) (S : Nat → Prop) (h : Heap) (ρ' : Ren) (S' : Nat → Prop) (h' : Heap) : Prop where
  hr : HR P ρ' S' w.heap.size (wz w) h' w
  agree : ∀ b, S b → S' b ∧ ρ' b = ρ b
  aft : After h h'
theorem Got.refl {ρ : Ren} {S : Nat → Prop} {h : Heap} (hr : HR P ρ S w.heap.size (wz w) h w) : Got P w ρ S h ρ S h := ⟨hr, fun _ hb => ⟨hb, rfl⟩, After.refl h⟩
theorem Got.trans {ρ ρ1 ρ2 : Ren} {S S1 S2 : Nat → Prop} {h h1 h2 : Heap} (a : Got P w ρ S h ρ1 S1 h1) (b : Got P w ρ1 S1 h1 ρ2 S2 h2) : Got P w ρ S h ρ2 S2 h2 :=
  ⟨b.hr, fun i hi => let ⟨h3, h4⟩ := a.agree i hi; let ⟨h5, h6⟩ := b.agree i h3; ⟨h5, h6.trans h4⟩, a.aft.trans b.aft⟩
theorem Got.ok {ρ ρ1 : Ren} {S S1 : Nat → Prop} {h h1 : Heap} (a : Got P w ρ S h ρ1 S1 h1) : HOk h1 := fun b o hg => (a.hr.ids b (a.hr.objs b o hg).1).1
theorem Got.row {ρ : Ren} {S : Nat → Prop} {h : Heap} (hr : HR P ρ S w.heap.size (wz w) h w) {te : TypeId} {cs : List Value} {a : Addr} (ha : a.block < w.heap.size) (hc : ∀ i, i < cs.length → ∃ v, w.cell? ⟨a.block, a.off + i, none⟩ = some v ∧ VR ρ S (cs.getD i undef) v) :
    Got P w ρ S h (fun b => if b = h.next then (.clean a.block a.off 0 (P.cellsOf te)) else ρ b) (fun b => S b ∨ b = h.next) (h.push (.row te cs false false)) := by
  have hag : ∀ b, S b → (S b ∨ b = h.next) ∧ (fun b => if b = h.next then (Loc.clean a.block a.off 0 (P.cellsOf te)) else ρ b) b = ρ b := fun b hb => by
    have := (hr.ids b hb).1; exact ⟨.inl hb, by simp only; rw [if_neg (by omega)]⟩
  have hold : ∀ i o, (h.push (.row te cs false false)).get i = some o → (i = h.next ∧ o = .row te cs false false) ∨ (i ≠ h.next ∧ h.get i = some o) := fun i o hg => by
    rw [Heap.get_push] at hg; by_cases hi : i = h.next
    · rw [if_pos hi] at hg; exact .inl ⟨hi, (Option.some.inj hg).symm⟩
    rw [if_neg hi] at hg; exact .inr ⟨hi, hg⟩
  refine ⟨⟨fun i o hg => ?_, fun i j oi oj hi hj oi1 oj1 he => ?_, fun i o hg ho => ?_, fun i o hg ho => ?_, fun b hb => ?_, Nat.succ_pos _, z_below (Below.refl _ _), Nat.zero_le _, Nat.le_refl _⟩, hag, After.push h _⟩
  · rcases hold i o hg with ⟨rfl, rfl⟩ | ⟨hi, hg'⟩
    · refine ⟨.inr rfl, ?_⟩; simp only [if_true]; refine ⟨rfl, fun i hi => ?_, fun hx => by cases hx⟩; obtain ⟨v, h1, h2⟩ := hc i hi; exact ⟨v, h1, h2.mono hag⟩
    obtain ⟨h1, h2⟩ := hr.objs i o hg'; refine ⟨.inl h1, ?_⟩; simp only [if_neg hi]; exact h2.mono hag
  · rcases hold i oi hi with ⟨rfl, rfl⟩ | ⟨hi', hgi⟩
    · cases oi1
    rcases hold j oj hj with ⟨rfl, rfl⟩ | ⟨hj', hgj⟩
    · cases oj1
    simp only [if_neg hi', if_neg hj'] at he; exact hr.inj i j oi oj hgi hgj oi1 oj1 he
  · rcases hold i o hg with ⟨rfl, rfl⟩ | ⟨hi, hg'⟩
    · cases ho
    simp only [if_neg hi]; exact hr.base i o hg' ho
  · rcases hold i o hg with ⟨rfl, rfl⟩ | ⟨hi, hg'⟩
    · simp only [if_true]; exact ha
    simp only [if_neg hi]; exact hr.ro i o hg' ho
  have hn : (h.push (.row te cs false false)).next = h.next + 1 := rfl; rw [hn]; rcases hb with hb | rfl
  · have := hr.ids b hb; exact ⟨by omega, this.2⟩
  have := hr.pos; exact ⟨by omega, by omega⟩
theorem trod_float {fuel : Nat} {t : TypeId} {cs : List Value} {x : DataW H × List MemPlace} {k : FloatKind} (ht : P.underlying t = some (.float k)) (h : DataW.trod enc P w base sp held fuel t cs = some x) : ∃ n, cs = [.float k n] ∧ (Lit.float k n).wf = true := by
  cases fuel with
  | zero => simp [DataW.trod] at h
  | succ n =>
    unfold DataW.trod at h; rw [ht] at h; split at h <;> simp_all
theorem mapM_all {α β : Type} (f : α → Option β) : ∀ (l : List α) (r : List β), l.mapM f = some r → l.length = r.length ∧ ∀ i (hi : i < l.length) (hr : i < r.length), f l[i] = some r[i]
  | [], r, h => by
    simp only [List.mapM_nil] at h; obtain rfl := Option.some.inj h
    exact ⟨rfl, fun i hi => absurd hi (by simp)⟩
  | a :: l, r, h => by
    rw [List.mapM_cons] at h
    cases hf : f a with
    | none => rw [hf] at h; cases h
    | some b =>
      rw [hf] at h
      cases hl : l.mapM f with
      | none => rw [hl] at h; cases h
      | some bs =>
        rw [hl] at h; obtain rfl := Option.some.inj h; obtain ⟨h1, h2⟩ := mapM_all f l bs hl; refine ⟨by simp [h1], fun i hi hr => ?_⟩
        cases i with
        | zero => exact hf
        | succ i => exact h2 i (by simpa using hi) (by simpa using hr)
theorem cells_some {a : Addr} {n : Nat} {cs : List Value} (h : w.cells? base a n = some cs) : cs.length = n ∧ ∀ i, i < n → w.cell? (a.add i) = some (cs.getD i undef) := by
  unfold World.cells? at h; split at h
  · obtain ⟨h1, h2⟩ := mapM_all _ _ _ h; rw [List.length_range] at h1; refine ⟨h1.symm, fun i hi => ?_⟩; have := h2 i (by simpa using hi) (by omega); rw [List.getElem_range] at this; rw [this]; simp [List.getD, show i < cs.length by omega]
  cases h
theorem cell_some {a : Addr} {v : Value} (h : w.cell? a = some v) : a.spot = none ∧ a.block < w.heap.size := by
  unfold World.cell? at h; split at h
  · rename_i c _ _ hb; refine ⟨?_, (Array.getElem?_eq_some_iff.1 hb).1⟩
    cases hs : a.spot with
    | none => rfl
    | some s => rw [hs] at h; cases h
  cases h
def Tells (P : Program) (w : World) (τ : Ty) (cs : List Value) : Prop := ∀ (ρ : Ren) (S : Nat → Prop) (h : Heap), HR P ρ S w.heap.size (wz w) h w →
  ∃ ρ' S' h' cs' x, Got P w ρ S h ρ' S' h' ∧ LR ρ' S' cs' cs ∧ RepC h' [] τ cs' x ∧ Wf τ x
theorem LR.one {ρ : Ren} {S : Nat → Prop} {v v' : Value} (h : VR ρ S v v') : LR ρ S [v] [v'] := LR.cons h LR.nil
theorem tells_elems {e : Ty} (a : Addr) (len : Nat) (hcs : ∀ i, i < len → ∃ cs, (∀ j, j < e.size → w.cell? (a.add (i * e.size + j)) = some (cs.getD j undef)) ∧ cs.length = e.size ∧ Tells P w e cs) :
    ∀ (ρ : Ren) (S : Nat → Prop) (h : Heap), HR P ρ S w.heap.size (wz w) h w → ∃ ρ' S' h' rs xs, Got P w ρ S h ρ' S' h' ∧ rs.length = len * e.size ∧ List.length xs = len ∧ (∀ i, i < len * e.size → ∃ v, w.cell? (a.add i) = some v ∧ VR ρ' S' (rs.getD i undef) v) ∧
      Elems h' [] e rs xs ∧ ∀ x ∈ (xs : List e.den), Wf e x := by
  induction len with
  | zero =>
    intro ρ S h hr
    exact ⟨ρ, S, h, [], [], Got.refl hr, by simp, rfl, fun i hi => by omega, Elems.nil, fun x hx => by cases hx⟩
  | succ n ih =>
    intro ρ S h hr; obtain ⟨ρ1, S1, h1, rs, xs, g1, l1, l2, c1, e1, w1⟩ := ih (fun i hi => hcs i (by omega)) ρ S h hr; obtain ⟨cs, k1, k2, k3⟩ := hcs n (by omega); obtain ⟨ρ2, S2, h2, cs', x, g2, lr, rc, wf⟩ := k3 ρ1 S1 h1 g1.hr; have hN : Goes h1 [] h2 [] := g2.aft.nx g1.ok; have hl : cs'.length = e.size := rc.len
    have hel : Elems h2 [] e cs' [x] := by
      refine ⟨by simpa using hl, fun i hi => ?_⟩
      obtain rfl : i = 0 := by simpa using hi
      simp only [Nat.zero_mul, List.drop_zero, List.getElem_cons_zero]; rw [List.take_of_length_le (by omega)]; exact rc
    refine ⟨ρ2, S2, h2, rs ++ cs', xs ++ [x], g1.trans g2, by rw [List.length_append, l1, hl, Nat.add_mul]; omega, by simp [l2], fun i hi => ?_, (e1.nx hN).append hel, fun y hy => ?_⟩
    · rw [Nat.add_mul, Nat.one_mul] at hi; by_cases hin : i < n * e.size
      · obtain ⟨v, hv1, hv2⟩ := c1 i hin; refine ⟨v, hv1, ?_⟩; rw [List.getD_eq_getElem?_getD, List.getElem?_append_left (by omega), ← List.getD_eq_getElem?_getD]; exact hv2.mono g2.agree
      have hj : i - n * e.size < e.size := by omega
      refine ⟨cs.getD (i - n * e.size) undef, ?_, ?_⟩
      · have := k1 (i - n * e.size) hj
        rwa [show n * e.size + (i - n * e.size) = i by omega] at this
      rw [List.getD_eq_getElem?_getD, List.getElem?_append_right (by omega), l1, ← List.getD_eq_getElem?_getD]; exact lr.getD _
    rcases List.mem_append.1 hy with hy | hy
    · exact w1 y hy
    obtain rfl := List.mem_singleton.1 hy; exact wf
theorem Addr.add_spot {a : Addr} (h : a.spot = none) (n : Nat) : a.add n = ⟨a.block, a.off + n, none⟩ := by
  obtain ⟨b, o, s⟩ := a; simp only at h; subst h; unfold Addr.add; by_cases hn : n = 0
  · subst hn; simp
  simp [hn]
theorem tells_fields {n : Nat} (ih : ∀ (t : TypeId) (τ : Ty), tyB P n t τ = true → ∀ (fuel : Nat) (cs : List Value) (x : DataW H × List MemPlace), DataW.trod enc P w base sp held fuel t cs = some x → Tells P w τ cs) :
    ∀ (fs : List Field) (off : Nat) (τ : Ty) (cs : List Value) (m : Nat), fsB P (tyB P n) fs off τ = true → cs.length = off + τ.size → (∀ f ∈ fs, ∃ x, DataW.trod enc P w base sp held m f.type ((cs.drop f.offset).take (P.cellsOf f.type)) = some x) → Tells P w τ (cs.drop off) := by
  have one : ∀ (f : Field) (off : Nat) (τ : Ty) (cs : List Value) (m : Nat), f.offset = off → P.cellsOf f.type = τ.size → tyB P n f.type τ = true → off + τ.size ≤ cs.length → (∃ x, DataW.trod enc P w base sp held m f.type ((cs.drop f.offset).take (P.cellsOf f.type)) = some x) → Tells P w τ ((cs.drop off).take τ.size) := by
    intro f off τ cs m h1 h2 h3 h4 ⟨x, hx⟩; rw [h1, h2] at hx; exact ih f.type τ h3 m _ x hx
  intro fs
  induction fs with
  | nil => intro off τ cs m hb; cases hb
  | cons f fs ihf =>
    intro off τ cs m hb hl hall; have hf := hall f List.mem_cons_self
    cases fs with
    | nil =>
      by_cases hs : ∃ a, τ = .pair a .unit
      · obtain ⟨a, rfl⟩ := hs; have hb' : (Nat.beq f.offset off && Nat.beq (P.cellsOf f.type) a.size && tyB P n f.type a) = true := hb; obtain ⟨hb', h3⟩ := band hb'; obtain ⟨h1, h2⟩ := band hb'
        have hs : (Ty.pair a .unit).size = a.size := by simp [Ty.size]
        rw [hs] at hl; have := one f off a cs m (nbeq h1) (nbeq h2) h3 (by omega) hf; intro ρ S h hr; obtain ⟨ρ', S', h', cs', x, g, lr, rc, wf⟩ := this ρ S h hr; have e1 : (cs.drop off).take a.size = cs.drop off := List.take_of_length_le (by rw [List.length_drop]; omega); rw [e1] at lr; have hcl := rc.len; exact ⟨ρ', S', h', cs', (x, ()), g, lr, ⟨by rw [List.take_of_length_le (by omega)]; exact rc, by rw [List.drop_eq_nil_of_le (by omega)]; rfl⟩, wf, trivial⟩
      have hb' : (Nat.beq f.offset off && Nat.beq (P.cellsOf f.type) τ.size && tyB P n f.type τ) = true := by
        cases τ with
        | pair a b =>
          cases b with
          | unit => exact absurd ⟨a, rfl⟩ hs
          | _ => exact hb
        | _ => exact hb
      obtain ⟨hb', h3⟩ := band hb'; obtain ⟨h1, h2⟩ := band hb'; have := one f off τ cs m (nbeq h1) (nbeq h2) h3 (by omega) hf; have e1 : (cs.drop off).take τ.size = cs.drop off := List.take_of_length_le (by rw [List.length_drop]; omega)
      rwa [e1] at this
    | cons g fs =>
      cases τ with
      | pair a b =>
        have hb' : (Nat.beq f.offset off && Nat.beq (P.cellsOf f.type) a.size && tyB P n f.type a && fsB P (tyB P n) (g :: fs) (off + a.size) b) = true := hb; obtain ⟨hb', h4⟩ := band hb'; obtain ⟨hb', h3⟩ := band hb'; obtain ⟨h1, h2⟩ := band hb'; have hs : (Ty.pair a b).size = a.size + b.size := rfl; rw [hs] at hl; have ha := one f off a cs m (nbeq h1) (nbeq h2) h3 (by omega) hf; have hrest := ihf (off + a.size) b cs m h4 (by omega) (fun g hg => hall g (List.mem_cons_of_mem _ hg)); intro ρ S h hr; obtain ⟨ρ1, S1, h1', cs1, x1, g1, lr1, rc1, wf1⟩ := ha ρ S h hr; obtain ⟨ρ2, S2, h2', cs2, x2, g2, lr2, rc2, wf2⟩ := hrest ρ1 S1 h1' g1.hr; have hN : Goes h1' [] h2' [] := g2.aft.nx g1.ok; have hc1 := rc1.len; refine ⟨ρ2, S2, h2', cs1 ++ cs2, (x1, x2), g1.trans g2, ?_, ⟨?_, ?_⟩, wf1, wf2⟩
        · have := (lr1.mono g2.agree).append lr2
          rwa [show (cs.drop off).take a.size ++ cs.drop (off + a.size) = cs.drop off from by rw [← List.drop_drop, List.take_append_drop]] at this
        · rw [List.take_left' hc1]; exact rc1.nx hN
        rw [List.drop_left' hc1]; exact rc2
      | _ => cases hb
theorem tells : ∀ (n : Nat) (t : TypeId) (τ : Ty), tyB P n t τ = true → ∀ (fuel : Nat) (cs : List Value) (x : DataW H × List MemPlace), DataW.trod enc P w base sp held fuel t cs = some x → Tells P w τ cs := by
  intro n
  induction n with
  | zero => intro t τ h; cases h
  | succ n ih =>
    intro t τ hb fuel cs x hx; unfold tyB at hb; split at hb
    · rename_i k k' hu; obtain rfl : k = k' := of_decide_eq_true hb; obtain ⟨m, rfl, _, hwf⟩ := DataW.trod_int hu hx; exact fun ρ S h hr => ⟨ρ, S, h, _, m, Got.refl hr, LR.one (.lit rfl), rfl, hwf⟩
    · rename_i hu; obtain ⟨b, rfl, _⟩ := DataW.trod_bool hu hx; exact fun ρ S h hr => ⟨ρ, S, h, _, b, Got.refl hr, LR.one (.lit rfl), rfl, trivial⟩
    · rename_i hu; obtain ⟨s, rfl, _, hs⟩ := DataW.trod_string hu hx; exact fun ρ S h hr => ⟨ρ, S, h, _, s, Got.refl hr, LR.one (.lit rfl), rfl, hs⟩
    · rename_i k k' hu; obtain rfl : k = k' := of_decide_eq_true hb; obtain ⟨m, rfl, hwf⟩ := trod_float hu hx; exact fun ρ S h hr => ⟨ρ, S, h, _, m, Got.refl hr, LR.one (.lit rfl), rfl, hwf⟩
    · rename_i te e hu; obtain ⟨hb, h3⟩ := band hb; obtain ⟨h1, h2⟩ := band hb; have hce := nbeq h1; have hpos := nblt h2; rcases DataW.trod_slice hu hx with ⟨rfl, _⟩ | ⟨a, len, cap, elems, rest, m, _, rfl, _, hba, hlc, hcap, hlen, hel, _⟩
      · exact fun ρ S h hr => ⟨ρ, S, h, [.slice none 0 0], [], Got.refl hr, LR.one (.lit rfl), ⟨_, rfl, .inl ⟨rfl, rfl⟩⟩, Nat.zero_le _, fun x hx => by cases hx⟩
      by_cases h0 : len = 0
      · subst h0; exact fun ρ S h hr => ⟨ρ, S, h, [.slice (some ⟨0, 0, none⟩) 0 2], [], Got.refl hr, LR.one (.slice 0 0 0 2 cap a (Nat.zero_le _) (fun h => by cases h) (fun _ => rfl) (fun h => absurd rfl h)), ⟨_, rfl, .inr ⟨0, 0, 2, rfl, .inl rfl⟩⟩, Nat.zero_le _, fun x hx => by cases hx⟩
      have hcs : ∀ i, i < len → ∃ cs, (∀ j, j < e.size → w.cell? (a.add (i * e.size + j)) = some (cs.getD j undef)) ∧ cs.length = e.size ∧ Tells P w e cs := by
        intro i hi; have := hel i hi; rw [List.getElem?_eq_getElem (by omega)] at this; rw [hce] at this
        cases hc : w.cells? base (a.add (i * e.size)) e.size with
        | none => rw [hc] at this; cases this
        | some cs =>
          rw [hc] at this; obtain ⟨k1, k2⟩ := cells_some hc; refine ⟨cs, fun j hj => ?_, k1, ih te e h3 m cs _ this⟩; rw [← k2 j hj]; congr 1; obtain ⟨b, o, s⟩ := a; unfold Addr.add; by_cases hx1 : i * e.size = 0
          · simp [hx1]
          by_cases hx2 : j = 0
          · subst hx2; simp [hx1]
          simp [hx1, hx2, Nat.add_assoc]
      have hfirst : a.spot = none ∧ a.block < w.heap.size := by
        obtain ⟨cs, k1, _⟩ := hcs 0 (by omega); have := k1 0 hpos; rw [Nat.zero_mul, Nat.zero_add] at this; have h4 := cell_some this; simpa [Addr.add] using h4
      intro ρ S h hr; obtain ⟨ρ1, S1, h1', rs, xs, g1, l1, l2, c1, e1, w1⟩ := tells_elems (P := P) a len hcs ρ S h hr
      have hrow := Got.row (te := te) g1.hr (cs := rs) (a := a) hfirst.2 (fun i hi => by
        have := c1 i (by omega)
        rwa [Addr.add_spot hfirst.1] at this)
      have hsl : SlV (h1'.push (.row te rs false false)) [] e (.slice (some ⟨h1'.next, 0, none⟩) (List.length xs) 2) xs := (e1.nx (hrow.aft.nx g1.ok)).slv (by rw [Heap.get_push, if_pos rfl]) (by simp); refine ⟨_, _, _, [.slice (some ⟨h1'.next, 0, none⟩) (List.length xs) 2], xs, g1.trans hrow, ?_, ⟨_, rfl, hsl⟩, by omega, w1⟩; rw [l2]; refine LR.one (.slice h1'.next 0 len 2 cap a hlc (fun h => by cases h) (fun h5 => by have := g1.hr.pos; omega) fun _ => ⟨.inr rfl, ?_, fun h => by cases h⟩); simp only [if_true, Loc.at, Nat.add_zero]; obtain ⟨b, o, s⟩ := a; simp only at hfirst; rw [hfirst.1]
    · rename_i fs a b hu; obtain ⟨h1, h2⟩ := band hb; obtain ⟨xs, m, _, _, hl, hsz, hall⟩ := DataW.trod_struct hu hx
      have hcl : cs.length = (Ty.pair a b).size := by rw [hl, nbeq h1]
      have := tells_fields ih fs.toList 0 (.pair a b) cs m h2 (by omega) (fun f hf => by
        obtain ⟨i, hi, rfl⟩ := List.getElem_of_mem hf
        have hi' : i < fs.size := by simpa using hi
        have := hall i fs[i] (by simp [hi']); rw [List.getElem?_eq_getElem (by omega)] at this
        exact ⟨_, by simpa using this⟩)
      simpa using this
    · rename_i m e a b hu; obtain ⟨h1, h2⟩ := band hb; obtain ⟨xs, m', _, _, hl, hsz, hall⟩ := DataW.trod_array hu hx
      have hcl : cs.length = (Ty.pair a b).size := by rw [hl, nbeq h1]
      have := tells_fields ih (arrFs P m e) 0 (.pair a b) cs m' h2 (by omega) (fun f hf => by
        obtain ⟨i, hi, rfl⟩ := List.mem_map.1 hf; have hi' : i < m := List.mem_range.1 hi; have := hall i hi'; rw [List.getElem?_eq_getElem (by omega)] at this
        exact ⟨_, this⟩)
      simpa using this
    cases hb
theorem okWide_agg {n : Nat} {r : Reach} {b0 : Nat} {t : TypeId} {τ : Ty} {v : Value} (hb : tyB P n t τ = true) (hval : Value.okWide P w r b0 t v) : isAggV v = τ.agg := by
  cases n with
  | zero => cases hb
  | succ n =>
    unfold tyB at hb; unfold Value.okWide at hval; split at hb
    · rename_i k k' hu; rw [hu] at hval; simp only [Cell.okWide, hu, Cell.ok] at hval; cases v <;> simp_all [isAggV, Ty.agg]
    · rename_i hu; rw [hu] at hval; simp only [Cell.okWide, hu, Cell.ok] at hval; cases v <;> simp_all [isAggV, Ty.agg]
    · rename_i hu; rw [hu] at hval; simp only [Cell.okWide, hu, Cell.ok] at hval; cases v <;> simp_all [isAggV, Ty.agg]
    · rename_i k k' hu; rw [hu] at hval; simp only [Cell.okWide, hu, Cell.ok] at hval; cases v <;> simp_all [isAggV, Ty.agg]
    · rename_i te e hu; rw [hu] at hval; simp only [Cell.okWide, hu, Cell.ok] at hval; cases v <;> simp_all [isAggV, Ty.agg]
    · rename_i fs a b hu; rw [hu] at hval; obtain ⟨cs, rfl, _⟩ := hval; rfl
    · rename_i m e a b hu; rw [hu] at hval; obtain ⟨cs, rfl, _⟩ := hval; rfl
    cases hb
theorem tell_arg {ρ : Ren} {S : Nat → Prop} {h : Heap} (hr : HR P ρ S w.heap.size (wz w) h w) {n : Nat} {r : Reach} {b0 : Nat} {t : TypeId} {τ : Ty} {v : Value} {d : DataW H} {ps : List MemPlace} (hb : tyB P n t τ = true) (hval : Value.okWide P w r b0 t v) (hd : DataW.Trod enc P w base sp held t v d ps) :
    ∃ ρ' S' h' v' x, Got P w ρ S h ρ' S' h' ∧ VR ρ' S' v' v ∧ RepV h' [] τ v' x ∧ Wf τ x := by
  have hag := okWide_agg hb hval; obtain ⟨fuel, hf⟩ := hd; obtain ⟨ρ', S', h', cs', x, g, lr, rc, wf⟩ := tells n t τ hb fuel _ _ hf ρ S h hr
  cases hτ : τ.agg with
  | true =>
    rw [hτ] at hag
    cases v with
    | agg cs =>
      refine ⟨ρ', S', h', .agg cs'.toArray, x, g, VR.agg' (by simpa [Value.cells] using lr), ⟨hτ.symm, by simpa [Value.cells] using rc⟩, wf⟩
    | _ => cases hag
  | false =>
    rw [hτ] at hag; rw [cells_one hag] at lr; obtain ⟨u, rfl, hu⟩ := rc.one hτ; have := lr.2 0 (by simp); exact ⟨ρ', S', h', u, x, g, by simpa using this, hu, wf⟩
theorem hr_empty (hw : 0 ≤ w.heap.size) : HR P (fun _ => Loc.clean 0 0 0 0) (fun _ => False) w.heap.size (wz w) ⟨1, 1, []⟩ w where
  objs := fun i o h => by cases h
  inj := fun i j oi oj h => by cases h
  base := fun i o h => by cases h
  ro := fun i o h => by cases h
  ids := fun b hb => hb.elim
  pos := Nat.one_pos
  below := z_below (Below.refl _ _)
  drawn := Nat.zero_le _
  size := Nat.le_refl _
section
open Go.WideElems Go.ChangeShapes
theorem trodAll_below (hl : laidOutB P = true) {W W' : World} (hb : Below W.heap.size W W') : ∀ {ts : List TypeId} {vs : List Value} {ds : List (DataW H)} {ps : List MemPlace}, (ts.all fun t => P.readableRec t && decide (t < P.types.size)) = true →
    DataW.TrodAll enc P W 0 (fun _ => true) true ts vs ds ps → (∀ x ∈ ps, x.block < W.heap.size) → DataW.TrodAll enc P W' 0 (fun b => decide (b < W.heap.size)) true ts vs ds ps
  | [], [], [], _, _, h, _ => h
  | [], _ :: _, _, _, _, h, _ => h.elim
  | [], [], _ :: _, _, _, h, _ => h.elim
  | _ :: _, [], _, _, _, h, _ => h.elim
  | _ :: _, _ :: _, [], _, _, h, _ => h.elim
  | t :: ts, v :: vs, d :: ds, ps, ha, h, hp => by
    obtain ⟨p, q, h1, h2, rfl⟩ := h; simp only [List.all_cons, Bool.and_eq_true, decide_eq_true_eq] at ha; exact ⟨p, q, Go.RowKit.Below.trod hl ha.1.1 ha.1.2 h1 hb (fun x hx => hp x (List.mem_append_left _ hx)), trodAll_below hl hb (by simpa using ha.2) h2 (fun x hx => hp x (List.mem_append_right _ hx)), rfl⟩
theorem law_post {f : Func} {s : ChangeSpec} {tb : TypeId} (hl : laidOutB P = true) (hrd : (f.params.toList.all fun t => P.readableRec t && decide (t < P.types.size)) = true) (hres : f.resultTypes = #[tb]) (htb : P.underlying tb = some .bool) (hvars : s.vars = []) {W W' : World} {args : Array Value} {ds gs : List (DataW H)}
    {before : List MemPlace} (hW : DataW.Whole enc P f.params.toList s.vars false W args.toList ds gs before) (hr : (s.fn H (ds ++ gs)).results = [.lit (.bool true)]) (ha : (s.fn H (ds ++ gs)).args = ds) (hv : (s.fn H (ds ++ gs)).vars = []) (hb : Below W.heap.size W W') :
    s.post enc P f false true false false W args (.bool true) W' := by
  have hlt := hW.lt; have hW' := hW; obtain ⟨p, q, hA, hV, rfl, _, _⟩ := hW; rw [hvars] at hV; have hV' : gs = [] ∧ q = [] := trodVars_none hV; obtain ⟨rfl, rfl⟩ := hV'; refine ⟨ds, [], p ++ [], [], p, [], hW', ?_, ?_, ?_, hb.frame _, fun h => by cases h⟩
  · rw [hr, hres]; exact trodAll_mk1 (Go.RowKit.shut_bool htb _)
  · rw [ha]; exact trodAll_below hl hb hrd hA fun x hx => hlt x (List.mem_append_left _ hx)
  rw [hvars, hv]; exact rfl
end
theorem law_calls3 (hP : ProgOk P) {orc : FuncId → List Value → Heap → Option (Value × Heap)} {W : World} (horc : CallSound P W.heap.size (wz W) orc) {f : FuncId} (hen : Enters P f) {fn : Func} {n : Nat} {t0 t1 t2 : TypeId} {τ0 τ1 τ2 : Ty} (hp : fn.params = #[t0, t1, t2]) (hb0 : tyB P n t0 τ0 = true) (hb1 : tyB P n t1 τ1 = true) (hb2 : tyB P n t2 τ2 = true)
    (hE : ∀ (h : Heap) (v0 v1 v2 : Value) (x0 : τ0.den) (x1 : τ1.den) (x2 : τ2.den), HOk h → RepV h [] τ0 v0 x0 → RepV h [] τ1 v1 x1 → RepV h [] τ2 v2 x2 → Wf τ0 x0 → Wf τ1 x1 → Wf τ2 x2 → EvF P orc f [v0, v1, v2] h fun r h' => r = .bool true ∧ h' = h)
    {args : Array Value} {ds : List (DataW H)} {ps : List MemPlace} (hval : ∀ (j : Nat) t v, fn.params[j]? = some t → args[j]? = some v → Value.okWide P W .any base t v) (hA : DataW.TrodAll enc P W 0 sp held fn.params.toList args.toList ds ps) :
    Calls P f args W fun | .returned v', w' => v' = .bool true ∧ Below W.heap.size W w' | _, _ => False := by
  rw [hp] at hA hval; obtain ⟨v0, vs0, d0, ds0, p0, q0, ha, rfl, rfl, k0, r0⟩ := Go.ChangeShapes.trodAll_cons hA; obtain ⟨v1, vs1, d1, ds1, p1, q1, rfl, rfl, rfl, k1, r1⟩ := Go.ChangeShapes.trodAll_cons r0; obtain ⟨v2, vs2, d2, ds2, p2, q2, rfl, rfl, rfl, k2, r2⟩ := Go.ChangeShapes.trodAll_cons r1; obtain ⟨rfl, rfl, rfl⟩ := Go.ChangeShapes.trodAll_nil r2
  obtain rfl : args = #[v0, v1, v2] := by cases args; simp_all
  obtain ⟨ρ0, S0, h0, u0, x0, g0, c0, e0, w0⟩ := tell_arg (hr_empty (P := P) (w := W) (Nat.zero_le _)) hb0 (hval 0 t0 v0 rfl rfl) k0; obtain ⟨ρ1, S1, h1, u1, x1, g1, c1, e1, w1⟩ := tell_arg g0.hr hb1 (hval 1 t1 v1 rfl rfl) k1; obtain ⟨ρ2, S2, h2, u2, x2, g2, c2, e2, w2⟩ := tell_arg g1.hr hb2 (hval 2 t2 v2 rfl rfl) k2; have hR := hE h2 u0 u1 u2 x0 x1 x2 g2.ok ((e0.nx (g1.aft.nx g0.ok)).nx (g2.aft.nx g1.ok)) (e1.nx (g2.aft.nx g1.ok)) e2 w0 w1 w2; refine (fs_open (args' := [v0, v1, v2]) hP horc hen g2.hr (LR.cons ((c0.mono g1.agree).mono g2.agree) (LR.cons (c1.mono g2.agree) (LR.one c2))) (EvF.mono hR fun v h' h => h.1) rfl).mono fun e w' he => ?_
  cases e with
  | returned v => exact ⟨he.1, below_z he.2⟩
  | panicked c => exact he
  | outgrown => exact he
end Go.Fs
namespace Go.Proofs
open Go.Fs
set_option maxHeartbeats 1000000
theorem wfL {e : Ty} {xs : List e.den} (h : Wf (.sl e) xs) : xs.length ≤ 9223372036854775807 := Nat.le_trans h.1 (by decide)
theorem lInts_ok {l : List Int} (hl : l.length < 1000000) : VF Tryz.prog OA 36 [.v y25 l] (.v y25 l) := by
  refine VF.enter Tryz.func36 rfl (fun _ _ => rfl) rfl ?_; show VC _ _ _ _ _ [(0, .v y25 l)] [] _; refine VC.seq (VC.text ?_); refine VO.c (.assign rfl) ?_; refine VO.go (VC.seq (VC.text ?_)); refine VO.cell (.lit0 el25) ?_; intro ww1; refine VO.c (.move rfl) ?_; refine VO.app rfl rfl el25 el25 (by simp; omega) ?_; intro ww2; refine VO.c (.assign rfl) (VO.go ?_); refine VC.ret ?_; exact VEnd.one rfl (evC (.row m0)) (pvE (by rfl))
end Go.Proofs
namespace Go.Proofs
open Go.Fs
set_option maxHeartbeats 1000000
abbrev y22 : Ty := (.sl (.pair .str (.pair (.int .i64) (.pair (.int .i64) (.sl (.int .i64))))))
abbrev y29 : Ty := (.sl (.pair .str (.pair (.int .i64) (.pair (.int .i64) (.sl (.int .i64))))))
abbrev y80 : Ty := (.pair .str (.pair (.int .i64) (.pair (.int .i64) (.sl (.int .i64)))))
abbrev y84 : Ty := (.pair .str (.pair (.int .i64) (.pair (.int .i64) (.sl (.int .i64)))))
theorem vt9 : ValT Tryz.prog 9 .str := valT_of (by kernel_rfl)
theorem vt80 : ValT Tryz.prog 80 y80 := valT_of (by kernel_rfl)
theorem vt84 : ValT Tryz.prog 84 y84 := valT_of (by kernel_rfl)
theorem el22 : ElT Tryz.prog 22 80 y80 := elT_of (by kernel_rfl)
theorem el29 : ElT Tryz.prog 29 84 y84 := elT_of (by kernel_rfl)
theorem zt4 : ZerT Tryz.prog 4 .bool := zerT_of (z := .bool false) (by kernel_rfl) rfl rfl
theorem zt80 : ZerT Tryz.prog 80 y80 := zerT_of (z := .agg #[.string ByteArray.empty, .int .i64 0, .int .i64 0, .slice none 0 0]) (by kernel_rfl) rfl rfl
theorem zt84 : ZerT Tryz.prog 84 y84 := zerT_of (z := .agg #[.string ByteArray.empty, .int .i64 0, .int .i64 0, .slice none 0 0]) (by kernel_rfl) rfl rfl
theorem mt145 : MapT Tryz.prog 145 .str .bool := ⟨9, 4, by kernel_rfl, keyStr (by kernel_rfl), zt4⟩
def firstR (f : Nat → Int) (i n : Nat) : Int := firstE ((List.range' i (n - i)).map f)
theorem firstR_step {f : Nat → Int} {i n : Nat} (h : i < n) : firstR f i n = if f i = 0 then firstR f (i + 1) n else f i := by
  unfold firstR; rw [show n - i = (n - (i + 1)) + 1 by omega, List.range'_succ]; rfl
theorem firstR_end {f : Nat → Int} {i n : Nat} (h : n ≤ i) : firstR f i n = 0 := by
  unfold firstR; rw [show n - i = 0 by omega] <;> rfl
theorem firstR_zero {f : Nat → Int} {n : Nat} : firstR f 0 n = 0 ↔ ∀ i, i < n → f i = 0 := by
  unfold firstR; rw [firstE_zero, Nat.sub_zero]; constructor
  · intro h i hi; exact h _ (List.mem_map_of_mem (List.mem_range'_1.2 ⟨Nat.zero_le _, by omega⟩))
  intro h x hx; obtain ⟨i, hi, rfl⟩ := List.mem_map.1 hx; exact h i (by have := List.mem_range'_1.1 hi; omega)
theorem mget_mset {α β : Type} [DecidableEq α] : ∀ (m : List (α × β)) (x z : α) (y : β), mget (mset m x y) z = if z = x then some y else mget m z
  | [], x, z, y => by simp [mset, mget]
  | (a, b) :: r, x, z, y => by
    by_cases h : x = a
    · subst h; simp only [mset, if_pos, mget]; by_cases h2 : z = x <;> simp [h2]
    simp only [mset, if_neg h, mget, mget_mset r x z y]; by_cases h2 : z = a
    · subst h2; have : ¬ z = x := fun e => h e.symm; simp [this]
    simp [h2]
abbrev Pha := ByteArray × Int × Int × List Int
def phA (l : List Pha) (i : Nat) : Pha := l.getD i (ByteArray.empty, 0, 0, [])
theorem phA_eq {l : List Pha} {i : Nat} (h : i < l.length) : phA l i = l[i] := by simp [phA, h]
def lastB (b : List Int) : Nat → Int
  | 0 => -1
  | k + 1 => b.getD k 0
def befA (i : Nat) (b : List Int) (k : Nat) : Int := firstE [whenE (decide (b.getD k 0 < 0) || decide (((i : Nat) : Int) ≤ b.getD k 0)) 10, whenE (decide (b.getD k 0 ≤ lastB b k)) 11]
def befE (i : Nat) (b : List Int) : Int := firstR (befA i b) 0 b.length
def twiB (l : List Pha) (i : Nat) (s : ByteArray) : Bool := (l.take i).any fun x => decide (x.1 = s)
def headP (l : List Pha) (i : Nat) : List Int := [whenE (!nameB (phA l i).1) 8, whenE (twiB l i (phA l i).1) 9, rangeE (phA l i).2.1 0 1000, rangeE (phA l i).2.2.1 0 1000, whenE (decide ((phA l i).2.2.1 < (phA l i).2.1)) 11]
def phaE (l : List Pha) (i : Nat) : Int := firstE (headP l i ++ [befE i (phA l i).2.2.2])
def planE (l : List Pha) : Int := if 16 < ((l.length : Nat) : Int) then 5 else firstR (phaE l) 0 l.length
theorem plan_row {l : List Pha} {i : Nat} (hl : ¬ 16 < ((l.length : Nat) : Int)) (hw : firstR (phaE l) 0 l.length = firstR (phaE l) i l.length) (hi : i < l.length) (hz : phaE l i ≠ 0) : planE l = phaE l i := by
  rw [planE, if_neg hl, hw, firstR_step hi, if_neg hz]
theorem pha_h {l : List Pha} {i : Nat} (h : firstE (headP l i) ≠ 0) : phaE l i = firstE (headP l i) := by
  unfold phaE; rw [firstE_app, if_neg h]
theorem pha_b {l : List Pha} {i : Nat} (h : firstE (headP l i) = 0) : phaE l i = befE i (phA l i).2.2.2 := by
  unfold phaE; rw [firstE_app, if_pos h]
theorem bef_at {i : Nat} {b : List Int} {k : Nat} (hw : befE i b = firstR (befA i b) k b.length) (hk : k < b.length) (hz : befA i b k ≠ 0) : befE i b = befA i b k := by
  rw [hw, firstR_step hk, if_neg hz]
def namM (l : List Pha) : Nat → List (ByteArray × Bool)
  | 0 => []
  | i + 1 => mset (namM l i) (phA l i).1 true
theorem namM_has {l : List Pha} {s : ByteArray} : ∀ i, i ≤ l.length → (mget (namM l i) s).getD false = twiB l i s
  | 0, _ => by simp [namM, mget, twiB]
  | i + 1, h => by
    have hlt : i < l.length := by omega
    have ih := namM_has (l := l) (s := s) i (by omega); unfold twiB at ih ⊢; rw [namM, mget_mset, List.take_succ_eq_append_getElem hlt, phA_eq hlt, List.any_append]; by_cases hs : s = l[i].1
    · rw [if_pos hs, hs]; simp
    rw [if_neg hs, ih]; simp only [List.any_cons, List.any_nil, Bool.or_false]; rw [decide_eq_false (fun e => hs e.symm), Bool.or_false]
theorem head_m {l : List Pha} {i : Nat} (h : i < l.length) : [whenE (!nameB l[i].1) 8, whenE ((mget (namM l i) l[i].1).getD false) 9, rangeE l[i].2.1 0 1000, rangeE l[i].2.2.1 0 1000, whenE (decide (l[i].2.2.1 < l[i].2.1)) 11] = headP l i := by
  unfold headP; rw [phA_eq h, namM_has i (by omega)]
theorem befA_l {i : Nat} {b : List Int} {k : Nat} (h : k < b.length) : firstE [whenE (decide (b[k] < 0) || decide (((i : Nat) : Int) ≤ b[k])) 10, whenE (decide (b[k] ≤ lastB b k)) 11] = befA i b k := by
  unfold befA; rw [getDg h]
theorem lastB_s {b : List Int} {k : Nat} (h : k < b.length) : b[k] = lastB b (k + 1) := (getDg h).symm
theorem cPlan_ok {l : List (ByteArray × Int × Int × (List Int))} (hl : l.length < 100000) (hb : ∀ x ∈ l, x.2.2.2.length < 100000) : VF Tryz.prog OA 24 [.v y29 l] (I (planE l)) := by
  refine VF.enter Tryz.func24 rfl (fun _ _ => rfl) rfl ?_; show VC _ _ _ _ _ [(0, .v y29 l)] [] _; refine VC.seq (VC.text ?_); refine VO.c (.assign rfl) ?_; refine VO.go (VC.seq (VC.seq (VC.text ?_))); refine VO.c (.move rfl) ?_; refine VO.r (.len el29) ?_; refine VO.c (.gtr) (VO.go ?_); refine VC.condD rfl (fun c1 => ?_) (fun c1 => ?_)
  · refine VC.seq (VC.text ?_); refine VO.c (.assign rfl) (VO.go ?_); refine VC.ret ?_; exact VEnd.one rfl evT (pvI (by rw [planE, if_pos c1]))
  refine VC.skip (VC.seq (VC.text ?_)); refine VO.cell (.mkMap .str .bool) ?_; intro ww1; refine VO.c (.assign rfl) ?_; refine VO.go (VC.seq (VC.seq (VC.text ?_))); refine VO.c (.move rfl) ?_; refine VO.r (.len el29) ?_; refine VO.c (.move rfl) ?_; refine VO.go (VC.block ?_); refine VC.keep [(3, .raw ww1), (15, .v y29 l), (16, I ((l.length : Nat) : Int)), (17, I ((0 : Nat) : Int))] ⟨rfl, rfl, rfl, rfl, trivial⟩ ?_; refine VC.loop (I := fun kk ff ss => ∃ (i : Nat), kk = l.length - i ∧ ff = [(3, .raw ww1), (15, .v y29 l), (16, I ((l.length : Nat) : Int)), (17, I ((i : Nat) : Int))] ∧ ss = [(ww1, .mp .str .bool (namM l i))] ∧ (i ≤ l.length) ∧ (firstR (phaE l) 0 l.length = firstR (phaE l) i l.length)) ?_ _ _ _ ⟨0, rfl, rfl, rfl, Nat.zero_le _, (by rfl)⟩; rintro kk ff ss ⟨i, hk0, rfl, rfl, hi, hw⟩; refine VC.seq (VC.text ?_); refine VO.c (.lss) ?_; refine VO.go (VC.seq ?_); refine VC.condD rfl (fun c5 => ?_) (fun c5 => ?_)
  · have hlt : i < l.length := by omega
    have hm := head_m hlt
    have hbl : (phA l i).2.2.2 = l[i].2.2.2 := by rw [phA_eq hlt]
    have hbx := hb _ (List.getElem_mem hlt); refine VC.skip (VC.seq (VC.block (VC.seq (VC.text ?_)))); refine VO.c (.move rfl) (VO.c (.ix (j := i) rfl rfl el29 (by omega)) ?_); refine VO.r (.ld vt84) ?_; refine VO.cell (.alloc zt84) ?_; intro ww2; refine VO.c (.assign rfl) ?_; refine VO.setV (cs' := [St ((l[i]).1), I ((l[i]).2.1), I ((l[i]).2.2.1), .v y25 ((l[i]).2.2.2)]) vt84 .v ?_; refine VO.shut [(5, .p y84 (l[i]))] (.cons rfl (.var m0 .refl) .nil) ?_; refine VO.go (VC.seq (VC.seq (VC.drawn ?_))); refine VD.c (.fa (.l .o)) ?_; refine VD.r [] (.ld vt9) (.inl rfl) ?_; refine VD.call rfl rfl (VF.call (gName_ok )) ?_; refine VD.c (.not) ?_; refine VD.call rfl rfl (VF.call (cWhen_ok )) ?_; refine VD.c (.move rfl) (VD.nw [] (VD.c (.fa (.l .o)) ?_)); refine VD.r [] (.ld vt9) (.inl rfl) ?_; refine VD.r [(ww1, .mp .str .bool (namM l i))] (.lookO mt145 m0) (.inr ⟨rfl, rfl⟩) ?_; refine VD.call rfl rfl (VF.call (cWhen_ok )) ?_; refine VD.c (.fa (.r (.l .o))) ?_; refine VD.r [] (.ld vt3) (.inl rfl) ?_; refine VD.call rfl rfl (VF.call (cWithin_ok )) ?_; refine VD.nw [] (VD.c (.fa (.r (.r (.l .o)))) ?_); refine VD.r [] (.ld vt3) (.inl rfl) ?_; refine VD.call rfl rfl (VF.call (cWithin_ok )) ?_; refine VD.c (.fa (.r (.l .o))) ?_; refine VD.r [] (.ld vt3) (.inl rfl) ?_; refine VD.c (.fa (.r (.r (.l .o)))) ?_; refine VD.r [] (.ld vt3) (.inl rfl) ?_; refine VD.nw [] (VD.c (.gtr) ?_); refine VD.call rfl rfl (VF.call (cWhen_ok )) ?_; refine VD.new (.lit [whenE (!(nameB ((l[i]).1))) (8 : Int), whenE ((mget (namM l i) ((l[i]).1)).getD false) (9 : Int), rangeE ((l[i]).2.1) (0 : Int) (1000 : Int), rangeE ((l[i]).2.2.1) (0 : Int) (1000 : Int), whenE (decide ((l[i]).2.2.1 < (l[i]).2.1)) (11 : Int)] el154) ?_; refine VD.callO rfl rfl (VF.call (cFirst_ok (by simp))) ?_; refine VD.c (.assign rfl) ?_; refine VD.go (VC.seq ?_); refine VC.keep [(3, .raw ww1), (4, I ((i : Nat) : Int)), (5, .p y84 (l[i])), (6, I (firstE [whenE (!(nameB ((l[i]).1))) (8 : Int), whenE ((mget (namM l i) ((l[i]).1)).getD false) (9 : Int), rangeE ((l[i]).2.1) (0 : Int) (1000 : Int), rangeE ((l[i]).2.2.1) (0 : Int) (1000 : Int), whenE (decide ((l[i]).2.2.1 < (l[i]).2.1)) (11 : Int)])), (15, .v y29 l), (16, I ((l.length : Nat) : Int)), (17, I ((i : Nat) : Int))] ⟨rfl, rfl, rfl, rfl, rfl, rfl, rfl, trivial⟩ ?_; refine VC.text ?_; refine VO.c (.move rfl) (VO.c (.neq) (VO.go ?_)); refine VC.condD rfl (fun c8 => ?_) (fun c8 => ?_)
    · refine VC.seq (VC.text ?_); refine VO.c (.move rfl) (VO.c (.assign rfl) (VO.go ?_)); refine VC.ret ?_; exact VEnd.one rfl evT (pvI (by rw [plan_row c1 hw hlt (by rw [pha_h (by rw [← hm]; exact c8), ← hm]; exact c8), pha_h (by rw [← hm]; exact c8), ← hm]))
    have hz : firstE (headP l i) = 0 := by rw [← hm]; exact Classical.not_not.1 c8
    refine VC.skip (VC.seq (VC.text ?_)); refine VO.c (.move rfl) (VO.c (.fa (.l .o)) ?_); refine VO.r (.ld vt9) ?_; refine VO.mput mt145 ?_; refine VO.go (VC.seq (VC.text ?_)); refine VO.c (.assign rfl) ?_; refine VO.go (VC.seq (VC.text ?_)); refine VO.c (.fa (.r (.r (.r .o)))) ?_; refine VO.r (.ld vt25) ?_; refine VO.r (.len el25) ?_; refine VO.c (.move rfl) ?_; refine VO.go (VC.block ?_); refine VC.keep [(3, .raw ww1), (4, I ((i : Nat) : Int)), (7, I (lastB l[i].2.2.2 0)), (15, .v y29 l), (16, I ((l.length : Nat) : Int)), (17, I ((i : Nat) : Int)), (53, .v y25 ((l[i]).2.2.2)), (54, I ((((l[i]).2.2.2).length : Nat) : Int)), (55, I ((0 : Nat) : Int))] ⟨rfl, rfl, rfl, rfl, rfl, rfl, rfl, rfl, rfl, trivial⟩ ?_; refine VC.loop (I := fun kk ff ss => ∃ (k : Nat), kk = l[i].2.2.2.length - k ∧ ff = [(3, .raw ww1), (4, I ((i : Nat) : Int)), (7, I (lastB l[i].2.2.2 k)), (15, .v y29 l), (16, I ((l.length : Nat) : Int)), (17, I ((i : Nat) : Int)), (53, .v y25 ((l[i]).2.2.2)), (54, I ((((l[i]).2.2.2).length : Nat) : Int)), (55, I ((k : Nat) : Int))] ∧ ss = [(ww1, .mp .str .bool (mset (namM l i) ((l[i]).1) true))] ∧ (k ≤ l[i].2.2.2.length) ∧ (befE i (phA l i).2.2.2 = firstR (befA i (phA l i).2.2.2) k (phA l i).2.2.2.length)) ?_ _ _ _ ⟨0, rfl, rfl, rfl, (by omega), (by rfl)⟩; rintro kk ff ss ⟨k, hk2, rfl, rfl, hk, hbw⟩; refine VC.seq (VC.text ?_); refine VO.c (.lss) ?_; refine VO.go (VC.seq ?_); refine VC.condD rfl (fun c13 => ?_) (fun c13 => ?_)
    · have hk2 : k < l[i].2.2.2.length := by omega
      refine VC.skip (VC.seq (VC.block (VC.seq (VC.text ?_)))); refine VO.c (.ix (j := k) rfl rfl el25 (by omega)) ?_; refine VO.r (.ld vt3) ?_; refine VO.c (.assign rfl) ?_; refine VO.go (VC.seq (VC.seq ?_)); refine VC.join [(3, .raw ww1), (4, I ((i : Nat) : Int)), (9, I (((l[i]).2.2.2)[k])), (10, I (befA i (l[i]).2.2.2 k)), (15, .v y29 l), (16, I ((l.length : Nat) : Int)), (17, I ((i : Nat) : Int)), (53, .v y25 ((l[i]).2.2.2)), (54, I ((((l[i]).2.2.2).length : Nat) : Int)), (55, I ((k : Nat) : Int))] [(ww1, .mp .str .bool (mset (namM l i) ((l[i]).1) true))] ?_ ?_
      · skip
        refine VC.text ?_; refine VO.c (.move rfl) (VO.c (.lss) (VO.c (.move rfl) ?_)); refine VO.cg (r := decide (((l[i]).2.2.2)[k] < (0 : Int))) (w := false) [] trivial (fun _ => (.move rfl)) ?_; refine VO.cg (r := decide (((l[i]).2.2.2)[k] < (0 : Int))) (w := false) [] trivial (fun _ => (.move rfl)) ?_; refine VO.cg (r := decide (((l[i]).2.2.2)[k] < (0 : Int))) (w := false) [(62, I (((l[i]).2.2.2)[k])), (63, I ((i : Nat) : Int))] ⟨rfl, rfl, trivial⟩ (fun _ => (.geq)) ?_; refine VO.c (.or) ?_; refine VO.call rfl rfl (VF.call (cWhen_ok )) ?_; refine VO.c (.move rfl) (VO.c (.move rfl) (VO.c (.leq) ?_)); refine VO.call rfl rfl (VF.call (cWhen_ok )) ?_; refine VO.new (.lit [whenE ((decide (((l[i]).2.2.2)[k] < (0 : Int))) || (decide (((i : Nat) : Int) ≤ ((l[i]).2.2.2)[k]))) (10 : Int), whenE (decide (((l[i]).2.2.2)[k] ≤ (lastB l[i].2.2.2 k))) (11 : Int)] el154) ?_; refine VO.call rfl rfl (VF.call (cFirst_ok (by simp))) ?_; refine VO.c (.assign rfl) ?_; refine VO.nil ?_; exact ⟨⟨rfl, rfl, rfl, slI rfl (by exact befA_l hk2), rfl, rfl, rfl, rfl, rfl, rfl, trivial⟩, rfl⟩
      refine VC.seq (VC.text ?_); refine VO.c (.move rfl) (VO.c (.neq) (VO.go ?_)); refine VC.condD rfl (fun c16 => ?_) (fun c16 => ?_)
      · refine VC.seq (VC.text ?_); refine VO.c (.move rfl) (VO.c (.assign rfl) (VO.go ?_)); refine VC.ret ?_; exact VEnd.one rfl evT (pvI (by rw [plan_row c1 hw hlt (by rw [pha_b hz, bef_at hbw (by rw [hbl]; exact hk2) (by rw [hbl]; exact c16), hbl]; exact c16), pha_b hz, bef_at hbw (by rw [hbl]; exact hk2) (by rw [hbl]; exact c16), hbl]))
      refine VC.skip (VC.text ?_); refine VO.c (.move rfl) (VO.c (.assign rfl) ?_); refine VO.nil (VC.text ?_); refine VO.c (.add rfl rfl (by omega)) (VO.c (.move rfl) ?_); refine VO.nil ?_; refine ⟨_, [(3, .raw ww1), (4, I ((i : Nat) : Int)), (7, I (lastB l[i].2.2.2 (k + 1))), (15, .v y29 l), (16, I ((l.length : Nat) : Int)), (17, I ((i : Nat) : Int)), (53, .v y25 ((l[i]).2.2.2)), (54, I ((((l[i]).2.2.2).length : Nat) : Int)), (55, I (((k + 1) : Nat) : Int))], ?_, ⟨rfl, rfl, slI rfl (by exact lastB_s hk2), rfl, rfl, rfl, rfl, rfl, rfl, trivial⟩, (k + 1), rfl, rfl, rfl, (by omega), (by rw [hbw, firstR_step (by rw [hbl]; exact hk2), if_pos (by rw [hbl]; exact Classical.not_not.1 c16)])⟩; omega
    refine VC.exit (VC.text ?_); refine VO.c (.add rfl rfl (by omega)) (VO.c (.move rfl) ?_); refine VO.nil ?_; refine ⟨_, [(3, .raw ww1), (15, .v y29 l), (16, I ((l.length : Nat) : Int)), (17, I (((i + 1) : Nat) : Int))], ?_, ⟨rfl, rfl, rfl, rfl, trivial⟩, (i + 1), rfl, rfl, (by rw [namM, phA_eq hlt]), (by omega), (by rw [hw, firstR_step hlt, if_pos (by rw [pha_b hz, hbw, firstR_end (by rw [hbl]; omega)])])⟩; omega
  refine VC.exit (VC.seq (VC.text ?_)); refine VO.c (.assign rfl) (VO.go ?_); refine VC.ret ?_; exact VEnd.one rfl evT (pvI (by rw [planE, if_neg c1, hw, firstR_end (by omega)]))
theorem twi_f {l : List Pha} {i k : Nat} (hk : k < i) (hi : i < l.length) (h : (l[k]'(by omega)).1 = l[i].1) : twiB l i l[i].1 = true := List.any_eq_true.2 ⟨l[k]'(by omega), List.mem_iff_getElem.2 ⟨k, by rw [List.length_take]; omega, by rw [List.getElem_take]⟩, decide_eq_true h⟩
theorem twi_n {l : List Pha} {i : Nat} (hi : i < l.length) (h : ∀ k (hk : k < l.length), k < i → l[k].1 ≠ l[i].1) : twiB l i l[i].1 = false := by
  cases hb : twiB l i l[i].1 with
  | false => rfl
  | true =>
    obtain ⟨x, hx, he⟩ := List.any_eq_true.1 hb; obtain ⟨k, hk, rfl⟩ := List.mem_iff_getElem.1 hx; rw [List.length_take] at hk; rw [List.getElem_take] at he; exact absurd (of_decide_eq_true he) (h k (by omega) (by omega))
theorem head_1 {l : List Pha} {i : Nat} (hi : i < l.length) (h : whenE (!nameB l[i].1) 8 ≠ 0) : firstE (headP l i) = whenE (!nameB l[i].1) 8 := by
  unfold headP; rw [phA_eq hi]; exact if_neg h
theorem head_2 {l : List Pha} {i : Nat} (hi : i < l.length) (h : whenE (!nameB l[i].1) 8 = 0) (h2 : twiB l i l[i].1 = true) : firstE (headP l i) = 9 := by
  unfold headP; rw [phA_eq hi, h2]; exact (if_pos h).trans (if_neg (by decide))
theorem head_3 {l : List Pha} {i : Nat} (hi : i < l.length) (h : whenE (!nameB l[i].1) 8 = 0) (h2 : twiB l i l[i].1 = false) : firstE (headP l i) = firstE [rangeE l[i].2.1 0 1000, rangeE l[i].2.2.1 0 1000, whenE (decide (l[i].2.2.1 < l[i].2.1)) 11] := by
  unfold headP; rw [phA_eq hi, h2]; exact (if_pos h).trans (if_pos rfl)
theorem bef_u {i : Nat} {b : List Int} {k : Nat} (hk : k < b.length) (h : b[k] < 0 ∨ ((i : Nat) : Int) ≤ b[k]) : befA i b k = 10 := by
  rw [← befA_l hk]; rw [show (decide (b[k] < 0) || decide (((i : Nat) : Int) ≤ b[k])) = true by rcases h with h | h <;> simp [h]]; rfl
theorem bef_k {i : Nat} {b : List Int} {k : Nat} (hk : k < b.length) (h : ¬ b[k] < 0 ∧ ¬ ((i : Nat) : Int) ≤ b[k]) : befA i b k = if b[k] ≤ lastB b k then 11 else 0 := by
  rw [← befA_l hk, decide_eq_false h.1, decide_eq_false h.2]; by_cases h3 : b[k] ≤ lastB b k
  · rw [if_pos h3, decide_eq_true h3] <;> rfl
  rw [if_neg h3, decide_eq_false h3] <;> rfl
theorem plan_bef {l : List Pha} {i m : Nat} (hl : ¬ 16 < ((l.length : Nat) : Int)) (hw : firstR (phaE l) 0 l.length = firstR (phaE l) i l.length) (hi : i < l.length) (hz : firstE (headP l i) = 0) (hbw : befE i (phA l i).2.2.2 = firstR (befA i (phA l i).2.2.2) m (phA l i).2.2.2.length) (hm : m < l[i].2.2.2.length) (hne : befA i l[i].2.2.2 m ≠ 0) : planE l = befA i l[i].2.2.2 m := by
  have hbl : (phA l i).2.2.2 = l[i].2.2.2 := by rw [phA_eq hi]
  have h1 : befE i (phA l i).2.2.2 = befA i l[i].2.2.2 m := by
    rw [hbl] at hbw ⊢; exact bef_at hbw hm hne
  have h2 : phaE l i = befA i l[i].2.2.2 m := by rw [pha_b hz, h1]
  rw [plan_row hl hw hi (by rw [h2]; exact hne), h2]
theorem lastB_p {b : List Int} {m : Nat} (h0 : (0 : Int) < ((m : Nat) : Int)) (h : ((m : Nat) : Int).toNat - 1 < b.length) (hz : ((((m : Nat) : Int) - 1).toNat) < b.length) : b[(((m : Nat) : Int) - 1).toNat] = lastB b m := by
  cases m with
  | zero => simp at h0
  | succ m =>
    show _ = b.getD m 0; rw [getDg (by omega)]; congr 1; omega
theorem rPlan_ok {l : List (ByteArray × Int × Int × (List Int))} (hl : l.length < 100000) (hb : ∀ x ∈ l, x.2.2.2.length < 100000) : VF Tryz.prog OA 20 [.v y22 l] (I (planE l)) := by
  refine VF.enter Tryz.func20 rfl (fun _ _ => rfl) rfl ?_; show VC _ _ _ _ _ [(0, .v y22 l)] [] _; refine VC.seq (VC.text ?_); refine VO.c (.assign rfl) ?_; refine VO.go (VC.seq (VC.seq (VC.text ?_))); refine VO.c (.move rfl) ?_; refine VO.r (.len el22) ?_; refine VO.c (.gtr) (VO.go ?_); refine VC.condD rfl (fun c1 => ?_) (fun c1 => ?_)
  · refine VC.seq (VC.text ?_); refine VO.c (.assign rfl) (VO.go ?_); refine VC.ret ?_; exact VEnd.one rfl evT (pvI (by rw [planE, if_pos c1]))
  refine VC.skip (VC.seq (VC.seq (VC.text ?_))); refine VO.c (.assign rfl) ?_; refine VO.go (VC.block ?_); refine VC.keep [(0, .v y22 l), (3, I ((0 : Nat) : Int))] ⟨rfl, rfl, trivial⟩ ?_; refine VC.loop (I := fun kk ff ss => ∃ (i : Nat), kk = l.length - i ∧ ff = [(0, .v y22 l), (3, I ((i : Nat) : Int))] ∧ ss = [] ∧ (i ≤ l.length) ∧ (firstR (phaE l) 0 l.length = firstR (phaE l) i l.length)) ?_ _ _ _ ⟨0, rfl, rfl, rfl, Nat.zero_le _, (by rfl)⟩; rintro kk ff ss ⟨i, hk0, rfl, rfl, hi, hw⟩; refine VC.seq (VC.seq (VC.text ?_)); refine VO.c (.move rfl) (VO.c (.move rfl) ?_); refine VO.r (.len el22) ?_; refine VO.c (.lss) (VO.go ?_); refine VC.condD rfl (fun c4 => ?_) (fun c4 => ?_)
  · have hlt : i < l.length := by omega
    have hbl : (phA l i).2.2.2 = l[i].2.2.2 := by rw [phA_eq hlt]
    have hbx := hb _ (List.getElem_mem hlt); refine VC.skip (VC.seq (VC.block (VC.seq (VC.text ?_)))); refine VO.c (.move rfl) (VO.c (.move rfl) (VO.c (.ix (j := i) rfl rfl el22 (by omega)) ?_)); refine VO.r (.ld vt80) ?_; refine VO.cell (.alloc zt80) ?_; intro ww3; refine VO.setV (cs' := [St ((l[i]).1), I ((l[i]).2.1), I ((l[i]).2.2.1), .v y25 ((l[i]).2.2.2)]) vt80 .v ?_; refine VO.shut [(4, .p y80 (l[i]))] (.cons rfl (.var m0 .refl) .nil) ?_; refine VO.go (VC.seq (VC.seq (VC.text ?_))); refine VO.c (.fa (.l .o)) ?_; refine VO.r (.ld vt9) ?_; refine VO.call rfl rfl (VF.call (rNameE_ok )) ?_; refine VO.c (.assign rfl) ?_; refine VO.go (VC.seq (VC.text ?_)); refine VO.c (.move rfl) (VO.c (.neq) (VO.go ?_)); refine VC.condD rfl (fun c8 => ?_) (fun c8 => ?_)
    · refine VC.seq (VC.text ?_); refine VO.c (.move rfl) (VO.c (.assign rfl) (VO.go ?_)); refine VC.ret ?_; exact VEnd.one rfl evT (pvI (by rw [plan_row c1 hw hlt (by rw [pha_h (by rw [head_1 hlt c8]; exact c8), head_1 hlt c8]; exact c8), pha_h (by rw [head_1 hlt c8]; exact c8), head_1 hlt c8]))
    have hn := Classical.not_not.1 c8; refine VC.skip (VC.seq (VC.seq (VC.text ?_))); refine VO.c (.assign rfl) ?_; refine VO.go (VC.block ?_); refine VC.keep [(0, .v y22 l), (3, I ((i : Nat) : Int)), (4, .p y80 (l[i])), (6, I ((0 : Nat) : Int))] ⟨rfl, rfl, rfl, rfl, trivial⟩ ?_; refine VC.loop (I := fun kk ff ss => ∃ (k : Nat), kk = i - k ∧ ff = [(0, .v y22 l), (3, I ((i : Nat) : Int)), (4, .p y80 (l[i])), (6, I ((k : Nat) : Int))] ∧ ss = [] ∧ (k ≤ i) ∧ (∀ j (hj : j < l.length), j < k → l[j].1 ≠ l[i].1)) ?_ _ _ _ ⟨0, rfl, rfl, rfl, Nat.zero_le _, (by intro j hj h; omega)⟩; rintro kk ff ss ⟨k, hk2, rfl, rfl, hk, hq⟩; refine VC.seq (VC.seq (VC.text ?_)); refine VO.c (.move rfl) (VO.c (.move rfl) (VO.c (.lss) (VO.go ?_))); refine VC.condD rfl (fun c11 => ?_) (fun c11 => ?_)
    · refine VC.skip (VC.seq (VC.block (VC.seq (VC.drawn ?_)))); refine VD.c (.move rfl) (VD.c (.move rfl) (VD.c (.ix (j := k) rfl rfl el22 (by omega)) (VD.c (.fa (.l .o)) ?_))); refine VD.r [] (.ld vt9) (.inl rfl) ?_; refine VD.c (.fa (.l .o)) (VD.nw [] ?_); refine VD.r [] (.ld vt9) (.inl rfl) ?_; refine VD.c (.seql) (VD.go ?_); refine VC.condD rfl (fun c13 => ?_) (fun c13 => ?_)
      · have h9 := head_2 hlt hn (twi_f (show k < i by omega) hlt c13); refine VC.seq (VC.text ?_); refine VO.c (.assign rfl) (VO.go ?_); refine VC.ret ?_; exact VEnd.one rfl evT (pvI (by rw [plan_row c1 hw hlt (by rw [pha_h (by rw [h9]; decide), h9]; decide), pha_h (by rw [h9]; decide), h9]))
      refine VC.skip (VC.text ?_); refine VO.c (.move rfl) (VO.c (.add rfl rfl (by omega)) (VO.c (.assign rfl) ?_)); refine VO.nil ?_; refine ⟨_, [(0, .v y22 l), (3, I ((i : Nat) : Int)), (4, .p y80 (l[i])), (6, I (((k + 1) : Nat) : Int))], ?_, ⟨rfl, rfl, rfl, rfl, trivial⟩, (k + 1), rfl, rfl, rfl, (by omega), (by intro j hj h; rcases Nat.lt_succ_iff_lt_or_eq.1 h with h | h; exact hq j hj h; subst h; exact c13)⟩; omega
    have h8 := head_3 hlt hn (twi_n hlt fun j hj h => hq j hj (by omega)); refine VC.exit (VC.seq (VC.seq (VC.drawn ?_))); refine VD.c (.fa (.r (.l .o))) ?_; refine VD.r [] (.ld vt3) (.inl rfl) ?_; refine VD.call rfl rfl (VF.call (rCheckRange_ok )) ?_; refine VD.c (.fa (.r (.r (.l .o)))) ?_; refine VD.r [] (.ld vt3) (.inl rfl) ?_; refine VD.call rfl rfl (VF.call (rCheckRange_ok )) ?_; refine VD.nw [] (VD.c (.fa (.r (.l .o))) ?_); refine VD.r [] (.ld vt3) (.inl rfl) ?_; refine VD.c (.fa (.r (.r (.l .o)))) ?_; refine VD.r [] (.ld vt3) (.inl rfl) ?_; refine VD.c (.gtr) ?_; refine VD.call rfl rfl (VF.call (rWhen_ok )) ?_; refine VD.new (.lit [rangeE ((l[i]).2.1) (0 : Int) (1000 : Int), rangeE ((l[i]).2.2.1) (0 : Int) (1000 : Int), whenE (decide ((l[i]).2.2.1 < (l[i]).2.1)) (11 : Int)] el25) ?_; refine VD.nw [53] ?_; refine VD.callO rfl rfl (VF.call (rFirst_ok (by simp))) ?_; refine VD.c (.assign rfl) ?_; refine VD.go (VC.seq (VC.text ?_)); refine VO.c (.move rfl) (VO.c (.neq) (VO.go ?_)); refine VC.condD rfl (fun c16 => ?_) (fun c16 => ?_)
    · refine VC.seq (VC.text ?_); refine VO.c (.move rfl) (VO.c (.assign rfl) (VO.go ?_)); refine VC.ret ?_; exact VEnd.one rfl evT (pvI (by rw [plan_row c1 hw hlt (by rw [pha_h (by rw [h8]; exact c16), h8]; exact c16), pha_h (by rw [h8]; exact c16), h8]))
    have hz : firstE (headP l i) = 0 := by rw [h8]; exact Classical.not_not.1 c16
    refine VC.skip (VC.seq (VC.text ?_)); refine VO.c (.assign rfl) ?_; refine VO.go (VC.block ?_); refine VC.keep [(0, .v y22 l), (3, I ((i : Nat) : Int)), (4, .p y80 (l[i])), (8, I ((0 : Nat) : Int))] ⟨rfl, rfl, rfl, rfl, trivial⟩ ?_; refine VC.loop (I := fun kk ff ss => ∃ (m : Nat), kk = l[i].2.2.2.length - m ∧ ff = [(0, .v y22 l), (3, I ((i : Nat) : Int)), (4, .p y80 (l[i])), (8, I ((m : Nat) : Int))] ∧ ss = [] ∧ (m ≤ l[i].2.2.2.length) ∧ (befE i (phA l i).2.2.2 = firstR (befA i (phA l i).2.2.2) m (phA l i).2.2.2.length)) ?_ _ _ _ ⟨0, rfl, rfl, rfl, (by omega), (by rfl)⟩; rintro kk ff ss ⟨m, hk4, rfl, rfl, hm, hbw⟩; refine VC.seq (VC.seq (VC.text ?_)); refine VO.c (.move rfl) (VO.c (.fa (.r (.r (.r .o)))) ?_); refine VO.r (.ld vt25) ?_; refine VO.r (.len el25) ?_; refine VO.c (.lss) (VO.go ?_); refine VC.condD rfl (fun c19 => ?_) (fun c19 => ?_)
    · have hm2 : m < l[i].2.2.2.length := by omega
      refine VC.skip (VC.seq (VC.block (VC.seq (VC.seq (VC.text ?_))))); refine VO.c (.fa (.r (.r (.r .o)))) ?_; refine VO.r (.ld vt25) ?_; refine VO.c (.move rfl) (VO.c (.ix (j := m) rfl rfl el25 (by omega)) ?_); refine VO.r (.ld vt3) ?_; refine VO.c (.lss) (VO.c (.move rfl) ?_); refine VO.cg (r := decide (((l[i]).2.2.2)[m] < (0 : Int))) (w := false) [] trivial (fun _ => (.fa (.r (.r (.r (k := 0) .o))))) ?_; refine VO.rg (r := decide (((l[i]).2.2.2)[m] < (0 : Int))) (w := false) [(72, .p y25 ((l[i]).2.2.2))] ⟨rfl, trivial⟩ (fun _ => (.ld vt25)) ?_; refine VO.cg (r := decide (((l[i]).2.2.2)[m] < (0 : Int))) (w := false) [] trivial (fun _ => (.move rfl)) ?_; refine VO.cg (r := decide (((l[i]).2.2.2)[m] < (0 : Int))) (w := false) [(73, .v y25 ((l[i]).2.2.2)), (74, I ((m : Nat) : Int))] ⟨rfl, rfl, trivial⟩ (fun hgd => have g21_6 : ¬ (((l[i]).2.2.2)[m] < (0 : Int)) := (by simpa using hgd); (.ixD (j := m) rfl rfl 0 el25 (by omega))) ?_; refine VO.rg (r := decide (((l[i]).2.2.2)[m] < (0 : Int))) (w := false) [(75, .p (.int .i64) (((l[i]).2.2.2).getD m 0))] ⟨rfl, trivial⟩ (fun _ => (.ld vt3)) ?_; refine VO.cg (r := decide (((l[i]).2.2.2)[m] < (0 : Int))) (w := false) [] trivial (fun _ => (.move rfl)) ?_; refine VO.cg (r := decide (((l[i]).2.2.2)[m] < (0 : Int))) (w := false) [(76, I (((l[i]).2.2.2).getD m 0)), (77, I ((i : Nat) : Int))] ⟨rfl, rfl, trivial⟩ (fun _ => (.geq)) ?_; refine VO.c (.or) (VO.go ?_); refine VC.condB rfl (fun c21 => ?_) (fun c21 => ?_)
      · try simp only [Bool.and_eq_true, Bool.or_eq_true, Bool.and_eq_false_iff, Bool.or_eq_false_iff, Bool.not_eq_true', Bool.not_eq_false', decide_eq_true_eq, decide_eq_false_iff_not] at c21
        have hu : (l[i].2.2.2[m] < 0 ∨ ((i : Nat) : Int) ≤ l[i].2.2.2[m]) := by rw [getDg hm2] at c21; exact c21
        refine VC.seq (VC.text ?_); refine VO.c (.assign rfl) (VO.go ?_); refine VC.ret ?_; exact VEnd.one rfl evT (pvI (by rw [plan_bef c1 hw hlt hz hbw hm2 (by rw [bef_u hm2 hu]; decide), bef_u hm2 hu]))
      try simp only [Bool.and_eq_true, Bool.or_eq_true, Bool.and_eq_false_iff, Bool.or_eq_false_iff, Bool.not_eq_true', Bool.not_eq_false', decide_eq_true_eq, decide_eq_false_iff_not] at c21
      have hu : (¬ l[i].2.2.2[m] < 0 ∧ ¬ ((i : Nat) : Int) ≤ l[i].2.2.2[m]) := by rw [getDg hm2] at c21; exact c21
      refine VC.skip (VC.seq ?_); refine VC.join [(0, .v y22 l), (3, I ((i : Nat) : Int)), (4, .p y80 (l[i])), (8, I ((m : Nat) : Int)), (95, B (decide ((l[i]).2.2.2[m] ≤ lastB (l[i]).2.2.2 m)))] [] ?_ ?_
      · skip
        refine VC.drawn ?_; refine VD.c (.move rfl) (VD.c (.gtr) (VD.c (.move rfl) ?_)); refine VD.splitD (x := 82) rfl (fun g23_2 => ?_) (fun g23_2 => ?_)
        · refine VD.c (.fa (.r (.r (.r .o)))) ?_; refine VD.r [] (.ld vt25) (.inl rfl) ?_; refine VD.nw [] (VD.c (.move rfl) (VD.c (.ix (j := m) rfl rfl el25 (by omega)) ?_)); refine VD.r [] (.ld vt3) (.inl rfl) ?_; refine VD.c (.fa (.r (.r (.r .o)))) ?_; refine VD.r [] (.ld vt25) (.inl rfl) ?_; refine VD.c (.move rfl) (VD.c (.sub rfl rfl (by omega)) (VD.nw [] (VD.c (.ixZ (k := (((m : Nat) : Int) - (1 : Int))) rfl rfl el25 (by omega) (by omega)) ?_))); refine VD.r [] (.ld vt3) (.inl rfl) ?_; refine VD.c (.leq) (VD.c (.pickT rfl rfl) ?_); refine VD.nil ?_; exact ⟨⟨rfl, rfl, rfl, rfl, slE rfl (by first | (rw [← lastB_p g23_2 (by omega) (by omega)]) | (have e : m = 0 := (by omega); subst e; exact (decide_eq_false (fun h => hu.1 (by have h : _ ≤ (-1 : Int) := h; omega))).symm)), trivial⟩, rfl⟩
        refine VD.skip (VD.skip (VD.nw [] (VD.skip ?_))); refine VD.skip (VD.skip (VD.skip (VD.skip ?_))); refine VD.skip (VD.skip (VD.nw [] (VD.skip ?_))); refine VD.skip (VD.skip (VD.c (.pickF rfl rfl) ?_)); refine VD.nil ?_; exact ⟨⟨rfl, rfl, rfl, rfl, slE rfl (by first | (rw [← lastB_p g23_2 (by omega) (by omega)]) | (have e : m = 0 := (by omega); subst e; exact (decide_eq_false (fun h => hu.1 (by have h : _ ≤ (-1 : Int) := h; omega))).symm)), trivial⟩, rfl⟩
      refine VC.condB rfl (fun c23 => ?_) (fun c23 => ?_)
      · try simp only [Bool.and_eq_true, Bool.or_eq_true, Bool.and_eq_false_iff, Bool.or_eq_false_iff, Bool.not_eq_true', Bool.not_eq_false', decide_eq_true_eq, decide_eq_false_iff_not] at c23
        refine VC.seq (VC.text ?_); refine VO.c (.assign rfl) (VO.go ?_); refine VC.ret ?_; exact VEnd.one rfl evT (pvI (by rw [plan_bef c1 hw hlt hz hbw hm2 (by rw [bef_k hm2 hu, if_pos c23]; decide), bef_k hm2 hu, if_pos c23]))
      try simp only [Bool.and_eq_true, Bool.or_eq_true, Bool.and_eq_false_iff, Bool.or_eq_false_iff, Bool.not_eq_true', Bool.not_eq_false', decide_eq_true_eq, decide_eq_false_iff_not] at c23
      have hlb : ¬ l[i].2.2.2[m] ≤ lastB l[i].2.2.2 m := c23; refine VC.skip (VC.text ?_); refine VO.c (.move rfl) (VO.c (.add rfl rfl (by omega)) (VO.c (.assign rfl) ?_)); refine VO.nil ?_; refine ⟨_, [(0, .v y22 l), (3, I ((i : Nat) : Int)), (4, .p y80 (l[i])), (8, I (((m + 1) : Nat) : Int))], ?_, ⟨rfl, rfl, rfl, rfl, trivial⟩, (m + 1), rfl, rfl, rfl, (by omega), (by rw [hbw, firstR_step (by rw [hbl]; exact hm2), if_pos (by rw [hbl, bef_k hm2 hu, if_neg hlb])])⟩; omega
    refine VC.exit (VC.text ?_); refine VO.c (.move rfl) (VO.c (.add rfl rfl (by omega)) (VO.c (.assign rfl) ?_)); refine VO.nil ?_; refine ⟨_, [(0, .v y22 l), (3, I (((i + 1) : Nat) : Int))], ?_, ⟨rfl, rfl, trivial⟩, (i + 1), rfl, rfl, rfl, (by omega), (by rw [hw, firstR_step hlt, if_pos (by rw [pha_b hz, hbw, firstR_end (by rw [hbl]; omega)])])⟩; omega
  refine VC.exit (VC.seq (VC.text ?_)); refine VO.c (.assign rfl) (VO.go ?_); refine VC.ret ?_; exact VEnd.one rfl evT (pvI (by rw [planE, if_neg c1, hw, firstR_end (by omega)]))
end Go.Proofs
namespace Go.Proofs
open Go.Fs
set_option maxHeartbeats 1000000
theorem zt3 : ZerT Tryz.prog 3 (.int .i64) := zerT_of (z := .int .i64 0) (by kernel_rfl) rfl rfl
structure PlanOk (l : List Pha) : Prop where
  len : l.length ≤ 16
  dur : ∀ i, i < l.length → 0 ≤ (phA l i).2.1 ∧ (phA l i).2.1 ≤ (phA l i).2.2.1 ∧ (phA l i).2.2.1 ≤ 1000
  bef : ∀ i, i < l.length → ∀ k, k < (phA l i).2.2.2.length → 0 ≤ (phA l i).2.2.2.getD k 0 ∧ (phA l i).2.2.2.getD k 0 < ((i : Nat) : Int) ∧ ∀ j, j < k → (phA l i).2.2.2.getD j 0 < (phA l i).2.2.2.getD k 0
theorem asc_ge {b : List Int} {n : Nat} (h : ∀ k, k < n → 0 ≤ b.getD k 0 ∧ ∀ j, j < k → b.getD j 0 < b.getD k 0) : ∀ k, k < n → ((k : Nat) : Int) ≤ b.getD k 0
  | 0, hk => (h 0 hk).1
  | k + 1, hk => by
    have h1 := asc_ge h k (by omega); have h2 := (h (k + 1) hk).2 k (by omega); omega
theorem PlanOk.blen {l : List Pha} (hp : PlanOk l) {i : Nat} (hi : i < l.length) : (phA l i).2.2.2.length ≤ i := by
  by_cases h0 : (phA l i).2.2.2.length = 0
  · omega
  have h1 := asc_ge (fun k hk => ⟨(hp.bef i hi k hk).1, (hp.bef i hi k hk).2.2⟩) ((phA l i).2.2.2.length - 1) (by omega); have h2 := (hp.bef i hi ((phA l i).2.2.2.length - 1) (by omega)).2.1; omega
theorem befA_ok {i : Nat} {b : List Int} {k : Nat} (h : befA i b k = 0) : 0 ≤ b.getD k 0 ∧ b.getD k 0 < ((i : Nat) : Int) ∧ lastB b k < b.getD k 0 := by
  have h := firstE_zero.1 h; have h1 := (whenE_zero (by decide)).1 (h _ List.mem_cons_self); have h2 := of_decide_eq_false ((whenE_zero (by decide)).1 (h _ (List.mem_cons_of_mem _ List.mem_cons_self))); obtain ⟨h3, h4⟩ := Bool.or_eq_false_iff.1 h1; have h3 := of_decide_eq_false h3; have h4 := of_decide_eq_false h4; omega
theorem asc_of {b : List Int} {k : Nat} (h : ∀ j, j ≤ k → lastB b j < b.getD j 0) : ∀ j, j < k → b.getD j 0 < b.getD k 0 := by
  induction k with
  | zero => intro j hj; omega
  | succ k ih =>
    intro j hj; have h1 : b.getD k 0 < b.getD (k + 1) 0 := h (k + 1) (Nat.le_refl _); by_cases e : j = k
    · subst e; exact h1
    have := ih (fun q hq => h q (by omega)) j (by omega); omega
theorem plan_ok {l : List Pha} (h : planE l = 0) : PlanOk l := by
  unfold planE at h; by_cases hl : 16 < ((l.length : Nat) : Int)
  · rw [if_pos hl] at h; cases h
  rw [if_neg hl] at h; have h := firstR_zero.1 h
  have hp : ∀ i, i < l.length → firstE (headP l i) = 0 ∧ befE i (phA l i).2.2.2 = 0 := fun i hi => by
    have h1 := h i hi; by_cases h2 : firstE (headP l i) = 0
    · rw [pha_b h2] at h1; exact ⟨h2, h1⟩
    rw [pha_h h2] at h1; exact absurd h1 h2
  refine ⟨by omega, fun i hi => ?_, fun i hi k hk => ?_⟩
  · have h1 := firstE_zero.1 (hp i hi).1; have h2 := rangeE_zero.1 (h1 (rangeE (phA l i).2.1 0 1000) (by simp [headP])); have h3 := rangeE_zero.1 (h1 (rangeE (phA l i).2.2.1 0 1000) (by simp [headP])); have h4 := of_decide_eq_false ((whenE_zero (by decide)).1 (h1 (whenE (decide ((phA l i).2.2.1 < (phA l i).2.1)) 11) (by simp [headP]))); omega
  have h1 := firstR_zero.1 (hp i hi).2; have h2 := befA_ok (h1 k hk); exact ⟨h2.1, h2.2.1, asc_of fun j hj => (befA_ok (h1 j (by omega))).2.2⟩
def begE (es b : List Int) : Nat → Int
  | 0 => 0
  | k + 1 => max (begE es b k) (es.getD (b.getD k 0).toNat 0)
def endL (d : Pha → Int) (l : List Pha) : Nat → List Int
  | 0 => []
  | i + 1 => endL d l i ++ [begE (endL d l i) (phA l i).2.2.2 (phA l i).2.2.2.length + d (phA l i)]
def begF (d : Pha → Int) (l : List Pha) (i : Nat) : Int := begE (endL d l i) (phA l i).2.2.2 (phA l i).2.2.2.length
def endF (d : Pha → Int) (l : List Pha) (i : Nat) : Int := begF d l i + d (phA l i)
def begL (d : Pha → Int) (l : List Pha) (i : Nat) : List Int := (List.range i).map (begF d l)
theorem endL_eq {d : Pha → Int} {l : List Pha} : ∀ i, endL d l i = (List.range i).map (endF d l)
  | 0 => rfl
  | i + 1 => by
    rw [List.range_succ, List.map_append, ← endL_eq i] <;> rfl
theorem endL_len {d : Pha → Int} {l : List Pha} {i : Nat} : (endL d l i).length = i := by rw [endL_eq]; simp
theorem begL_len {d : Pha → Int} {l : List Pha} {i : Nat} : (begL d l i).length = i := by simp [begL]
theorem begL_succ {d : Pha → Int} {l : List Pha} {i : Nat} : begL d l (i + 1) = begL d l i ++ [begF d l i] := by
  unfold begL; rw [List.range_succ, List.map_append] <;> rfl
theorem endL_get {d : Pha → Int} {l : List Pha} {i p : Nat} (h : p < i) : (endL d l i).getD p 0 = endF d l p := by
  rw [endL_eq, getDg (by simpa using h)]; simp
theorem begL_get {d : Pha → Int} {l : List Pha} {i p : Nat} (h : p < i) : (begL d l i).getD p 0 = begF d l p := by
  unfold begL; rw [getDg (by simpa using h)]; simp
theorem endL_big {d : Pha → Int} {l : List Pha} {i p : Nat} (h : i ≤ p) : (endL d l i).getD p 0 = 0 := by
  rw [List.getD_eq_getElem?_getD, List.getElem?_eq_none (by rw [endL_len]; exact h)] <;> rfl
theorem begE_b {es b : List Int} {M : Int} (hM : 0 ≤ M) (h : ∀ p, 0 ≤ es.getD p 0 ∧ es.getD p 0 ≤ M) : ∀ k, 0 ≤ begE es b k ∧ begE es b k ≤ M
  | 0 => ⟨Int.le_refl _, hM⟩
  | k + 1 => by
    have h1 := begE_b hM h (b := b) k; have h2 := h (b.getD k 0).toNat; show 0 ≤ max _ _ ∧ max _ _ ≤ M; omega
def DurOk (d : Pha → Int) (l : List Pha) : Prop := ∀ i, i < l.length → 0 ≤ d (phA l i) ∧ d (phA l i) ≤ 1000
theorem end_b {d : Pha → Int} {l : List Pha} (hd : DurOk d l) : ∀ i, i ≤ l.length → ∀ p, 0 ≤ (endL d l i).getD p 0 ∧ (endL d l i).getD p 0 ≤ 1000 * ((i : Nat) : Int)
  | 0, _, p => ⟨by simp [endL], by simp [endL]⟩
  | i + 1, h, p => by
    have ih := end_b hd i (by omega); by_cases hp : p < i
    · have := ih p; rw [endL_get hp] at this; rw [endL_get (by omega)]; omega
    by_cases e : p = i
    · subst e; rw [endL_get (by omega)]; have h1 := begE_b (b := (phA l p).2.2.2) (by omega) ih (phA l p).2.2.2.length; have h2 := hd p (by omega); show 0 ≤ begE _ _ _ + _ ∧ begE _ _ _ + _ ≤ _; omega
    rw [endL_big (by omega)]; omega
theorem beg_b {d : Pha → Int} {l : List Pha} (hd : DurOk d l) {i : Nat} (h : i ≤ l.length) (k : Nat) : 0 ≤ begE (endL d l i) (phA l i).2.2.2 k ∧ begE (endL d l i) (phA l i).2.2.2 k ≤ 1000 * ((i : Nat) : Int) := begE_b (by omega) (end_b hd i h) k
def dE (long : Bool) (x : Pha) : Int := bif long then x.2.2.1 else x.2.1
theorem dur_ok {l : List Pha} (h : PlanOk l) (long : Bool) : DurOk (dE long) l := fun i hi => by
  have := h.dur i hi
  cases long with
  | true => show 0 ≤ (phA l i).2.2.1 ∧ (phA l i).2.2.1 ≤ 1000; omega
  | false => show 0 ≤ (phA l i).2.1 ∧ (phA l i).2.1 ≤ 1000; omega
def fillL (A : List Int) (n : Nat) : List Int := A ++ List.replicate (n - A.length) 0
theorem fill_len {A : List Int} {n : Nat} (h : A.length ≤ n) : (fillL A n).length = n := by simp [fillL]; omega
theorem fill_get {A : List Int} {n p : Nat} (h : p < A.length) : (fillL A n).getD p 0 = A.getD p 0 := by
  unfold fillL; rw [List.getD_eq_getElem?_getD, List.getElem?_append_left h, ← List.getD_eq_getElem?_getD]
theorem fill_big {A : List Int} {n p : Nat} (h : A.length ≤ p) : (fillL A n).getD p 0 = 0 := by
  unfold fillL; rw [List.getD_eq_getElem?_getD, List.getElem?_append_right h, List.getElem?_replicate]; split <;> rfl
theorem fill_set {A : List Int} {n : Nat} (h : A.length < n) (v : Int) : (fillL A n).set A.length v = fillL (A ++ [v]) n := by
  unfold fillL; rw [List.set_append_right _ _ (Nat.le_refl _), Nat.sub_self, show n - A.length = (n - (A ++ [v]).length) + 1 by simp; omega, List.replicate_succ]; simp
theorem fill_full {A : List Int} {n : Nat} (h : A.length = n) : fillL A n = A := by
  unfold fillL; rw [h, Nat.sub_self]; simp
theorem set_get0 {A : List Int} {n i : Nat} (h : A.length = i) (hn : i < n) : (fillL A n).set i 0 = fillL A n := by
  refine List.ext_getElem (by simp) fun j h1 h2 => ?_; rw [List.getElem_set]; split
  · rename_i e; subst e; rw [← getDg (d := 0) h2, fill_big (by omega)]
  rfl
def begW (d : Pha → Int) (l : List Pha) (i k : Nat) : List Int := (fillL (begL d l i) l.length).set i (begE (endL d l i) (phA l i).2.2.2 k)
theorem begW_len {d : Pha → Int} {l : List Pha} {i k : Nat} (h : i ≤ l.length) : (begW d l i k).length = l.length := by
  unfold begW; rw [List.length_set, fill_len (by rw [begL_len]; exact h)]
theorem begW_get {d : Pha → Int} {l : List Pha} {i k : Nat} (h : i < l.length) (h2 : i < (begW d l i k).length) : (begW d l i k)[i] = begE (endL d l i) (phA l i).2.2.2 k := by
  unfold begW at h2 ⊢; rw [List.getElem_set_self]
theorem begW_0 {d : Pha → Int} {l : List Pha} {i : Nat} (h : i < l.length) : begW d l i 0 = fillL (begL d l i) l.length := set_get0 begL_len h
theorem begW_step {d : Pha → Int} {l : List Pha} {i k : Nat} (hp : PlanOk l) (h : i < l.length) (hk : k < l[i].2.2.2.length) {x y : Int} (hx : x = begE (endL d l i) (phA l i).2.2.2 k) (hy : y = (fillL (endL d l i) l.length).getD (l[i].2.2.2[k]).toNat 0) : (begW d l i k).set i (max x y) = begW d l i (k + 1) := by
  unfold begW; rw [List.set_set]; congr 1; show _ = max _ _
  have hb : (phA l i).2.2.2 = l[i].2.2.2 := by rw [phA_eq h]
  have h1 := hp.bef i h k (by rw [hb]; exact hk); rw [hx, hy, hb, getDg hk]; rw [hb, getDg hk] at h1; rw [fill_get (by rw [endL_len]; omega)]
theorem begW_end {d : Pha → Int} {l : List Pha} {i k : Nat} (h : i < l.length) (hk : k = (phA l i).2.2.2.length) : begW d l i k = fillL (begL d l (i + 1)) l.length := by
  unfold begW; have := fill_set (A := begL d l i) (n := l.length) (by rw [begL_len]; exact h) (begE (endL d l i) (phA l i).2.2.2 k); rw [begL_len] at this; rw [this, begL_succ, hk] <;> rfl
theorem endW_set {d : Pha → Int} {l : List Pha} {i : Nat} (h : i < l.length) {v : Int} (hv : v = endF d l i) : (fillL (endL d l i) l.length).set i v = fillL (endL d l (i + 1)) l.length := by
  have := fill_set (A := endL d l i) (n := l.length) (by rw [endL_len]; exact h) v; rw [endL_len] at this; rw [this, hv] <;> rfl
theorem cLeast_ok {x : ByteArray × Int × Int × (List Int)} : VF Tryz.prog OA 82 [.v y84 x] (I x.2.1) := by
  refine VF.enter Tryz.func82 rfl (fun _ _ => rfl) rfl ?_; show VC _ _ _ _ _ [(0, .v y84 x)] [] _; refine VC.seq (VC.text ?_); refine VO.new (.box) ?_; refine VO.c (.assign rfl) ?_; refine VO.go (VC.seq (VC.text ?_)); refine VO.c (.fa (.r (.l .o))) ?_; refine VO.r (.ld vt3) ?_; refine VO.c (.assign rfl) (VO.go ?_); refine VC.ret ?_; exact VEnd.one rfl evT (pvI (by rfl))
theorem cMost_ok {x : ByteArray × Int × Int × (List Int)} : VF Tryz.prog OA 83 [.v y84 x] (I x.2.2.1) := by
  refine VF.enter Tryz.func83 rfl (fun _ _ => rfl) rfl ?_; show VC _ _ _ _ _ [(0, .v y84 x)] [] _; refine VC.seq (VC.text ?_); refine VO.new (.box) ?_; refine VO.c (.assign rfl) ?_; refine VO.go (VC.seq (VC.text ?_)); refine VO.c (.fa (.r (.r (.l .o)))) ?_; refine VO.r (.ld vt3) ?_; refine VO.c (.assign rfl) (VO.go ?_); refine VC.ret ?_; exact VEnd.one rfl evT (pvI (by rfl))
theorem cStarts_ok {F : Pha → Int} {l : List (ByteArray × Int × Int × (List Int))} {f : PV} (hp : PlanOk l) (hd : DurOk F l) (hf : ∀ x ∈ l, VCall Tryz.prog OA f [.v y84 x] (I (F x))) : VF Tryz.prog OA 84 [.v y29 l, f] (.tup [.v y25 (begL F l l.length), .v y25 (endL F l l.length)]) := by
  refine VF.enter Tryz.func84 rfl (fun _ _ => rfl) rfl ?_; show VC _ _ _ _ _ [(0, .v y29 l), (1, f)] [] _; refine VC.seq (VC.text ?_); have hlen := hp.len; refine VO.c (.assign rfl) (VO.c (.assign rfl) ?_); refine VO.go (VC.seq (VC.text ?_)); refine VO.c (.move rfl) ?_; refine VO.r (.len el29) ?_; refine VO.cell (.make (k := l.length) rfl rfl el25 zt3 (by omega)) ?_; intro ww1; refine VO.c (.assign rfl) ?_; refine VO.go (VC.seq (VC.text ?_)); refine VO.c (.move rfl) ?_; refine VO.r (.len el29) ?_; refine VO.cell (.make (k := l.length) rfl rfl el25 zt3 (by omega)) ?_; intro ww2; refine VO.c (.assign rfl) ?_; refine VO.go (VC.seq (VC.seq (VC.text ?_))); refine VO.c (.move rfl) ?_; refine VO.r (.len el29) ?_; refine VO.c (.move rfl) ?_; refine VO.go (VC.block ?_); refine VC.keep [(1, f), (6, .raw ww1), (7, .raw ww2), (18, .v y29 l), (19, I ((l.length : Nat) : Int)), (20, I ((0 : Nat) : Int))] ⟨rfl, rfl, rfl, rfl, rfl, rfl, trivial⟩ ?_; refine VC.loop (I := fun kk ff ss => ∃ (i : Nat), kk = l.length - i ∧ ff = [(1, f), (6, .raw ww1), (7, .raw ww2), (18, .v y29 l), (19, I ((l.length : Nat) : Int)), (20, I ((i : Nat) : Int))] ∧ ss = [(ww2, .row 3 (.int .i64) (fillL (endL F l i) l.length)), (ww1, .row 3 (.int .i64) (fillL (begL F l i) l.length))] ∧ (i ≤ l.length)) ?_ _ _ _ ⟨0, rfl, rfl, (by rfl), Nat.zero_le _⟩; rintro kk ff ss ⟨i, hk0, rfl, rfl, hi⟩; refine VC.seq (VC.text ?_); refine VO.c (.lss) ?_; refine VO.go (VC.seq ?_); refine VC.condD rfl (fun c4 => ?_) (fun c4 => ?_)
  · have hlt : i < l.length := by omega
    have hbl : (phA l i).2.2.2 = l[i].2.2.2 := by rw [phA_eq hlt]
    have hbf := hp.bef i hlt; rw [hbl] at hbf; have hbn := hp.blen hlt; rw [hbl] at hbn; have hd2 := hd i hlt; rw [phA_eq hlt] at hd2; have hel : (fillL (endL F l i) l.length).length = l.length := fill_len (by rw [endL_len]; omega); refine VC.skip (VC.seq (VC.block (VC.seq (VC.text ?_)))); refine VO.c (.move rfl) (VO.c (.ix (j := i) rfl rfl el29 (by omega)) ?_); refine VO.r (.ld vt84) ?_; refine VO.cell (.alloc zt84) ?_; intro ww3; refine VO.c (.assign rfl) ?_; refine VO.setV (cs' := [St ((l[i]).1), I ((l[i]).2.1), I ((l[i]).2.2.1), .v y25 ((l[i]).2.2.2)]) vt84 .v ?_; refine VO.shut [(9, .p y84 (l[i]))] (.cons rfl (.var m0 .refl) .nil) ?_; refine VO.go (VC.seq (VC.seq (VC.text ?_))); refine VO.c (.fa (.r (.r (.r .o)))) ?_; refine VO.r (.ld vt25) ?_; refine VO.r (.len el25) ?_; refine VO.c (.move rfl) ?_; refine VO.go (VC.block ?_); refine VC.keep [(1, f), (6, .raw ww1), (7, .raw ww2), (8, I ((i : Nat) : Int)), (9, .p y84 (l[i])), (18, .v y29 l), (19, I ((l.length : Nat) : Int)), (20, I ((i : Nat) : Int)), (26, .v y25 ((l[i]).2.2.2)), (27, I ((((l[i]).2.2.2).length : Nat) : Int)), (28, I ((0 : Nat) : Int))] ⟨rfl, rfl, rfl, rfl, rfl, rfl, rfl, rfl, rfl, rfl, rfl, trivial⟩ ?_; refine VC.loop (I := fun kk ff ss => ∃ (k : Nat), kk = l[i].2.2.2.length - k ∧ ff = [(1, f), (6, .raw ww1), (7, .raw ww2), (8, I ((i : Nat) : Int)), (9, .p y84 (l[i])), (18, .v y29 l), (19, I ((l.length : Nat) : Int)), (20, I ((i : Nat) : Int)), (26, .v y25 ((l[i]).2.2.2)), (27, I ((((l[i]).2.2.2).length : Nat) : Int)), (28, I ((k : Nat) : Int))] ∧ ss = [(ww2, .row 3 (.int .i64) (fillL (endL F l i) l.length)), (ww1, .row 3 (.int .i64) (begW F l i k))] ∧ (k ≤ l[i].2.2.2.length)) ?_ _ _ _ ⟨0, rfl, rfl, (by rw [begW_0 hlt]), (by omega)⟩; rintro kk ff ss ⟨k, hk2, rfl, rfl, hk⟩; have hwl := begW_len (d := F) (k := k) hi; have hwg := begW_get (d := F) (k := k) hlt (by omega); have hbb := beg_b hd (i := i) (by omega) k; refine VC.seq (VC.text ?_); refine VO.c (.lss) ?_; refine VO.go (VC.seq ?_); refine VC.condD rfl (fun c7 => ?_) (fun c7 => ?_)
    · have hk2 : k < l[i].2.2.2.length := by omega
      have hbk := hbf k hk2; rw [getDg hk2] at hbk; refine VC.skip (VC.seq (VC.block (VC.seq (VC.text ?_)))); refine VO.c (.ix (j := k) rfl rfl el25 (by omega)) ?_; refine VO.r (.ld vt3) ?_; refine VO.c (.assign rfl) ?_; refine VO.go (VC.drawn ?_); refine VD.c (.move rfl) (VD.c (.move rfl) (VD.c (.move rfl) (VD.c (.move rfl) ?_))); refine VD.co (.ixO (j := i) rfl rfl m1 el25 (by omega)) ?_; refine VD.r [(ww2, .row 3 (.int .i64) (fillL (endL F l i) l.length)), (ww1, .row 3 (.int .i64) (begW F l i k))] (.ldO rfl m1 vt3 (by omega)) (.inr ⟨rfl, rfl⟩) ?_; refine VD.nw [] (VD.c (.move rfl) (VD.c (.move rfl) ?_)); refine VD.co (.ixOZ (k := ((l[i]).2.2.2)[k]) rfl rfl m0 el25 (by omega) (by omega)) ?_; refine VD.r [(ww2, .row 3 (.int .i64) (fillL (endL F l i) l.length)), (ww1, .row 3 (.int .i64) (begW F l i k))] (.ldO rfl m0 vt3 (by omega)) (.inr ⟨rfl, rfl⟩) ?_; refine VD.c (.imax) ?_; refine VD.co (.ixO (j := i) rfl rfl m1 el25 (by omega)) ?_; refine VD.perm swap1 ?_; refine VD.mk0 (MakeV.setE (j := i) vt3 (by omega) rfl rfl) ?_; rintro _ _ tl4 ⟨rfl, rfl⟩; refine VD.nil ?_; refine VC.text ?_; refine VO.c (.add rfl rfl (by omega)) (VO.c (.move rfl) ?_); refine VO.perm swap1 ?_; refine VO.nil ?_; refine ⟨_, [(1, f), (6, .raw ww1), (7, .raw ww2), (8, I ((i : Nat) : Int)), (9, .p y84 (l[i])), (18, .v y29 l), (19, I ((l.length : Nat) : Int)), (20, I ((i : Nat) : Int)), (26, .v y25 ((l[i]).2.2.2)), (27, I ((((l[i]).2.2.2).length : Nat) : Int)), (28, I (((k + 1) : Nat) : Int))], ?_, ⟨rfl, rfl, rfl, rfl, rfl, rfl, rfl, rfl, rfl, rfl, rfl, trivial⟩, (k + 1), rfl, rfl, (by rw [begW_step hp hlt hk2 hwg (getDg _).symm]), (by omega)⟩; omega
    refine VC.exit (VC.drawn ?_); refine VD.c (.move rfl) (VD.c (.move rfl) (VD.c (.move rfl) (VD.c (.move rfl) ?_))); refine VD.co (.ixO (j := i) rfl rfl m1 el25 (by omega)) ?_; refine VD.r [(ww2, .row 3 (.int .i64) (fillL (endL F l i) l.length)), (ww1, .row 3 (.int .i64) (begW F l i k))] (.ldO rfl m1 vt3 (by omega)) (.inr ⟨rfl, rfl⟩) ?_; refine VD.nw [] (VD.c (.move rfl) ?_); refine VD.r [] (.ld vt84) (.inl rfl) ?_; refine VD.call rfl rfl ((hf _ (List.getElem_mem _)) ) ?_; refine VD.c (.add rfl rfl (by rw [hwg]; omega)) ?_; refine VD.co (.ixO (j := i) rfl rfl m0 el25 (by omega)) ?_; refine VD.mk0 (MakeV.setE (j := i) vt3 (by omega) rfl rfl) ?_; rintro _ _ tl5 ⟨rfl, rfl⟩; refine VD.nil ?_; refine VC.text ?_; refine VO.c (.add rfl rfl (by omega)) (VO.c (.move rfl) ?_); refine VO.nil ?_; refine ⟨_, [(1, f), (6, .raw ww1), (7, .raw ww2), (18, .v y29 l), (19, I ((l.length : Nat) : Int)), (20, I (((i + 1) : Nat) : Int))], ?_, ⟨rfl, rfl, rfl, rfl, rfl, rfl, trivial⟩, (i + 1), rfl, rfl, (by rw [endW_set hlt (by rw [hwg, endF, begF, phA_eq hlt, show k = l[i].2.2.2.length by omega]), begW_end hlt (by rw [hbl]; omega)]), (by omega)⟩; omega
  refine VC.exit (VC.seq (VC.text ?_)); refine VO.c (.move rfl) (VO.c (.move rfl) (VO.c (.assign rfl) (VO.c (.assign rfl) ?_))); refine VO.go ?_; refine VC.ret ?_; exact VEnd.two rfl (evC (.row m1)) (evC (.row m0)) (pvE (by rw [fill_full (by rw [begL_len]; omega), show i = l.length by omega])) (pvE (by rw [fill_full (by rw [endL_len]; omega), show i = l.length by omega]))
end Go.Proofs
namespace Go.Proofs
open Go.Fs
set_option maxHeartbeats 1000000
abbrev y32 : Ty := (.pair (.int .i64) (.int .i64))
theorem vt32 : ValT Tryz.prog 32 y32 := valT_of (by kernel_rfl)
theorem zt32 : ZerT Tryz.prog 32 y32 := zerT_of (z := .agg #[.int .i64 0, .int .i64 0]) (by kernel_rfl) rfl rfl
theorem bt32 : BldT Tryz.prog 32 y32 [(0, 1), (1, 1)] := bldT_of zt32 rfl (by kernel_rfl)
theorem bt84 : BldT Tryz.prog 84 y84 [(0, 1), (1, 1), (2, 1), (3, 1)] := bldT_of zt84 rfl (by kernel_rfl)
def maxL (l : List Int) : Int := l.foldl max 0
theorem maxL_app {l : List Int} {x : Int} : maxL (l ++ [x]) = max (maxL l) x := by simp [maxL]
theorem maxL_take {l : List Int} {j : Nat} (h : j < l.length) : maxL (l.take (j + 1)) = max (maxL (l.take j)) l[j] := by rw [List.take_succ_eq_append_getElem h, maxL_app]
theorem cGreatest_ok {l : List Int} (hl : l.length < 1000000) : VF Tryz.prog OA 88 [.v y25 l] (I (maxL l)) := by
  refine VF.enter Tryz.func88 rfl (fun _ _ => rfl) rfl ?_; show VC _ _ _ _ _ [(0, .v y25 l)] [] _; refine VC.seq (VC.text ?_); refine VO.c (.assign rfl) ?_; refine VO.go (VC.seq (VC.text ?_)); refine VO.c (.assign rfl) ?_; refine VO.go (VC.seq (VC.seq (VC.text ?_))); refine VO.c (.move rfl) ?_; refine VO.r (.len el25) ?_; refine VO.c (.move rfl) ?_; refine VO.go (VC.block ?_); refine VC.keep [(3, I (maxL (l.take 0))), (6, .v y25 l), (7, I ((l.length : Nat) : Int)), (8, I ((0 : Nat) : Int))] ⟨rfl, rfl, rfl, rfl, trivial⟩ ?_; refine VC.loop (I := fun kk ff ss => ∃ (j : Nat), kk = l.length - j ∧ ff = [(3, I (maxL (l.take j))), (6, .v y25 l), (7, I ((l.length : Nat) : Int)), (8, I ((j : Nat) : Int))] ∧ ss = [] ∧ (j ≤ l.length)) ?_ _ _ _ ⟨0, rfl, rfl, rfl, Nat.zero_le _⟩; rintro kk ff ss ⟨j, hk0, rfl, rfl, hj⟩; refine VC.seq (VC.text ?_); refine VO.c (.lss) ?_; refine VO.go (VC.seq ?_); refine VC.condD rfl (fun c3 => ?_) (fun c3 => ?_)
  · refine VC.skip (VC.seq (VC.block (VC.seq (VC.text ?_)))); refine VO.c (.ix (j := j) rfl rfl el25 (by omega)) ?_; refine VO.r (.ld vt3) ?_; refine VO.c (.assign rfl) ?_; refine VO.go (VC.text ?_); refine VO.c (.move rfl) (VO.c (.move rfl) (VO.c (.imax) (VO.c (.assign rfl) ?_))); refine VO.nil (VC.text ?_); refine VO.c (.add rfl rfl (by omega)) (VO.c (.move rfl) ?_); refine VO.nil ?_; refine ⟨_, [(3, I (maxL (l.take (j + 1)))), (6, .v y25 l), (7, I ((l.length : Nat) : Int)), (8, I (((j + 1) : Nat) : Int))], ?_, ⟨slI rfl (by rw [maxL_take (by omega)]), rfl, rfl, rfl, trivial⟩, (j + 1), rfl, rfl, rfl, (by omega)⟩; omega
  refine VC.exit (VC.seq (VC.text ?_)); refine VO.c (.move rfl) (VO.c (.assign rfl) (VO.go ?_)); refine VC.ret ?_; exact VEnd.one rfl evT (pvI (by rw [List.take_of_length_le (by omega)]))
def durE (l : List Pha) : Int × Int := (maxL (endL (dE false) l l.length), maxL (endL (dE true) l l.length))
theorem cDur_ok {l : List (ByteArray × Int × Int × (List Int))} (hp : PlanOk l) : VF Tryz.prog OA 85 [.v y29 l] (.v y32 (durE l)) := by
  refine VF.enter Tryz.func85 rfl (fun _ _ => rfl) rfl ?_; show VC _ _ _ _ _ [(0, .v y29 l)] [] _; refine VC.seq (VC.text ?_); have hlen := hp.len; refine VO.cell (.alloc zt32) ?_; intro ww1; refine VO.go (VC.seq (VC.text ?_)); refine VO.c (.move rfl) ?_; refine VO.call rfl rfl (VF.call (cStarts_ok (F := dE false) hp (dur_ok hp false) (fun _ _ => VF.call cLeast_ok))) ?_; refine VO.c (.move rfl) (VO.c (.extract) (VO.c (.extract) (VO.c (.assign rfl) ?_))); refine VO.c (.assign rfl) ?_; refine VO.go (VC.seq (VC.text ?_)); refine VO.c (.move rfl) ?_; refine VO.call rfl rfl (VF.call (cStarts_ok (F := dE true) hp (dur_ok hp true) (fun _ _ => VF.call cMost_ok))) ?_; refine VO.c (.move rfl) (VO.c (.extract) (VO.c (.extract) (VO.c (.assign rfl) ?_))); refine VO.c (.assign rfl) ?_; refine VO.go (VC.seq (VC.text ?_)); refine VO.c (.move rfl) ?_; refine VO.call rfl rfl (VF.call (cGreatest_ok (by rw [endL_len]; omega))) ?_; refine VO.c (.move rfl) ?_; refine VO.call rfl rfl (VF.call (cGreatest_ok (by rw [endL_len]; omega))) ?_; refine VO.c (.build (maxL (endL (dE false) l l.length), maxL (endL (dE true) l l.length)) bt32) ?_; refine VO.setV (cs' := [I (maxL (endL (dE false) l l.length)), I (maxL (endL (dE true) l l.length))]) vt32 .v ?_; refine VO.go ?_; refine VC.ret ?_; exact VEnd.one rfl (.cell (x := (maxL (endL (dE false) l l.length), maxL (endL (dE true) l l.length))) rfl m0 vt32 .refl) (pvE (by rfl))
def durR (l : List Pha) : Int × Int := if planE l = 0 then durE l else (0, 0)
theorem cDuration_ok {l : List (ByteArray × Int × Int × (List Int))} (hl : l.length < 100000) (hb : ∀ x ∈ l, x.2.2.2.length < 100000) : VF Tryz.prog OA 18 [.v y29 l] (.tup [.v y32 (durR l), I (planE l)]) := by
  refine VF.enter Tryz.func18 rfl (fun _ _ => rfl) rfl ?_; show VC _ _ _ _ _ [(0, .v y29 l)] [] _; refine VC.seq (VC.text ?_); refine VO.cell (.alloc zt32) ?_; intro ww2; refine VO.c (.assign rfl) ?_; refine VO.go (VC.seq (VC.seq (VC.text ?_))); refine VO.c (.move rfl) ?_; refine VO.call rfl rfl (VF.call (cPlan_ok (by first | assumption | omega | simp) (by first | assumption | omega | simp))) ?_; refine VO.c (.assign rfl) ?_; refine VO.go (VC.seq (VC.text ?_)); refine VO.c (.move rfl) (VO.c (.neq) (VO.go ?_)); refine VC.condD rfl (fun c2 => ?_) (fun c2 => ?_)
  · refine VC.seq (VC.text ?_); refine VO.c (.build (0, 0) bt32) (VO.c (.move rfl) ?_); refine VO.setV (cs' := [I 0, I 0]) vt32 .v ?_; refine VO.c (.assign rfl) (VO.go ?_); refine VC.ret ?_; exact VEnd.two rfl (.cell (x := (0, 0)) rfl m0 vt32 .refl) evT (pvE (by rw [durR, if_neg c2])) (pvI (by rfl))
  have hz := Classical.not_not.1 c2; refine VC.skip (VC.seq (VC.text ?_)); refine VO.c (.move rfl) ?_; refine VO.call rfl rfl (VF.call (cDur_ok (plan_ok hz))) ?_; refine VO.setV (cs' := [I ((durE l).1), I ((durE l).2)]) vt32 .v ?_; refine VO.c (.assign rfl) (VO.go ?_); refine VC.ret ?_; exact VEnd.two rfl (.cell (x := durE l) rfl m0 vt32 .refl) evT (pvE (by rw [durR, if_pos hz])) (pvI (by exact hz.symm))
theorem lPlan_ok {l : List (ByteArray × Int × Int × (List Int))} (hl : l.length < 100000) (hb : ∀ x ∈ l, x.2.2.2.length < 100000) : VF Tryz.prog OA 17 [.v y22 l] (.v y29 l) := by
  refine VF.enter Tryz.func17 rfl (fun _ _ => rfl) rfl ?_; show VC _ _ _ _ _ [(0, .v y22 l)] [] _; refine VC.seq (VC.text ?_); refine VO.c (.assign rfl) ?_; refine VO.go (VC.seq (VC.text ?_)); refine VO.c (.assign rfl) ?_; refine VO.go (VC.seq (VC.seq (VC.text ?_))); refine VO.c (.move rfl) ?_; refine VO.r (.len el22) ?_; refine VO.c (.move rfl) ?_; refine VO.go (VC.block ?_); refine VC.cell0 84 y84 ?_; refine VC.keep [(3, .raw (.slice none 0 0)), (6, .v y22 l), (7, I ((l.length : Nat) : Int)), (8, I ((0 : Nat) : Int))] ⟨rfl, rfl, rfl, rfl, trivial⟩ ?_; refine VC.loop (I := fun kk ff ss => ∃ (j : Nat) (out : Value), kk = l.length - j ∧ ff = [(3, .raw out), (6, .v y22 l), (7, I ((l.length : Nat) : Int)), (8, I ((j : Nat) : Int))] ∧ ss = [(out, .row 84 y84 (l.take j))] ∧ (j ≤ l.length)) ?_ _ _ _ ⟨0, (.slice none 0 0), rfl, rfl, rfl, Nat.zero_le _⟩; rintro kk ff ss ⟨j, out, hk0, rfl, rfl, hj⟩; refine VC.seq (VC.text ?_); refine VO.c (.lss) ?_; refine VO.go (VC.seq ?_); refine VC.condD rfl (fun c3 => ?_) (fun c3 => ?_)
  · have hbx := hb _ (List.getElem_mem (show j < l.length by omega)); refine VC.skip (VC.seq (VC.block (VC.seq (VC.text ?_)))); refine VO.c (.ix (j := j) rfl rfl el22 (by omega)) ?_; refine VO.r (.ld vt80) ?_; refine VO.cell (.alloc zt80) ?_; intro ww5; refine VO.setV (cs' := [St ((l[j]).1), I ((l[j]).2.1), I ((l[j]).2.2.1), .v y25 ((l[j]).2.2.2)]) vt80 .v ?_; refine VO.shut [(5, .p y80 (l[j]))] (.cons rfl (.var m0 .refl) .nil) ?_; refine VO.go (VC.drawn ?_); refine VD.c (.move rfl) (VD.c (.fa (.l .o)) ?_); refine VD.r [] (.ld vt9) (.inl rfl) ?_; refine VD.c (.fa (.r (.l .o))) ?_; refine VD.r [] (.ld vt3) (.inl rfl) ?_; refine VD.c (.fa (.r (.r (.l .o)))) (VD.nw [] ?_); refine VD.r [] (.ld vt3) (.inl rfl) ?_; refine VD.c (.fa (.r (.r (.r .o)))) ?_; refine VD.r [] (.ld vt25) (.inl rfl) ?_; refine VD.call rfl rfl (VF.call (lInts_ok (by omega))) ?_; refine VD.c (.build ((l[j]).1, (l[j]).2.1, (l[j]).2.2.1, ((l[j]).2.2.2)) bt84) ?_; refine VD.new (.lit [((l[j]).1, (l[j]).2.1, (l[j]).2.2.1, ((l[j]).2.2.2))] el29) ?_; refine VD.mk (MakeV.app el29 el29 rfl rfl (by simp; omega)) ?_; rintro _ _ tl6 ⟨ww6, rfl, rfl⟩; refine VD.nw [24, 23, 22, 21] (VD.c (.assign rfl) ?_); refine VD.nil ?_; refine VC.text ?_; refine VO.c (.add rfl rfl (by omega)) (VO.c (.move rfl) ?_); refine VO.nil ?_; refine ⟨_, [(3, .raw ww6), (6, .v y22 l), (7, I ((l.length : Nat) : Int)), (8, I (((j + 1) : Nat) : Int))], ?_, ⟨rfl, rfl, rfl, rfl, trivial⟩, (j + 1), ww6, rfl, rfl, (by rw [List.take_succ_eq_append_getElem (by omega)]), (by omega)⟩; omega
  refine VC.exit (VC.seq (VC.text ?_)); refine VO.c (.move rfl) (VO.c (.assign rfl) (VO.go ?_)); refine VC.ret ?_; exact VEnd.one rfl (evC (.row m0)) (pvE (by rw [List.take_of_length_le (by omega)]))
def shortP (l : List Pha) : Bool := decide ((∀ x ∈ l, x.1.size ≤ 40 ∧ x.2.2.2.length ≤ 8) ∧ (l.length ≤ 7 ∨ l.length = 17))
theorem rShortP_ok {l : List (ByteArray × Int × Int × (List Int))} (hl : l.length ≤ 9223372036854775807) : VF Tryz.prog OA 15 [.v y22 l] (B (shortP l)) := by
  refine VF.enter Tryz.func15 rfl (fun _ _ => rfl) rfl ?_; show VC _ _ _ _ _ [(0, .v y22 l)] [] _; refine VC.seq (VC.text ?_); refine VO.c (.assign rfl) ?_; refine VO.go (VC.seq (VC.seq (VC.text ?_))); refine VO.c (.assign rfl) ?_; refine VO.go (VC.block ?_); refine VC.keep [(0, .v y22 l), (3, I ((0 : Nat) : Int))] ⟨rfl, rfl, trivial⟩ ?_; refine VC.loop (I := fun kk ff ss => ∃ (i : Nat), kk = l.length - i ∧ ff = [(0, .v y22 l), (3, I ((i : Nat) : Int))] ∧ ss = [] ∧ (i ≤ l.length) ∧ (∀ j (hj : j < l.length), j < i → l[j].1.size ≤ 40 ∧ l[j].2.2.2.length ≤ 8)) ?_ _ _ _ ⟨0, rfl, rfl, rfl, Nat.zero_le _, (by intro j hj h; omega)⟩; rintro kk ff ss ⟨i, hk0, rfl, rfl, hi, hn⟩; refine VC.seq (VC.seq (VC.text ?_)); refine VO.c (.move rfl) (VO.c (.move rfl) ?_); refine VO.r (.len el22) ?_; refine VO.c (.lss) (VO.go ?_); refine VC.condD rfl (fun c2 => ?_) (fun c2 => ?_)
  · have hlt : i < l.length := by omega
    refine VC.skip (VC.seq (VC.block (VC.seq (VC.text ?_)))); refine VO.c (.move rfl) (VO.c (.move rfl) (VO.c (.ix (j := i) rfl rfl el22 (by omega)) (VO.c (.fa (.l .o)) ?_))); refine VO.r (.ld vt9) ?_; refine VO.r (.lenS) ?_; refine VO.c (.gtr) (VO.c (.move rfl) ?_); refine VO.cg (r := decide ((40 : Int) < ((((l[i]).1).size : Nat) : Int))) (w := false) [] trivial (fun _ => (.move rfl)) ?_; refine VO.cg (r := decide ((40 : Int) < ((((l[i]).1).size : Nat) : Int))) (w := false) [] trivial (fun _ => (.move rfl)) ?_; refine VO.cg (r := decide ((40 : Int) < ((((l[i]).1).size : Nat) : Int))) (w := false) [(18, .v y22 l), (19, I ((i : Nat) : Int))] ⟨rfl, rfl, trivial⟩ (fun hgd => have g4_7 : ¬ ((40 : Int) < ((((l[i]).1).size : Nat) : Int)) := (by simpa using hgd); (.ixD (j := i) rfl rfl (ByteArray.empty, 0, 0, []) el22 (by omega))) ?_; refine VO.cg (r := decide ((40 : Int) < ((((l[i]).1).size : Nat) : Int))) (w := false) [(20, .p y80 (l.getD i (ByteArray.empty, 0, 0, [])))] ⟨rfl, trivial⟩ (fun _ => (.fa (.r (.r (.r (k := 0) .o))))) ?_; refine VO.rg (r := decide ((40 : Int) < ((((l[i]).1).size : Nat) : Int))) (w := false) [(21, .p y25 ((l.getD i (ByteArray.empty, 0, 0, [])).2.2.2))] ⟨rfl, trivial⟩ (fun _ => (.ld vt25)) ?_; refine VO.rg (r := decide ((40 : Int) < ((((l[i]).1).size : Nat) : Int))) (w := false) [(22, .v y25 ((l.getD i (ByteArray.empty, 0, 0, [])).2.2.2))] ⟨rfl, trivial⟩ (fun _ => (.len el25)) ?_; refine VO.cg (r := decide ((40 : Int) < ((((l[i]).1).size : Nat) : Int))) (w := false) [(23, I ((((l.getD i (ByteArray.empty, 0, 0, [])).2.2.2).length : Nat) : Int))] ⟨rfl, trivial⟩ (fun _ => (.gtr)) ?_; refine VO.c (.or) (VO.go ?_); refine VC.condB rfl (fun c4 => ?_) (fun c4 => ?_)
    · try simp only [Bool.and_eq_true, Bool.or_eq_true, Bool.and_eq_false_iff, Bool.or_eq_false_iff, Bool.not_eq_true', Bool.not_eq_false', decide_eq_true_eq, decide_eq_false_iff_not] at c4
      rw [getDg hlt] at c4; refine VC.seq (VC.text ?_); refine VO.c (.assign rfl) (VO.go ?_); refine VC.ret ?_; exact VEnd.one rfl evT (pvE (by exact (decide_eq_false fun hh => by have := hh.1 _ (List.getElem_mem hlt); omega).symm))
    try simp only [Bool.and_eq_true, Bool.or_eq_true, Bool.and_eq_false_iff, Bool.or_eq_false_iff, Bool.not_eq_true', Bool.not_eq_false', decide_eq_true_eq, decide_eq_false_iff_not] at c4
    rw [getDg hlt] at c4; refine VC.skip (VC.text ?_); refine VO.c (.move rfl) (VO.c (.add rfl rfl (by omega)) (VO.c (.assign rfl) ?_)); refine VO.nil ?_; refine ⟨_, [(0, .v y22 l), (3, I (((i + 1) : Nat) : Int))], ?_, ⟨rfl, rfl, trivial⟩, (i + 1), rfl, rfl, rfl, (by omega), (by intro j hj h; rcases Nat.lt_succ_iff_lt_or_eq.1 h with h | h; exact hn j hj h; subst h; omega)⟩; omega
  refine VC.exit (VC.seq (VC.text ?_)); refine VO.c (.move rfl) ?_; refine VO.r (.len el22) ?_; refine VO.c (.leq) (VO.c (.move rfl) ?_); refine VO.cg (r := decide (((l.length : Nat) : Int) ≤ (7 : Int))) (w := false) [] trivial (fun _ => (.move rfl)) ?_; refine VO.rg (r := decide (((l.length : Nat) : Int) ≤ (7 : Int))) (w := false) [(30, .v y22 l)] ⟨rfl, trivial⟩ (fun _ => (.len el22)) ?_; refine VO.cg (r := decide (((l.length : Nat) : Int) ≤ (7 : Int))) (w := false) [(31, I ((l.length : Nat) : Int))] ⟨rfl, trivial⟩ (fun _ => (.eql)) ?_; refine VO.c (.or) (VO.c (.assign rfl) (VO.go ?_)); refine VC.ret ?_; exact VEnd.one rfl evT (pvE (by rw [shortP, ← Bool.decide_or]; refine decide_eq_decide.2 ⟨fun hh => ⟨fun x hx => ?_, by omega⟩, fun hh => by omega⟩; obtain ⟨j, hj, rfl⟩ := List.getElem_of_mem hx; exact hn j hj (by omega)))
end Go.Proofs
namespace Go.Fs
variable {P : Program} {orc : FuncId → List Value → Heap → Option (Value × Heap)} {rnd : Option Nat} {h h' h0 h1 h2 hs : Heap} {S S' S0 B G : List Nat} {σ σ' : Sto} {t t' : Tr} {ms : List Nat} {fl : VL} {ops : Array Oper} {n i mem : Nat} {l : List Oper} {K : VL → Sto → Prop} {Q : Ex → VL → Sto → Prop}
  {d d1 d2 : Tmp} {ty ty1 ty2 : TypeId} {pos pos1 pos2 : String} {after after1 after2 : Array Edge} {op : Op} {v v1 : PV} {g g1 g2 : Option (Nat × Bool)} {bs nw : List Nat} {segs : List (Nat × Nat × Nat)} {tail so : Bool}
section
variable (P orc)
end
end Go.Fs
namespace Go.Fs
variable {P : Program} {orc : FuncId → List Value → Heap → Option (Value × Heap)} {rnd : Option Nat} {h h' h0 h1 h2 : Heap} {S S' S0 B G : List Nat} {σ σ' : Sto} {t t' : Tr} {ms : List Nat} {fl : VL} {ops : Array Oper} {n i mem : Nat} {l : List Oper} {K : VL → Sto → Prop} {Q : Ex → VL → Sto → Prop}
  {d : Tmp} {ty : TypeId} {pos : String} {after : Array Edge} {op : Op} {v pv : PV} {g : Option (Nat × Bool)} {bs nw : List Nat} {segs : List (Nat × Nat × Nat)} {so : Bool}
end Go.Fs
namespace Go.Fs
variable {P : Program} {orc : FuncId → List Value → Heap → Option (Value × Heap)} {rnd : Option Nat} {h h' h0 h1 h2 : Heap} {S S' S0 B G : List Nat} {σ σ' σr : Sto} {t t' : Tr} {ms : List Nat} {fl : VL} {ops : Array Oper} {n i mem : Nat} {l : List Oper} {K : VL → Sto → Prop} {Q : Ex → VL → Sto → Prop}
  {d : Tmp} {ty : TypeId} {pos : String} {after : Array Edge} {op : Op} {v pv : PV} {g : Option (Nat × Bool)} {x y z : Operand} {T T' e e' : TypeId} {τ τ' : Ty} {w w' : Value} {c c' : Cell}
def matS (e : TypeId) (τ : Ty) (us : List Value) (xss : List (List τ.den)) : Sto := (us.zip xss).map fun p => (p.1, .row e τ p.2)
theorem matS_perm {us : List Value} {xss : List (List τ.den)} {j : Nat} (hj : j < us.length) (hj2 : j < xss.length) : (matS e τ us xss).Perm ((us[j], .row e τ xss[j]) :: matS e τ (us.eraseIdx j) (xss.eraseIdx j)) := by
  induction us generalizing xss j with
  | nil => simp at hj
  | cons u us ih =>
    cases xss with
    | nil => simp at hj2
    | cons xs xss =>
      cases j with
      | zero => exact .refl _
      | succ j =>
        have := ih (xss := xss) (j := j) (by simpa using hj) (by simpa using hj2); exact (List.Perm.cons _ this).trans (.swap _ _ _)
theorem matS_set {us : List Value} {xss : List (List τ.den)} {j : Nat} {u : Value} {xs : List τ.den} (hj : j < us.length) (hj2 : j < xss.length) : ((u, .row e τ xs) :: matS e τ (us.eraseIdx j) (xss.eraseIdx j)).Perm (matS e τ (us.set j u) (xss.set j xs)) := by
  have := matS_perm (e := e) (τ := τ) (us := us.set j u) (xss := xss.set j xs) (j := j) (by simpa using hj) (by simpa using hj2); rw [List.getElem_set_self, List.getElem_set_self, List.eraseIdx_set_eq, List.eraseIdx_set_eq] at this; exact this.symm
theorem Iv.matNil (I : Iv h0 G S0 h σ t ms fl) (e : TypeId) (τ : Ty) : ∀ k : Nat, Iv h0 G S0 h (matS e τ (List.replicate k (.slice none 0 0)) (List.replicate k []) ++ σ) t ms fl
  | 0 => I
  | k + 1 => (I.matNil e τ k).cell0 e τ
theorem VO.matNil (e : TypeId) (τ : Ty) (k : Nat) (hx : VO P orc ops n l fl (matS e τ (List.replicate k (.slice none 0 0)) (List.replicate k []) ++ σ) K) : VO P orc ops n l fl σ K := fun h0 G S0 t h ms I => hx h0 G S0 t h ms (I.matNil e τ k)
theorem repL_nils : ∀ k : Nat, RepL h S (List.replicate k (.raw (.slice none 0 0))) (List.replicate k (.slice none 0 0))
  | 0 => rfl
  | k + 1 => ⟨_, _, rfl, rfl, repL_nils k⟩
theorem FreshO.makeN {k : Nat} (hx : evV fl x = some (.v (.int .i64) ((k : Nat) : Int))) (hy : evV fl y = some (.v (.int .i64) ((k : Nat) : Int))) (hT : ElT P T e (.sl τ)) (hZ : ZerT P e (.sl τ)) (hk : k ≤ 1000000) : FreshO P fl (.makeSlice T x y) (.cel e k (List.replicate k (.raw (.slice none 0 0)))) := by
  obtain ⟨h1, h2⟩ := FreshO.make hx hy hT hZ hk; obtain ⟨z, z1, z2, z3⟩ := hZ.zero; refine ⟨h1, fun h S t hs hok hS => ?_⟩; have u1 := RepV.int (hs x (by simp [Op.operands]) _ hx); have u2 := RepV.int (hs y (by simp [Op.operands]) _ hy); obtain ⟨i, z', hi1, hi2, hi3, hi3', hi4, hi5, hi6⟩ := hT.sl.info
  obtain rfl : z' = z := by
    rw [hi1] at z1; simpa [hi4] using z1
  have hpos := hT.sl.pos; have hz2 : z'.cells.toList = [.slice none 0 0] := z2
  have hzs : zeros z' k = List.replicate k (.slice none 0 0) := by
    have hsz : z'.cells.size = 1 := by simpa using congrArg List.length hz2
    rw [zeros_flat (by omega), hz2]; clear hx hy u1 u2 hk h2
    induction k with
    | zero => rfl
    | succ k ih => simp [List.replicate_succ, ih]
  refine ⟨fun m => .slice (some ⟨m, 0, none⟩) k 0, .row e (zeros z' k) true false, fun _ => rfl, fun S' hN hm => ?_, fun H _ _ _ _ _ => ?_⟩
  · refine .inr ⟨h.next, _, false, rfl, hm, by rw [Heap.get_push, if_pos rfl], ?_, ?_, fun _ => rfl⟩
    · rw [hzs]; exact repL_nils k
    rw [hzs]; exact List.all_eq_true.2 fun x hx => by rw [List.eq_of_mem_replicate hx]; rfl
  show fsMakeSlice P T (evalO t x) (evalO t y) H = _; rw [u1, u2]; unfold fsMakeSlice; simp only [hT.sl.sl, hi1, hi4]
  have hb : i.bytes * k ≤ 1099511627776 := by
    have := Nat.mul_le_mul hi3' hk; omega
  have hc : (decide (0 ≤ ((k : Nat) : Int)) && decide (((k : Nat) : Int) ≤ ((k : Nat) : Int)) && decide (((k : Nat) : Int) ≤ 1099511627776) && Nat.ble (i.bytes * ((k : Nat) : Int).toNat) 1099511627776 && Nat.blt 0 i.size && Nat.beq z'.cells.size i.size && z'.cells.toList.all af0) = true := by
    have e1 : Nat.ble (i.bytes * ((k : Nat) : Int).toNat) 1099511627776 = true := by rw [Nat.ble_eq, Int.toNat_natCast]; exact hb
    have e2 : Nat.blt 0 i.size = true := by show Nat.ble 1 i.size = true; rw [Nat.ble_eq, hi2]; exact hpos
    rw [e1, e2, hi5, hi2, Nat.beq_refl, hi6]; simp; omega
  rw [hc]; rfl
theorem CalmV.ixC {cs : List PV} {m j : Nat} (hx : evV fl x = some (.raw w)) (hy : evV fl y = some (.v (.int .i64) ((j : Nat) : Int))) (hm : (w, Cell.cel e m cs) ∈ σ) (hT : ElT P T e (.sl τ)) (hj : j < m) : CalmV P fl σ (.indexAddr T x y) (.raw (ptrAt w 1 j)) :=
  ⟨rfl, fun h S t hs hc => by
    have h1 : evalO t x = w := hs x (by simp [Op.operands]) _ hx; have h2 := RepV.int (hs y (by simp [Op.operands]) _ hy); refine ⟨_, rfl, fun _ _ _ _ _ H => ?_⟩; show (if af (evalO t y) then (runPure P (Instr.indexAt T (evalO t x) (evalO t y))).map fun v => (v, H) else none) = _; rcases hc _ hm with ⟨_, h3, _⟩ | ⟨b, rs, mm, h3, h4, h5, h6⟩
    · omega
    rw [h1, h2, show w = _ from h3]; obtain ⟨i, z, hinf, hsz, _⟩ := hT.sl.info; have hsz : i.size = 1 := hsz
    have : runPure P (Instr.indexAt T (.slice (some ⟨b, 0, none⟩) m 0) (.int .i64 (j : Nat))) = some (ptrAt (.slice (some ⟨b, 0, none⟩) m 0) 1 j) := by
      unfold Instr.indexAt
      have h7 : (0 : Int) ≤ (j : Int) ∧ (j : Int) < (m : Nat) := by omega
      simp only [runPure_bind, asIntOf, runPure_pure, Option.bind_some, runPure_underlying hT.sl.sl, if_pos h7, runPure_sizeOf hinf, hsz, add_none, Int.toNat_natCast, ptrAt]
    rw [this]; rfl⟩
theorem CalmV.ixCZ {cs : List PV} {m : Nat} {k : Int} (hx : evV fl x = some (.raw w)) (hy : evV fl y = some (.v (.int .i64) k)) (hm : (w, Cell.cel e m cs) ∈ σ) (hT : ElT P T e (.sl τ)) (h0 : 0 ≤ k) (hj : k < ((m : Nat) : Int)) : CalmV P fl σ (.indexAddr T x y) (.raw (ptrAt w 1 k.toNat)) := by
  obtain ⟨j, rfl⟩ := Int.eq_ofNat_of_zero_le h0; exact CalmV.ixC hx hy hm hT (by omega)
theorem ReadV.ldC {cs : List PV} {m j : Nat} (hx : evV fl x = some (.raw (ptrAt w 1 j))) (hm : (w, Cell.cel T m cs) ∈ σ) (hT : ValT P T (.sl τ)) (hj : cs[j]? = some v) (hjm : j < m) : ReadV P fl σ (.load T x) v :=
  ⟨rfl, fun h S t hs hc => by
    have h1 : evalO t x = ptrAt w 1 j := hs x (by simp [Op.operands]) _ hx; rcases hc _ hm with ⟨_, h3, _⟩ | ⟨b, rs, mm, h3, h4, h5, h6, h7⟩
    · omega
    obtain ⟨u, h8, h9⟩ := h6.get hj; obtain ⟨i, hi, hs2⟩ := hT.info; obtain ⟨d, hd, hag⟩ := hT.agg; have hag : isAggD d = false := hag; refine ⟨u, h9, fun H hH _ _ _ _ _ => ?_⟩; show (fsLoad P T (evalO t x) H).map _ = _; have h10 := hH b _ h5; rw [h1, show w = _ from h3]; simp only [fsLoad, ptrAt, h10, hd, hi, hag, Nat.zero_add, Nat.mul_one, h8]
    rfl⟩
theorem RepL.setL {l : List PV} {us : List Value} {p : PV} {u : Value} {j : Nat} (hl : RepL h S l us) (hp : RepPV h S p u) : RepL h S (l.set j p) (us.set j u) := by
  induction l generalizing us j with
  | nil =>
    obtain rfl : us = [] := hl
    exact rfl
  | cons q l ih =>
    obtain ⟨v, r, rfl, h2, h3⟩ := hl
    cases j with
    | zero => exact ⟨u, r, rfl, hp, h3⟩
    | succ j => exact ⟨v, r.set j u, rfl, h2, ih h3⟩
theorem MakeV.setC {cs : List PV} {m j : Nat} {u : Value} (hT : ValT P T (.sl τ)) (hj : j < m) (hjc : j < cs.length) (hx : evV fl x = some (.raw (ptrAt w 1 j))) (hy : evV fl y = some (.raw u)) (ho : oneCell u = true) :
    MakeV P fl ((w, .cel T m cs) :: σ) (.store T x y) fun v σ' => v = .raw undef ∧ σ' = (w, .cel T m (cs.set j (.raw u))) :: σ :=
  ⟨rfl, fun S0 h t L => by
    have h1 : evalO t x = ptrAt w 1 j := evV_ok L.slots hx; have h2 : evalO t y = u := evV_ok L.slots hy; rcases L.cells _ List.mem_cons_self with ⟨_, h3, _⟩ | ⟨b, rs, mm, h3, h4, h5, h6, h7, h8⟩
    · omega
    have hw : w = _ := h3; have hrl := h6.len; obtain ⟨i, hi, hs⟩ := hT.info; have hs : i.size = 1 := hs
    have hag : isAggV u = false := by
      cases u with
      | agg cs => cases ho
      | _ => rfl
    have hul : u.cells.toList = [u] := by rw [cells_one hag]
    have hbk : blk w = [b] := by rw [hw]; rfl
    have hsp : splice rs j [u] = rs.set j u := by
      have hjr : j < rs.length := by omega
      unfold splice; rw [List.set_eq_take_append_cons_drop, if_pos hjr]; simp
    refine ⟨undef, h.set b (.row T (rs.set j u) true mm), .raw undef, _, ⟨rfl, rfl⟩, Made.head L (Aft.set h5 (by rw [hbk]; simp)) (fun b hb => .inl hb) (by rw [hbk]; simp) fun hN => ?_, rfl, fun _ _ _ _ _ => ?_⟩
    · refine .inr ⟨b, _, mm, hw, ?_, by rw [Heap.get_set h5, if_pos rfl], ((h6.setL (p := .raw u) (u := u) rfl).nx hN), ?_, h8⟩
      · rw [own_cons]; exact List.mem_append_left _ (List.mem_append_left _ (by rw [hbk]; simp))
      refine List.all_eq_true.2 fun z hz => ?_; rcases List.mem_or_eq_of_mem_set hz with hz | rfl
      · exact List.all_eq_true.1 h7 z hz
      exact ho
    show (fsStore P T (evalO t x) (evalO t y) h).map _ = _
    have : fsStore P T (evalO t x) (evalO t y) h = some (h.set b (.row T (rs.set j u) true mm)) := by
      rw [h1, h2, hw]; simp only [fsStore, ptrAt, h5, hi, hs, hul, Nat.zero_add, Nat.mul_one, hsp]; rw [if_pos ⟨rfl, by show j + 1 ≤ rs.length; omega, by simp [ho]⟩]
    rw [this]; rfl⟩
theorem VO.setC {cs : List PV} {m : Nat} {u : Value} (j : Nat) (hT : ValT P T (.sl τ)) (hj : j < m) (hjc : j < cs.length) (hx : evV fl x = some (.raw (ptrAt w 1 j))) (hy : evV fl y = some (.raw u)) (ho : oneCell u = true) (hk : VO P orc ops n l fl ((w, .cel T m (cs.set j (.raw u))) :: σ) K) (hw : wantV ops fl g = some true := by rfl) :
    VO P orc ops n (⟨none, .store T x y, ty, pos, after, g⟩ :: l) fl ((w, .cel T m cs) :: σ) K :=
  VO.mk0 (MakeV.setC hT hj hjc hx hy ho) (by rintro _ _ ⟨rfl, rfl⟩; exact hk) hw
theorem coL_mat : ∀ {us : List Value} {xss : List (List τ.den)}, us.length = xss.length → (∀ p ∈ us.zip xss, (p.1, Cell.row e τ p.2) ∈ σ) → CoL σ (us.map .raw) (xss.flatMap (cellsPV (.sl τ)))
  | [], [], _, _ => .nil
  | u :: us, xs :: xss, hl, hm => .cons (.row (hm (u, xs) List.mem_cons_self)) (coL_mat (by simpa using hl) fun p hp => hm p (List.mem_cons_of_mem _ hp))
  | [], _ :: _, hl, _ => by simp at hl
  | _ :: _, [], hl, _ => by simp at hl
theorem matS_mem {us : List Value} {xss : List (List τ.den)} {p : Value × List τ.den} (hp : p ∈ us.zip xss) : (p.1, Cell.row e τ p.2) ∈ matS e τ us xss := List.mem_map_of_mem hp
theorem co_mat {us : List Value} {xss : List (List τ.den)} (hl : us.length = xss.length) {e2 : TypeId} : Co ((w, .cel e2 us.length (us.map .raw)) :: (matS e τ us xss ++ σ)) (.raw w) (.v (.sl (.sl τ)) xss) :=
  .cel List.mem_cons_self hl (coL_mat hl fun p hp => List.mem_cons_of_mem _ (List.mem_append_left _ (matS_mem hp)))
theorem co_mat0 {us : List Value} {xss : List (List τ.den)} {m : Nat} (hl : us.length = xss.length) (hm : m = us.length) {e2 : TypeId} : Co ((w, .cel e2 m (us.map .raw)) :: matS e τ us xss) (.raw w) (.v (.sl (.sl τ)) xss) := by
  subst hm; have := co_mat (w := w) (e := e) (σ := []) hl (e2 := e2)
  rwa [List.append_nil] at this
theorem mat_front {us : List Value} {xss : List (List τ.den)} {j : Nat} (hj : j < us.length) (hj2 : j < xss.length) : ((w, c) :: matS e τ us xss).Perm ((us[j], .row e τ xss[j]) :: (w, c) :: matS e τ (us.eraseIdx j) (xss.eraseIdx j)) := (List.Perm.cons _ (matS_perm hj hj2)).trans (.swap _ _ _)
theorem mat_back {us : List Value} {xss : List (List τ.den)} {j : Nat} {u : Value} {xs : List τ.den} (hj : j < us.length) (hj2 : j < xss.length) : ((w, c) :: (u, .row e τ xs) :: matS e τ (us.eraseIdx j) (xss.eraseIdx j)).Perm ((w, c) :: matS e τ (us.set j u) (xss.set j xs)) := .cons _ (matS_set hj hj2)
end Go.Fs
namespace Go.Proofs
open Go.Fs
set_option maxHeartbeats 1000000
theorem zt25 : ZerT Tryz.prog 25 y25 := zerT_of (z := .slice none 0 0) (by kernel_rfl) rfl rfl
def behF (l : List Pha) (n k : Nat) : List Int := ((List.range n).filter fun q => (phA l q).2.2.2.contains ((k : Nat) : Int)).map fun q => ((q : Nat) : Int)
def behM (l : List Pha) (n : Nat) : List (List Int) := (List.range n).map (behF l n)
def behJ (l : List Pha) (i j k : Nat) : List Int := behF l i k ++ if ((k : Nat) : Int) ∈ (phA l i).2.2.2.take j then [((i : Nat) : Int)] else []
theorem behF_succ {l : List Pha} {i k : Nat} : behF l (i + 1) k = behF l i k ++ if ((k : Nat) : Int) ∈ (phA l i).2.2.2 then [((i : Nat) : Int)] else [] := by
  unfold behF; rw [List.range_succ, List.filter_append, List.map_append]; congr 1; by_cases h : ((k : Nat) : Int) ∈ (phA l i).2.2.2
  · rw [if_pos h]; simp [h]
  rw [if_neg h]; simp [h]
theorem behJ_end {l : List Pha} {i j : Nat} (h : (phA l i).2.2.2.length ≤ j) (k : Nat) : behJ l i j k = behF l (i + 1) k := by
  rw [behJ, behF_succ, List.take_of_length_le h]
theorem behJ_0 {l : List Pha} {i : Nat} (k : Nat) : behJ l i 0 k = behF l i k := by
  rw [behJ, List.take_zero, if_neg (by simp), List.append_nil]
theorem behF_len {l : List Pha} {n k : Nat} : (behF l n k).length ≤ n := by
  unfold behF; rw [List.length_map]; exact Nat.le_trans (List.length_filter_le _ _) (by simp)
theorem behJ_len {l : List Pha} {i j k : Nat} : (behJ l i j k).length ≤ i + 1 := by
  unfold behJ; have := behF_len (l := l) (n := i) (k := k); rw [List.length_append]; split <;> simp <;> omega
theorem behF_mem {l : List Pha} {n k : Nat} {x : Int} : x ∈ behF l n k ↔ ∃ q, q < n ∧ ((k : Nat) : Int) ∈ (phA l q).2.2.2 ∧ x = ((q : Nat) : Int) := by
  unfold behF; simp only [List.mem_map, List.mem_filter, List.mem_range, List.contains_iff_mem]; constructor
  · rintro ⟨q, ⟨h1, h2⟩, rfl⟩; exact ⟨q, h1, h2, rfl⟩
  rintro ⟨q, h1, h2, rfl⟩; exact ⟨q, ⟨h1, h2⟩, rfl⟩
def behW (l : List Pha) (n i j : Nat) : List (List Int) := (List.range n).map (behJ l i j)
theorem behW_len {l : List Pha} {n i j : Nat} : (behW l n i j).length = n := by simp [behW]
theorem behW_at {l : List Pha} {n i j k : Nat} (h : k < (behW l n i j).length) : (behW l n i j)[k] = behJ l i j k := by simp [behW]
theorem behW_0 {l : List Pha} {n i : Nat} : behW l n i 0 = (List.range n).map (behF l i) := by
  unfold behW; congr 1; funext k; exact behJ_0 k
theorem behW_end {l : List Pha} {n i j : Nat} (h : (phA l i).2.2.2.length ≤ j) : behW l n i j = (List.range n).map (behF l (i + 1)) := by
  unfold behW; congr 1; funext k; exact behJ_end h k
theorem behW_zero {l : List Pha} {n : Nat} : (List.range n).map (behF l 0) = List.replicate n [] := by
  refine List.ext_getElem (by simp) fun i h1 h2 => ?_; rw [List.getElem_map, List.getElem_range, List.getElem_replicate] <;> rfl
theorem behW_step {l : List Pha} (hp : PlanOk l) {n i j : Nat} (hi : i < l.length) (hj : j < l[i].2.2.2.length) (h : (l[i].2.2.2[j]).toNat < (behW l n i j).length) : (behW l n i j).set (l[i].2.2.2[j]).toNat ((behW l n i j)[(l[i].2.2.2[j]).toNat] ++ [((i : Nat) : Int)]) = behW l n i (j + 1) := by
  have hb : (phA l i).2.2.2 = l[i].2.2.2 := by rw [phA_eq hi]
  have hbf := hp.bef i hi; rw [hb] at hbf; have hk := hbf j hj; rw [getDg hj] at hk; rw [behW_at h]; refine List.ext_getElem (by rw [List.length_set, behW_len, behW_len]) fun q h1 h2 => ?_; rw [List.getElem_set, behW_at, behW_at]
  have hmem : ∀ q : Nat, ((q : Nat) : Int) ∈ l[i].2.2.2.take (j + 1) ↔ ((q : Nat) : Int) ∈ l[i].2.2.2.take j ∨ q = (l[i].2.2.2[j]).toNat := fun q => by
    rw [List.take_succ_eq_append_getElem hj, List.mem_append, List.mem_singleton]; constructor
    · rintro (h | h)
      · exact .inl h
      exact .inr (by omega)
    rintro (h | h)
    · exact .inl h
    exact .inr (by omega)
  by_cases e : (l[i].2.2.2[j]).toNat = q
  · rw [if_pos e]
    have hno : ¬ ((q : Nat) : Int) ∈ l[i].2.2.2.take j := fun hm => by
      obtain ⟨p, hp1, hp2⟩ := List.mem_iff_getElem.1 hm; rw [List.length_take] at hp1; rw [List.getElem_take] at hp2; have := hk.2.2 p (by omega); rw [getDg (by omega)] at this; omega
    unfold behJ; rw [e, hb, if_neg hno, if_pos ((hmem q).2 (.inr e.symm)), List.append_nil]
  rw [if_neg e]; unfold behJ; rw [hb]; congr 1; by_cases hm : ((q : Nat) : Int) ∈ l[i].2.2.2.take j
  · rw [if_pos hm, if_pos ((hmem q).2 (.inl hm))]
  rw [if_neg hm, if_neg fun h => ((hmem q).1 h).elim hm fun h => e h.symm]
theorem cBehind_ok {l : List Pha} (hp : PlanOk l) : VF Tryz.prog OA 87 [.v y29 l] (.v (.sl (.sl (.int .i64))) (behM l l.length)) := by
  refine VF.enter Tryz.func87 rfl (fun _ _ => rfl) rfl ?_; show VC _ _ _ _ _ [(0, .v y29 l)] [] _; have hlen := hp.len; refine VC.seq (VC.text ?_); refine VO.c (.assign rfl) ?_; refine VO.go (VC.seq (VC.text ?_)); refine VO.c (.move rfl) ?_; refine VO.r (.len el29) ?_; refine VO.cell (.makeN (k := l.length) rfl rfl el86 zt25 (by omega)) ?_; intro ww1; refine VO.matNil 3 (.int .i64) l.length ?_; refine VO.c (.assign rfl) ?_
  refine VO.perm (σ' := (ww1, .cel 25 l.length ((List.replicate l.length (Value.slice none 0 0)).map .raw)) :: matS 3 (.int .i64) (List.replicate l.length (.slice none 0 0)) (List.replicate l.length [])) (by
    rw [List.map_replicate]
    exact List.perm_append_comm) ?_
  refine VO.go (VC.seq (VC.seq (VC.text ?_))); refine VO.c (.move rfl) ?_; refine VO.r (.len el29) ?_; refine VO.c (.move rfl) ?_; refine VO.go (VC.block ?_); refine VC.keep [(3, .raw ww1), (11, .v y29 l), (12, I ((l.length : Nat) : Int)), (13, I ((0 : Nat) : Int))] ⟨rfl, rfl, rfl, rfl, trivial⟩ ?_; refine VC.loop (I := fun kk ff ss => ∃ (i : Nat) (us : List Value), kk = l.length - i ∧ ff = [(3, .raw ww1), (11, .v y29 l), (12, I ((l.length : Nat) : Int)), (13, I ((i : Nat) : Int))] ∧ ss = (ww1, .cel 25 l.length (us.map .raw)) :: matS 3 (.int .i64) us ((List.range l.length).map (behF l i)) ∧ i ≤ l.length ∧ us.length = l.length) ?_ _ _ _ ⟨0, List.replicate l.length (.slice none 0 0), rfl, rfl, (by rw [behW_zero]), Nat.zero_le _, (by simp)⟩; rintro kk ff ss ⟨i, us, hk0, rfl, rfl, hi, hus⟩; refine VC.seq (VC.text ?_); refine VO.c (.lss) ?_; refine VO.go (VC.seq ?_); refine VC.condD rfl (fun c3 => ?_) (fun c3 => ?_)
  · have hlt : i < l.length := by omega
    have hbl : (phA l i).2.2.2 = l[i].2.2.2 := by rw [phA_eq hlt]
    have hbf := hp.bef i hlt; rw [hbl] at hbf; have hbn := hp.blen hlt; rw [hbl] at hbn; refine VC.skip (VC.seq (VC.block (VC.seq (VC.text ?_)))); refine VO.c (.move rfl) (VO.c (.ix (j := i) rfl rfl el29 (by omega)) ?_); refine VO.r (.ld vt84) ?_; refine VO.cell (.alloc zt84) ?_; intro ww3; refine VO.c (.assign rfl) ?_; refine VO.setV (cs' := [St ((l[i]).1), I ((l[i]).2.1), I ((l[i]).2.2.1), .v y25 ((l[i]).2.2.2)]) vt84 .v ?_; refine VO.shut [(5, .p y84 (l[i]))] (.cons rfl (.var m0 .refl) .nil) ?_; refine VO.go (VC.seq (VC.text ?_)); refine VO.c (.fa (.r (.r (.r .o)))) ?_; refine VO.r (.ld vt25) ?_; refine VO.r (.len el25) ?_; refine VO.c (.move rfl) ?_; refine VO.go (VC.block ?_); refine VC.keep [(3, .raw ww1), (4, I ((i : Nat) : Int)), (11, .v y29 l), (12, I ((l.length : Nat) : Int)), (13, I ((i : Nat) : Int)), (19, .v y25 ((l[i]).2.2.2)), (20, I ((((l[i]).2.2.2).length : Nat) : Int)), (21, I ((0 : Nat) : Int))] ⟨rfl, rfl, rfl, rfl, rfl, rfl, rfl, rfl, trivial⟩ ?_; refine VC.loop (I := fun kk ff ss => ∃ (k : Nat) (us : List Value), kk = l[i].2.2.2.length - k ∧ ff = [(3, .raw ww1), (4, I ((i : Nat) : Int)), (11, .v y29 l), (12, I ((l.length : Nat) : Int)), (13, I ((i : Nat) : Int)), (19, .v y25 ((l[i]).2.2.2)), (20, I ((((l[i]).2.2.2).length : Nat) : Int)), (21, I ((k : Nat) : Int))] ∧ ss = (ww1, .cel 25 l.length (us.map .raw)) :: matS 3 (.int .i64) us (behW l l.length i k) ∧ k ≤ l[i].2.2.2.length ∧ us.length = l.length) ?_ _ _ _ ⟨0, us, rfl, rfl, (by rw [behW_0]), (by omega), hus⟩; clear hus; rintro kk ff ss ⟨k, us, hk2, rfl, rfl, hk, hus⟩; refine VC.seq (VC.text ?_); refine VO.c (.lss) ?_; refine VO.go (VC.seq ?_); refine VC.condD rfl (fun c6 => ?_) (fun c6 => ?_)
    · have hk2 : k < l[i].2.2.2.length := by omega
      have hbk := hbf k hk2; rw [getDg hk2] at hbk; have hwl : (behW l l.length i k).length = l.length := behW_len; have hst := behW_step hp (n := l.length) hlt hk2 (by omega); have hwa := behW_at (l := l) (n := l.length) (i := i) (j := k) (k := (l[i].2.2.2[k]).toNat) (by omega); have hjl := behJ_len (l := l) (i := i) (j := k) (k := (l[i].2.2.2[k]).toNat); refine VC.skip (VC.seq (VC.block (VC.seq (VC.text ?_)))); refine VO.c (.ix (j := k) rfl rfl el25 (by omega)) ?_; refine VO.r (.ld vt3) ?_; refine VO.c (.assign rfl) ?_; refine VO.go (VC.text ?_); refine VO.c (.move rfl) (VO.c (.move rfl) (VO.c (.move rfl) (VO.c (.move rfl) ?_))); refine VO.c (.ixCZ (k := ((l[i]).2.2.2)[k]) rfl rfl m0 el86 (by omega) (by omega)) ?_; refine VO.r (.ldC (j := (((l[i]).2.2.2)[k]).toNat) (v := .raw (us[(((l[i]).2.2.2)[k]).toNat]'(by omega))) rfl m0 vt25 (by rw [List.getElem?_map, List.getElem?_eq_getElem (by omega)]; rfl) (by omega)) ?_; refine VO.c (.move rfl) ?_; refine VO.new (.lit [((i : Nat) : Int)] el25) ?_; refine VO.perm (mat_front (j := (((l[i]).2.2.2)[k]).toNat) (by omega) (by omega)) ?_; refine VO.app rfl rfl el25 el25 (by rw [hwa]; simp; omega) ?_; intro ww4; refine VO.one m0 fun ho1 => ?_; refine VO.c (.ixCZ (k := ((l[i]).2.2.2)[k]) rfl rfl m1 el86 (by omega) (by omega)) ?_; refine VO.perm swap1 ?_; refine VO.setC (((l[i]).2.2.2)[k]).toNat vt25 (by omega) (by rw [List.length_map]; omega) rfl rfl ho1 ?_; refine VO.perm (mat_back (by omega) (by omega)) ?_; refine VO.nil (VC.text ?_); refine VO.c (.add rfl rfl (by omega)) (VO.c (.move rfl) ?_); refine VO.nil ?_; refine ⟨_, [(3, .raw ww1), (4, I ((i : Nat) : Int)), (11, .v y29 l), (12, I ((l.length : Nat) : Int)), (13, I ((i : Nat) : Int)), (19, .v y25 ((l[i]).2.2.2)), (20, I ((((l[i]).2.2.2).length : Nat) : Int)), (21, I (((k + 1) : Nat) : Int))], ?_, ⟨rfl, rfl, rfl, rfl, rfl, rfl, rfl, rfl, trivial⟩, k + 1, us.set (((l[i]).2.2.2)[k]).toNat ww4, rfl, rfl, (by rw [← hst, List.map_set]), (by omega), (by rw [List.length_set]; exact hus)⟩; omega
    refine VC.exit (VC.text ?_); refine VO.c (.add rfl rfl (by omega)) (VO.c (.move rfl) ?_); refine VO.nil ?_; refine ⟨_, [(3, .raw ww1), (11, .v y29 l), (12, I ((l.length : Nat) : Int)), (13, I (((i + 1) : Nat) : Int))], ?_, ⟨rfl, rfl, rfl, rfl, trivial⟩, i + 1, us, rfl, rfl, (by rw [behW_end (by rw [hbl]; omega)]), (by omega), hus⟩; omega
  refine VC.exit (VC.seq (VC.text ?_)); refine VO.c (.move rfl) (VO.c (.assign rfl) (VO.go ?_)); refine VC.ret ?_; exact VEnd.one rfl (evC (co_mat0 (by rw [hus]; simp) hus.symm)) (pvE (by rw [show i = l.length by omega]; rfl))
end Go.Proofs
namespace Go.Proofs
open Go.Fs
set_option maxHeartbeats 1000000
def aftG (d : Pha → Int) (l : List Pha) : Nat → Nat → Int
  | 0, _ => 0
  | f + 1, p => maxL ((behF l l.length p).map fun x => d (phA l x.toNat) + aftG d l f x.toNat)
theorem beh_lt {l : List Pha} (hp : PlanOk l) {p : Nat} {x : Int} (h : x ∈ behF l l.length p) : ((p : Nat) : Int) < x ∧ x < ((l.length : Nat) : Int) := by
  obtain ⟨q, h1, h2, rfl⟩ := behF_mem.1 h; obtain ⟨k, hk, he⟩ := List.mem_iff_getElem.1 h2; have := (hp.bef q h1 k hk).2.1; rw [getDg hk, he] at this; omega
theorem aftG_stable {d : Pha → Int} {l : List Pha} (hp : PlanOk l) : ∀ (f g p : Nat), l.length - p ≤ f → l.length - p ≤ g → aftG d l f p = aftG d l g p
  | 0, 0, p, _, _ => rfl
  | 0, g + 1, p, h1, _ => by
    have : behF l l.length p = [] := List.eq_nil_iff_forall_not_mem.2 fun x hx => by have := beh_lt hp hx; omega
    show 0 = maxL _
    rw [this] <;> rfl
  | f + 1, 0, p, _, h2 => by
    have : behF l l.length p = [] := List.eq_nil_iff_forall_not_mem.2 fun x hx => by have := beh_lt hp hx; omega
    show maxL _ = 0
    rw [this] <;> rfl
  | f + 1, g + 1, p, h1, h2 => by
    show maxL _ = maxL _; congr 1; refine List.map_congr_left fun x hx => ?_; have := beh_lt hp hx; rw [aftG_stable hp f g x.toNat (by omega) (by omega)]
def aftF (d : Pha → Int) (l : List Pha) (p : Nat) : Int := aftG d l (l.length - p) p
def chnF (d : Pha → Int) (l : List Pha) (p : Nat) : Int := d (phA l p) + aftF d l p
theorem aftF_eq {d : Pha → Int} {l : List Pha} (hp : PlanOk l) (p : Nat) : aftF d l p = maxL ((behF l l.length p).map fun x => chnF d l x.toNat) := by
  unfold aftF; rw [aftG_stable hp (l.length - p) (l.length - p + 1) p (Nat.le_refl _) (by omega)]; show maxL _ = maxL _; congr 1; refine List.map_congr_left fun x hx => ?_; have := beh_lt hp hx; unfold chnF aftF; rw [aftG_stable hp (l.length - p) (l.length - x.toNat) x.toNat (by omega) (Nat.le_refl _)]
def chnL (d : Pha → Int) (l : List Pha) : List Int := (List.range l.length).map (chnF d l)
theorem maxL_nn : ∀ {l : List Int}, 0 ≤ maxL l := by
  intro l
  have : ∀ (l : List Int) (m : Int), 0 ≤ m → 0 ≤ l.foldl max m := fun l => by
    induction l with
    | nil => intro m h; exact h
    | cons x r ih => intro m h; exact ih _ (by omega)
  exact this l 0 (Int.le_refl _)
theorem maxL_fold : ∀ {l : List Int} {m M : Int}, l.foldl max m ≤ M ↔ m ≤ M ∧ ∀ x ∈ l, x ≤ M
  | [], m, M => by simp
  | x :: r, m, M => by
    rw [List.foldl_cons, maxL_fold (l := r)]; simp only [List.mem_cons, forall_eq_or_imp]; exact ⟨fun ⟨h1, h2⟩ => ⟨by omega, by omega, h2⟩, fun ⟨h1, h2, h3⟩ => ⟨by omega, h3⟩⟩
theorem maxL_le {l : List Int} {M : Int} : maxL l ≤ M ↔ 0 ≤ M ∧ ∀ x ∈ l, x ≤ M := maxL_fold
theorem maxL_ge {l : List Int} {x : Int} (h : x ∈ l) : x ≤ maxL l := (maxL_le.1 (Int.le_refl (maxL l))).2 x h
theorem maxL_mem : ∀ {l : List Int}, maxL l = 0 ∨ maxL l ∈ l := by
  intro l
  have : ∀ (l : List Int) (m : Int), l.foldl max m = m ∨ l.foldl max m ∈ l := fun l => by
    induction l with
    | nil => intro m; exact .inl rfl
    | cons x r ih =>
      intro m; rw [List.foldl_cons]; rcases ih (max m x) with h | h
      · by_cases hx : x ≤ m
        · exact .inl (by rw [h]; omega)
        exact .inr (by rw [h, show max m x = x by omega]; exact List.mem_cons_self)
      exact .inr (List.mem_cons_of_mem _ h)
  exact this l 0
theorem chn_b {d : Pha → Int} {l : List Pha} (hp : PlanOk l) (hd : DurOk d l) : ∀ (f p : Nat), l.length - p ≤ f → p < l.length → 0 ≤ aftF d l p ∧ 0 ≤ chnF d l p ∧ chnF d l p ≤ 1000 * (((l.length - p : Nat)) : Int)
  | 0, p, h, hl => by omega
  | f + 1, p, h, hl => by
    have h1 := hd p hl
    have h2 : aftF d l p ≤ 1000 * (((l.length - (p + 1) : Nat)) : Int) := by
      rw [aftF_eq hp]; refine maxL_le.2 ⟨by omega, fun y hy => ?_⟩; obtain ⟨x, hx, rfl⟩ := List.mem_map.1 hy; have h3 := beh_lt hp hx; have := chn_b hp hd f x.toNat (by omega) (by omega); omega
    have h3 : 0 ≤ aftF d l p := by rw [aftF_eq hp]; exact maxL_nn
    unfold chnF; omega
theorem chn_bd {d : Pha → Int} {l : List Pha} (hp : PlanOk l) (hd : DurOk d l) {p : Nat} (h : p < l.length) : 0 ≤ aftF d l p ∧ 0 ≤ chnF d l p ∧ chnF d l p ≤ 16000 := by
  have := chn_b hp hd _ p (Nat.le_refl _) h; have := hp.len; omega
def rowC (d : Pha → Int) (l : List Pha) (m : Nat) : List Int := (List.range l.length).map fun p => if m ≤ p then chnF d l p else 0
def rowI (d : Pha → Int) (l : List Pha) (i k : Nat) : List Int := (rowC d l (i + 1)).set i (d (phA l i) + maxL (((behF l l.length i).take k).map fun x => chnF d l x.toNat))
theorem rowC_len {d : Pha → Int} {l : List Pha} {m : Nat} : (rowC d l m).length = l.length := by simp [rowC]
theorem rowI_len {d : Pha → Int} {l : List Pha} {i k : Nat} : (rowI d l i k).length = l.length := by simp [rowI, rowC]
theorem rowC_at {d : Pha → Int} {l : List Pha} {m p : Nat} (h : p < (rowC d l m).length) : (rowC d l m)[p] = if m ≤ p then chnF d l p else 0 := by simp [rowC]
theorem rowC_end {d : Pha → Int} {l : List Pha} : rowC d l 0 = chnL d l := by simp [rowC, chnL]
theorem rowC_0 {d : Pha → Int} {l : List Pha} : List.replicate l.length 0 = rowC d l l.length := by
  refine List.ext_getElem (by simp [rowC]) fun i h1 h2 => ?_; rw [rowC_at, List.getElem_replicate, if_neg (by simp at h1; omega)]
theorem rowI_at {d : Pha → Int} {l : List Pha} {i k : Nat} (h : i < (rowI d l i k).length) : (rowI d l i k)[i] = d (phA l i) + maxL (((behF l l.length i).take k).map fun x => chnF d l x.toNat) := by
  unfold rowI at h ⊢; rw [List.getElem_set_self]
theorem rowI_gt {d : Pha → Int} {l : List Pha} {i k p : Nat} (hp : i < p) (h : p < (rowI d l i k).length) : (rowI d l i k)[p] = chnF d l p := by
  unfold rowI at h ⊢; rw [List.getElem_set, if_neg (by omega), rowC_at, if_pos (by omega)]
theorem rowI_0 {d : Pha → Int} {l : List Pha} {m i : Nat} (hm : m = i + 1) {v : Int} (hv : v = d (phA l i)) : (rowC d l m).set i v = rowI d l i 0 := by
  subst hm; unfold rowI; rw [hv, List.take_zero, List.map_nil, show maxL [] = 0 from rfl, Int.add_zero]
theorem rowI_step {d : Pha → Int} {l : List Pha} {i k : Nat} {a b c : Int} (hk : k < (behF l l.length i).length) (ha : a = d (phA l i) + maxL (((behF l l.length i).take k).map fun x => chnF d l x.toNat)) (hb : b = d (phA l i)) (hc : c = chnF d l ((behF l l.length i)[k]).toNat) : (rowI d l i k).set i (max a (b + c)) = rowI d l i (k + 1) := by
  unfold rowI; rw [List.set_set]; congr 1; rw [List.take_succ_eq_append_getElem hk, List.map_append, List.map_singleton, maxL_app, ha, hb, hc]; omega
theorem rowI_end {d : Pha → Int} {l : List Pha} (hp : PlanOk l) {i k : Nat} (hk : (behF l l.length i).length ≤ k) : rowI d l i k = rowC d l i := by
  refine List.ext_getElem (by rw [rowI_len, rowC_len]) fun p h1 h2 => ?_; by_cases e : p = i
  · subst e; rw [rowI_at, rowC_at, if_pos (Nat.le_refl _), List.take_of_length_le hk, ← aftF_eq hp] <;> rfl
  unfold rowI at h1 ⊢; rw [List.getElem_set, if_neg (fun h => e h.symm), rowC_at, rowC_at]; by_cases h3 : i ≤ p
  · rw [if_pos (by omega), if_pos h3]
  rw [if_neg (by omega), if_neg h3]
theorem behM_at {l : List Pha} {n k : Nat} (h : k < (behM l n).length) : (behM l n)[k] = behF l n k := by simp [behM]
theorem behM_len {l : List Pha} {n : Nat} : (behM l n).length = n := by simp [behM]
theorem cChains_ok {F : Pha → Int} {l : List (ByteArray × Int × Int × (List Int))} {f : PV} (hp : PlanOk l) (hd : DurOk F l) (hf : ∀ x ∈ l, VCall Tryz.prog OA f [.v y84 x] (I (F x))) : VF Tryz.prog OA 86 [.v y29 l, f] (.v y25 (chnL F l)) := by
  refine VF.enter Tryz.func86 rfl (fun _ _ => rfl) rfl ?_; show VC _ _ _ _ _ [(0, .v y29 l), (1, f)] [] _; refine VC.seq (VC.text ?_); have hlen := hp.len; have hbml : (behM l l.length).length = l.length := behM_len; refine VO.c (.assign rfl) ?_; refine VO.go (VC.seq (VC.text ?_)); refine VO.c (.move rfl) ?_; refine VO.call rfl rfl (VF.call (cBehind_ok hp)) ?_; refine VO.c (.assign rfl) ?_; refine VO.go (VC.seq (VC.text ?_)); refine VO.c (.move rfl) ?_; refine VO.r (.len el29) ?_; refine VO.cell (.make (k := l.length) rfl rfl el25 zt3 (by omega)) ?_; intro ww1; refine VO.c (.assign rfl) ?_; refine VO.go (VC.seq (VC.seq (VC.text ?_))); refine VO.c (.move rfl) ?_; refine VO.r (.len el29) ?_; refine VO.c (.sub rfl rfl (by omega)) (VO.c (.assign rfl) ?_); refine VO.go (VC.block ?_); refine VC.keep [(0, .v y29 l), (1, f), (5, .v y86 (behM l l.length)), (6, .raw ww1), (7, I (((l.length : Nat) : Int) - 1))] ⟨rfl, rfl, rfl, rfl, rfl, trivial⟩ ?_; refine VC.loop (I := fun kk ff ss => ∃ (m : Nat), kk = m ∧ ff = [(0, .v y29 l), (1, f), (5, .v y86 (behM l l.length)), (6, .raw ww1), (7, I (((m : Nat) : Int) - 1))] ∧ ss = [(ww1, .row 3 (.int .i64) (rowC F l m))] ∧ (m ≤ l.length)) ?_ _ _ _ ⟨l.length, rfl, rfl, (by show [(_, Cell.row _ (.int .i64) (List.replicate l.length (0 : Int)))] = _; rw [rowC_0]), (by omega)⟩; rintro kk ff ss ⟨m, hk0, rfl, rfl, hm⟩; refine VC.seq (VC.seq (VC.text ?_)); refine VO.c (.move rfl) (VO.c (.geq) (VO.go ?_)); refine VC.condD rfl (fun c4 => ?_) (fun c4 => ?_)
  · have hi : (((m : Nat) : Int) - 1).toNat = m - 1 := by omega
    have hil : m - 1 < l.length := by omega
    have hrl : (rowC F l m).length = l.length := rowC_len; have hd2 := hd (m - 1) hil
    have hbm : (behM l l.length)[(((m : Nat) : Int) - 1).toNat]'(by omega) = behF l l.length (m - 1) := by simp only [hi]; exact behM_at _
    have hle : l[(((m : Nat) : Int) - 1).toNat]'(by omega) = phA l (m - 1) := by simp only [hi]; rw [phA_eq hil]
    have hl2 : l[m - 1]'(by omega) = phA l (m - 1) := (phA_eq hil).symm; have hbfl := behF_len (l := l) (n := l.length) (k := m - 1); refine VC.skip (VC.seq (VC.block (VC.seq (VC.text ?_)))); refine VO.c (.move rfl) (VO.c (.move rfl) (VO.c (.move rfl) (VO.c (.move rfl) ?_))); refine VO.c (.move rfl) (VO.c (.ixZ (k := (((m : Nat) : Int) - 1)) rfl rfl el29 (by omega) (by omega)) ?_); refine VO.r (.ld vt84) ?_; refine VO.call rfl rfl ((hf _ (List.getElem_mem _)) ) ?_; refine VO.c (.ixOZ (k := (((m : Nat) : Int) - 1)) rfl rfl m0 el25 (by omega) (by omega)) ?_; refine VO.setE (Int.toNat (((m : Nat) : Int) - 1)) rfl rfl vt3 (by omega) ?_; refine VO.go (VC.seq (VC.text ?_)); refine VO.c (.move rfl) (VO.c (.move rfl) (VO.c (.ixZ (k := (((m : Nat) : Int) - 1)) rfl rfl el86 (by omega) (by omega)) ?_)); refine VO.r (.ld vt25) ?_; rw [hbm]; refine VO.r (.len el25) ?_; refine VO.c (.move rfl) ?_; refine VO.go (VC.block ?_); refine VC.keep [(0, .v y29 l), (1, f), (5, .v y86 (behM l l.length)), (6, .raw ww1), (7, I (((m : Nat) : Int) - 1)), (34, .v y25 (behF l l.length (m - 1))), (35, I (((behF l l.length (m - 1)).length : Nat) : Int)), (36, I ((0 : Nat) : Int))] ⟨rfl, rfl, rfl, rfl, rfl, rfl, rfl, rfl, trivial⟩ ?_; refine VC.loop (I := fun kk ff ss => ∃ (k : Nat), kk = (behF l l.length (m - 1)).length - k ∧ ff = [(0, .v y29 l), (1, f), (5, .v y86 (behM l l.length)), (6, .raw ww1), (7, I (((m : Nat) : Int) - 1)), (34, .v y25 (behF l l.length (m - 1))), (35, I (((behF l l.length (m - 1)).length : Nat) : Int)), (36, I ((k : Nat) : Int))] ∧ ss = [(ww1, .row 3 (.int .i64) (rowI F l (m - 1) k))] ∧ (k ≤ (behF l l.length (m - 1)).length)) ?_ _ _ _ ⟨0, rfl, rfl, (by simp only [hi, hl2]; rw [rowI_0 (by omega) rfl]), (by omega)⟩; rintro kk ff ss ⟨k, hk2, rfl, rfl, hk⟩; have hrl2 : (rowI F l (m - 1) k).length = l.length := rowI_len; refine VC.seq (VC.text ?_); refine VO.c (.lss) ?_; refine VO.go (VC.seq ?_); refine VC.condD rfl (fun c8 => ?_) (fun c8 => ?_)
    · have hk2 : k < (behF l l.length (m - 1)).length := by omega
      have hb1 := beh_lt hp (List.getElem_mem hk2); have hc := chn_bd hp hd (p := ((behF l l.length (m - 1))[k]).toNat) (by omega); have hri : (rowI F l (m - 1) k)[((behF l l.length (m - 1))[k]).toNat]'(by omega) = chnF F l ((behF l l.length (m - 1))[k]).toNat := rowI_gt (by omega) _
      have hr0 : (rowI F l (m - 1) k)[(((m : Nat) : Int) - 1).toNat]'(by omega) = F (phA l (m - 1)) + maxL (((behF l l.length (m - 1)).take k).map fun x => chnF F l x.toNat) := by simp only [hi]; exact rowI_at _
      refine VC.skip (VC.seq (VC.block (VC.seq (VC.text ?_)))); refine VO.c (.ix (j := k) rfl rfl el25 (by omega)) ?_; refine VO.r (.ld vt3) ?_; refine VO.c (.assign rfl) ?_; refine VO.go (VC.drawn ?_); refine VD.c (.move rfl) (VD.c (.move rfl) (VD.c (.move rfl) (VD.c (.move rfl) ?_))); refine VD.co (.ixOZ (k := (((m : Nat) : Int) - 1)) rfl rfl m0 el25 (by omega) (by omega)) ?_; refine VD.r [(ww1, .row 3 (.int .i64) (rowI F l (m - 1) k))] (.ldO rfl m0 vt3 (by omega)) (.inr ⟨rfl, rfl⟩) ?_; refine VD.nw [] (VD.c (.move rfl) (VD.c (.move rfl) (VD.c (.move rfl) ?_))); refine VD.c (.ixZ (k := (((m : Nat) : Int) - 1)) rfl rfl el29 (by omega) (by omega)) ?_; refine VD.r [] (.ld vt84) (.inl rfl) ?_; refine VD.call rfl rfl ((hf _ (List.getElem_mem _)) ) ?_; refine VD.c (.move rfl) (VD.nw [] (VD.c (.move rfl) ?_)); refine VD.co (.ixOZ (k := (behF l l.length (m - 1))[k]) rfl rfl m0 el25 (by omega) (by omega)) ?_; refine VD.r [(ww1, .row 3 (.int .i64) (rowI F l (m - 1) k))] (.ldO rfl m0 vt3 (by omega)) (.inr ⟨rfl, rfl⟩) ?_; refine VD.c (.add rfl rfl (by rw [hri, hle]; omega)) (VD.c (.imax) ?_); refine VD.co (.ixOZ (k := (((m : Nat) : Int) - 1)) rfl rfl m0 el25 (by omega) (by omega)) ?_; refine VD.mk0 (MakeV.setE (j := (Int.toNat (((m : Nat) : Int) - 1))) vt3 (by omega) rfl rfl) ?_; rintro _ _ tl2 ⟨rfl, rfl⟩; refine VD.nil ?_; refine VC.text ?_; refine VO.c (.add rfl rfl (by omega)) (VO.c (.move rfl) ?_); refine VO.nil ?_; refine ⟨_, [(0, .v y29 l), (1, f), (5, .v y86 (behM l l.length)), (6, .raw ww1), (7, I (((m : Nat) : Int) - 1)), (34, .v y25 (behF l l.length (m - 1))), (35, I (((behF l l.length (m - 1)).length : Nat) : Int)), (36, I (((k + 1) : Nat) : Int))], ?_, ⟨rfl, rfl, rfl, rfl, rfl, rfl, rfl, rfl, trivial⟩, (k + 1), rfl, rfl, (by simp only [hi, hl2, hri]; rw [rowI_step hk2 (rowI_at _) rfl rfl]), (by omega)⟩; omega
    refine VC.exit (VC.text ?_); refine VO.c (.move rfl) (VO.c (.sub rfl rfl (by omega)) (VO.c (.assign rfl) ?_)); refine VO.nil ?_; refine ⟨_, [(0, .v y29 l), (1, f), (5, .v y86 (behM l l.length)), (6, .raw ww1), (7, I ((((m - 1) : Nat) : Int) - 1))], ?_, ⟨rfl, rfl, rfl, rfl, slI rfl (by omega), trivial⟩, (m - 1), rfl, rfl, (by rw [rowI_end hp (by omega)]), (by omega)⟩; omega
  refine VC.exit (VC.seq (VC.text ?_)); refine VO.c (.move rfl) (VO.c (.assign rfl) (VO.go ?_)); refine VC.ret ?_; exact VEnd.one rfl (evC (.row m0)) (pvE (by rw [show m = 0 by omega, rowC_end]))
end Go.Proofs
