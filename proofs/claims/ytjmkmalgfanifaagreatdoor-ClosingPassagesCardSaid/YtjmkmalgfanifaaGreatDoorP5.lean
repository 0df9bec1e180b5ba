/- Parts of the proof: an evaluator of the model, what it is sound for, and contracts of functions. No condition. -/
import Derived.Test.YtjmkmalgfanifaaGreatDoorP2
import Derived.Test.YtjmkmalgfanifaaGreatDoorP4
import Derived.Scope
import Derived.Lib.ItoaNum
import Derived.Lib.Join
import Derived.Sort.OwnSorted
import Derived.Test.YtjmkmalgfanifaaGreatDoorChecked
import Derived.ChangeArms
import Derived.Carry
import Derived.RowKit
import Derived.OpenShut
import Derived.Test.YtjmkmalgfanifaaGreatDoorP3
set_option linter.all false
namespace Go
variable {P : Program}
theorem stepR_scopeFs {b : Frame} {a : Act} {k : List Item} {cs : List Frame} {w : World} {c : Code} : step P (lone (b.atR a (.code (.scope c) :: k)) cs w) = .next (lone (b.atR a (.code c :: .inScope c :: k)) cs w) :=
  step_lone_go (by simp [stepG, stepG.exec, Frame.atR])
theorem stepR_inScopeFs {b : Frame} {a : Act} {k : List Item} {cs : List Frame} {w : World} {c : Code} : step P (lone (b.atR a (.inScope c :: k)) cs w) = .next (lone (b.atR a k) cs w) :=
  step_lone_go (by simp [stepG, stepG.exec, Frame.atR])
theorem wpIn_scopeFs {F : Fence} {n : Nat} {Q : Exit → Act → World → Prop} {a : Act} {w : World} {c : Code} (h : c.wpIn F n P (Exit.noGoto Q) a w) : (Code.scope c).wpIn F n P Q a w := by
  intro b k cs hro hb hr; have h0 : (lone (b.atR a (.code (.scope c) :: k)) cs w).fenced P F := fenced_calm hb hr rfl; obtain ⟨e, a₁, w₁, hq, harr⟩ := h b (.inScope c :: k) cs hro hb hr
  cases e with
  | normal => exact ⟨.normal, a₁, w₁, hq, .head h0 stepR_scopeFs (StepsIn.trans harr (.one (fenced_calm hb hr rfl) stepR_inScopeFs))⟩
  | exit id =>
    have hx : exitTo id (.inScope c :: k) = exitTo id k := by simp [exitTo]
    exact ⟨.exit id, a₁, w₁, hq, fun k' hk => .head h0 stepR_scopeFs (harr.1 k' (by rw [hx]; exact hk)),
      fun hr' hk => let ⟨k₁, h1, h2⟩ := harr.2 hr' (by rw [hx]; exact hk); ⟨k₁, h1, .head h0 stepR_scopeFs h2⟩⟩
  | goto l => exact hq.elim
  | ret => exact ⟨_, a₁, w₁, hq, .of_steps (.one h0 stepR_scopeFs) harr⟩
  | panic ch => exact ⟨_, a₁, w₁, hq, .of_steps (.one h0 stepR_scopeFs) harr⟩
  | outgrown => exact ⟨_, a₁, w₁, hq, .of_steps (.one h0 stepR_scopeFs) harr⟩
end Go
namespace Go.Fs
open Go.RowKit (Below)
variable {P : Program} {ρ ρ' : Ren} {S S' : Nat → Prop} {B : Nat} {w0 w w' w1 w2 : World} {h h' h1 h2 : Heap}
theorem call_sound (hP : ProgOk P) {orc : FuncId → List Value → Heap → Option (Value × Heap)} (horc : CallSound P B w0 orc) {m : Nat} {rec : Rec} (hrec : SoundR P B w0 m rec) : CallSnd P B w0 (callOf P orc rec) := by
  intro f args h v h' hf; unfold callOf at hf; split at hf
  · rename_i r hr; simp only [Option.some.injEq] at hf; subst hf; exact .inl (horc _ _ _ _ _ hr)
  split at hf
  · rename_i r hr; simp only [Option.some.injEq] at hf; subst hf; refine .inr fun ρ S w args' hr2 ha => ?_; unfold fsExt at hr; split at hr
    · rename_i fn hfn; obtain ⟨hb, hr3⟩ := bif_some hr; obtain ⟨hb1, hb2⟩ := band hb; split at hr3
      · rename_i e h1 h2; obtain ⟨haf, hr4⟩ := bif_some hr3; obtain ⟨hp, rfl⟩ := map_pair hr4; obtain ⟨h3, h4⟩ := purely_ok hp w; have he : args' = args := ha.eq_of_af haf; subst he; refine ⟨w, v, ?_, ρ, Moved.same hr2, .of_af h4⟩; unfold callFunc
        have hb2' : (fn.name == "runtime.NumGoroutine") = false := by simpa using hb2
        simp only [Sem.run_bind, run_program, Result.andThen_ok, hfn, hb1, hb2', Bool.false_eq_true, if_false, if_true, h1, h2]; have hm : (mark (Mark.extern f)).run P w = .ok () w := rfl; rw [hm]; simp only [Result.andThen_ok, h3, Sem.run_pure]
      cases hr3
    cases hr
  exact .inl (enter_sound hP hrec _ _ _ _ _ hf)
theorem Post.same {fr : Fr} {a : Act} (hr : HR P ρ S B w0 h w) (ht : TrR ρ S fr.t fr.n a.tmps) (hm : MarksR ρ S fr.marks a.defers) : Post P B w0 ρ ρ S h w fr h w a :=
  ⟨Moved.same hr, ht.mono fun _ hb => ⟨.inl hb, rfl⟩, hm.mono fun _ hb => ⟨.inl hb, rfl⟩⟩
theorem step_sound (hP : ProgOk P) {orc : FuncId → List Value → Heap → Option (Value × Heap)} (horc : CallSound P B w0 orc) {m : Nat} {rec : Rec} (hrec : SoundR P B w0 m rec) : SoundR P B w0 (m + 1) (fsStep P orc rec) := by
  intro rnd c fr h e fr' h' hok hf ρ S w a nn Q hr ht hm hs k; have hcs : CallSnd P B w0 (callOf P orc rec) := call_sound hP horc hrec; have hys : YieldSound P B w0 (fsYield rec) := yield_sound hrec
  cases c with
  | skip =>
    simp only [fsStep, Option.some.injEq, Prod.mk.injEq] at hf; obtain ⟨rfl, rfl, rfl⟩ := hf
    exact wpIn_skip (k _ _ _ (Post.same hr ht hm))
  | label l =>
    simp only [fsStep, Option.some.injEq, Prod.mk.injEq] at hf; obtain ⟨rfl, rfl, rfl⟩ := hf
    exact wpIn_label (k _ _ _ (Post.same hr ht hm))
  | exit id =>
    simp only [fsStep, Option.some.injEq, Prod.mk.injEq] at hf; obtain ⟨rfl, rfl, rfl⟩ := hf
    exact wpIn_exit (k _ _ _ (Post.same hr ht hm))
  | ret =>
    simp only [fsStep, Option.some.injEq, Prod.mk.injEq] at hf; obtain ⟨rfl, rfl, rfl⟩ := hf
    exact wpIn_ret (k _ _ _ (Post.same hr ht hm))
  | goto l => simp only [fsStep] at hf; cases hf
  | refuse l => simp only [fsStep] at hf; cases hf
  | scope b =>
    simp only [fsStep] at hf; refine wpIn_scopeFs ?_; refine (hrec rnd b fr h e fr' h' hok hf ρ S w a nn _ hr ht hm hs fun ρ1 w1 a1 p1 => ?_).wpIn; have hq := k _ _ _ p1
    cases e with
    | normal => exact hq
    | exit id => exact hq
    | ret => exact hq
  | seq x y =>
    simp only [fsStep] at hf; obtain ⟨ok1, ok2⟩ := band (show (codeOk x && codeOk y) = true from hok); refine wpIn_seq ?_; split at hf
    · rename_i fr1 h1 hrun; refine (hrec rnd x fr h _ fr1 h1 ok1 hrun ρ S w a nn _ hr ht hm hs fun ρ1 w1 a1 p1 => ?_).wpIn; show y.wpIn (rndF ρ rnd) nn P Q a1 w1; rw [← rndF_eq hs p1.moved.agree]; exact (hrec rnd y fr1 h1 e fr' h' ok2 hf ρ1 _ w1 a1 nn Q p1.moved.hr p1.tmps p1.marks (fun l hl => .inl (hs l hl)) fun ρ2 w2 a2 p2 => k _ _ _ (Post.trans (fr1 := fr1) (a1 := a1) p1.moved p2)).wpIn
    rename_i hne; refine (hrec rnd x fr h e fr' h' ok1 hf ρ S w a nn _ hr ht hm hs fun ρ1 w1 a1 p1 => ?_).wpIn; have hq := k _ _ _ p1
    cases e with
    | normal => exact (hne _ _ hf).elim
    | exit id => exact hq
    | ret => exact hq
  | cond x y z =>
    simp only [fsStep] at hf; obtain ⟨ok1, ok2⟩ := band (show (codeOk y && codeOk z) = true from hok); have hev := ht.eval a.defers x; split at hf
    · rename_i hx; rw [hx] at hev; exact wpIn_cond_true hev.bool_inv (hrec rnd y fr h e fr' h' ok1 hf ρ S w a nn Q hr ht hm hs k).wpIn
    · rename_i hx; rw [hx] at hev; exact wpIn_cond_false hev.bool_inv (hrec rnd z fr h e fr' h' ok2 hf ρ S w a nn Q hr ht hm hs k).wpIn
    cases hf
  | block id b =>
    simp only [fsStep] at hf; refine wpIn_block ?_; split at hf
    · rename_i id' fr1 h1 hrun; refine (hrec rnd b fr h _ fr1 h1 hok hrun ρ S w a nn _ hr ht hm hs fun ρ1 w1 a1 p1 => ?_).wpIn
      cases hb : Nat.beq id' id with
      | true =>
        rw [hb] at hf; simp only [cond_true, Option.some.injEq, Prod.mk.injEq] at hf; obtain ⟨rfl, rfl, rfl⟩ := hf; have := k _ _ _ p1; simp only [exOf, Exit.inBlock, nbeq hb, if_true]
        exact this
      | false =>
        rw [hb] at hf; simp only [cond_false, Option.some.injEq, Prod.mk.injEq] at hf; obtain ⟨rfl, rfl, rfl⟩ := hf; have := k _ _ _ p1; simp only [exOf, Exit.inBlock, if_neg (ne_of_no hb)]; exact this
    rename_i hne; refine (hrec rnd b fr h e fr' h' hok hf ρ S w a nn _ hr ht hm hs fun ρ1 w1 a1 p1 => ?_).wpIn; have hq := k _ _ _ p1
    cases e with
    | normal => exact hq
    | exit id' => exact (hne _ _ _ hf).elim
    | ret => exact hq
  | loop b =>
    simp only [fsStep] at hf; show Code.roundsIn (rndF ρ rnd) nn P b Q (m + 1) a w; rw [roundsIn_succ]; split at hf
    · rename_i fr1 h1 hrun; refine (hrec rnd b fr h _ fr1 h1 hok hrun ρ S w a nn _ hr ht hm hs fun ρ1 w1 a1 p1 => ?_).wpIn; show Code.roundsIn (rndF ρ rnd) nn P b Q m a1 w1; rw [← rndF_eq hs p1.moved.agree]; exact hrec rnd (.loop b) fr1 h1 e fr' h' hok hf ρ1 _ w1 a1 nn Q p1.moved.hr p1.tmps p1.marks (fun l hl => .inl (hs l hl)) fun ρ2 w2 a2 p2 => k _ _ _ (Post.trans (fr1 := fr1) (a1 := a1) p1.moved p2)
    rename_i hne; refine (hrec rnd b fr h e fr' h' hok hf ρ S w a nn _ hr ht hm hs fun ρ1 w1 a1 p1 => ?_).wpIn; have hq := k _ _ _ p1
    cases e with
    | normal => exact (hne _ _ hf).elim
    | exit id => exact hq
    | ret => exact hq
  | region id ops draw =>
    cases draw with
    | false =>
      simp only [fsStep] at hf; split at hf
      · rename_i t h1 hrun; simp only [Option.some.injEq, Prod.mk.injEq] at hf; obtain ⟨rfl, rfl, rfl⟩ := hf; refine wpIn_region ?_; exact ops_wp (step := fsOpM P (callOf P orc rec) (fsYield rec)) rfl hcs hys _ _ ρ S w a fr.t h range_map hr ht hrun fun ρ1 w1 a1 m1 ht1 hd1 => k _ _ _ ⟨m1, ht1, by rw [hd1]; exact hm.mono fun b hb => ⟨.inl hb, m1.agree b hb⟩⟩
      cases hf
    | true =>
      simp only [fsStep] at hf
      cases hl : lateB ops with
      | false =>
        rw [hl] at hf; simp only [cond_false] at hf; split at hf
        · rename_i s hrun; simp only [Option.some.injEq, Prod.mk.injEq] at hf; obtain ⟨rfl, rfl, rfl⟩ := hf; refine wpIn_region_draw fun t => ?_; rw [hP.mixed]; exact drawn_wp (call := callOf P orc rec) (yield := fsYield rec) hcs hys hok hrun (hr.drew _) ht (fun ρ1 w1 a1 m1 ht1 hd1 => k _ _ _ ⟨Moved.ofDrew m1, ht1, by rw [hd1]; exact hm.mono fun b hb => ⟨.inl hb, m1.agree b hb⟩⟩) t
        cases hf
      | true =>
        rw [hl] at hf; simp only [cond_true] at hf; split at hf
        · rename_i s hrun; simp only [Option.some.injEq, Prod.mk.injEq] at hf; obtain ⟨rfl, rfl, rfl⟩ := hf; refine wpIn_region_draw fun t => ?_; rw [hP.mixed]; exact drawn_wpL (call := callOf P orc rec) (yield := fsYield rec) hcs hys hok hrun (hr.drew _) ht (fun ρ1 w1 a1 m1 ht1 hd1 => k _ _ _ ⟨Moved.ofDrew m1, ht1, by rw [hd1]; exact hm.mono fun b hb => ⟨.inl hb, m1.agree b hb⟩⟩) t
        cases hf
  | rangeFunc g ps assign body =>
    simp only [fsStep] at hf; obtain ⟨ok1, ok2⟩ := band (show (codeOk assign && codeOk body) = true from hok); exact rangeFunc_sound hP hrec ok1 ok2 hf hr ht hm hs k
theorem code_sound (hP : ProgOk P) {orc : FuncId → List Value → Heap → Option (Value × Heap)} (horc : CallSound P B w0 orc) : ∀ m, SoundR P B w0 m (fsCode P orc m)
  | 0 => fun rnd c fr h e fr' h' _ hf => by cases hf
  | m + 1 => step_sound hP horc (code_sound hP horc m)
end Go.Fs
namespace Go.Fs
open Go.RowKit (Below)
variable {P : Program}
theorem fs_open (hP : ProgOk P) {B : Nat} {w0 w : World} {orc : FuncId → List Value → Heap → Option (Value × Heap)} (horc : CallSound P B w0 orc) {ρ : Ren} {S : Nat → Prop} {h : Heap} {f : FuncId} {args args' : List Value} {v : Value}
    (hE : Enters P f) (hr : HR P ρ S B w0 h w) (ha : LR ρ S args args') (he : EvF P orc f args h fun u _ => u = v) (hv : af v = true) : Calls P f args'.toArray w fun | .returned v', w' => v' = v ∧ Below B w0 w' | _, _ => False := by
  obtain ⟨m, u, h', h1, rfl⟩ := he
  have hc : CallsIn Fence.wide 0 P f args'.toArray w (RetR P B w0 ρ S h w u h') := by
    rcases call_sound hP horc (code_sound hP horc m) f args h u h' h1 with h2 | h2
    · exact h2.2 ρ S w args' hr ha 0
    obtain ⟨w', v', h3, _⟩ := h2 ρ S w args' hr ha; rw [callFunc_run hE] at h3; simp at h3
  refine Calls.mono (callsIn_wide.1 hc) fun e w' he => ?_
  cases e with
  | returned v' =>
    obtain ⟨ρ', m1, hv1⟩ := he
    exact ⟨hv1.eq_of_af hv, m1.hr.below⟩
  | panicked c => exact he.elim
  | outgrown => exact he.elim
end Go.Fs
namespace Go.Fs
open Go.RowKit (Below)
variable {P : Program}
def digs : Nat → Nat → List UInt8
  | 0, _ => []
  | f + 1, n => bif Nat.blt n 10 then [UInt8.ofNat (48 + n)] else digs f (n / 10) ++ [UInt8.ofNat (48 + n % 10)]
def itoaF (n : Int) : List UInt8 := match n with
  | .ofNat k => digs 20 k
  | .negSucc k => 45 :: digs 20 (k + 1)
def joinF (sep : List UInt8) : List (List UInt8) → List UInt8
  | [] => []
  | [w] => w
  | w :: r => w ++ sep ++ joinF sep r
def strs : List Value → Option (List ByteArray)
  | [] => some []
  | .string s :: r => (strs r).map (s :: ·)
  | _ => none
theorem digs_eq : ∀ (f n : Nat), n < 10 ^ (f + 1) → digs (f + 1) n = Lib.decDigits n
  | f, n, h => by
    unfold digs Lib.decDigits
    cases hb : Nat.blt n 10 with
    | true => rw [dif_pos (nblt hb)]; rfl
    | false =>
      have h1 : ¬ n < 10 := by have := nble_no hb; omega
      rw [dif_neg h1]; simp only [cond_false]
      cases f with
      | zero => simp at h; omega
      | succ f => rw [digs_eq f (n / 10) (by rw [Nat.pow_succ] at h; omega)]
theorem itoaF_eq {n : Int} (h0 : -1000000000000000000 < n) (h1 : n < 1000000000000000000) : itoaF n = Lib.itoa n := by
  unfold Lib.itoa
  cases n with
  | ofNat k =>
    rw [if_neg (by simp)]; show digs 20 k = _; rw [digs_eq 19 k (by have : (k : Int) < 1000000000000000000 := h1; have : (10 : Nat) ^ (19 + 1) = 100000000000000000000 := (by decide); omega)]
    rfl
  | negSucc k =>
    rw [if_pos (by omega)]; show 45 :: digs 20 (k + 1) = _; rw [digs_eq 19 (k + 1) (by have h2 : -1000000000000000000 < Int.negSucc k := h0; have : (10 : Nat) ^ (19 + 1) = 100000000000000000000 := (by decide); omega)]; rfl
theorem joinF_eq (sep : List UInt8) : ∀ xs : List (List UInt8), joinF sep xs = Lib.join xs sep
  | [] => rfl
  | [w] => by rw [Lib.join_one]; rfl
  | w :: v :: r => by
    rw [Lib.join_cons]; simp only [joinF]; rw [joinF_eq sep (v :: r), Lib.join_cons]; simp [Lib.joinTail]
def orcS (fi fj : FuncId) : FuncId → List Value → Heap → Option (Value × Heap) := fun f xs h =>
  bif Nat.beq f fi then
    match xs with
    | [.int .i64 n] => bif decide (-1000000000000000000 < n) && decide (n < 1000000000000000000) then some (.string ⟨(itoaF n).toArray⟩, h) else none
    | _ => none
  else bif Nat.beq f fj then
    match xs with
    | [.slice (some ⟨b, o, none⟩) n _, .string sep] =>
      match h.get b with
      | some (.row _ cs _ _) =>
        bif Nat.ble (o + n) cs.length && Nat.ble n 1000000 then
          match strs ((cs.drop o).take n) with
          | some ss => let r := joinF sep.data.toList (ss.map (·.data.toList))
            bif Nat.ble r.length 1000000000 then some (.string ⟨r.toArray⟩, h) else none
          | none => none
        else none
      | _ => none
    | _ => none
  else none
variable {B : Nat} {w0 w w' : World} {ρ : Ren} {S : Nat → Prop} {h : Heap}
theorem strs_ok : ∀ (cs cs' : List Value) (ss : List ByteArray), LR ρ S cs cs' → strs cs = some ss → cs' = ss.map .string
  | [], cs', ss, hl, hs => by
    simp only [strs, Option.some.injEq] at hs; subst hs
    exact List.eq_nil_of_length_eq_zero hl.1.symm
  | v :: r, [], ss, hl, _ => by have := hl.1; simp at this
  | v :: r, v' :: r', ss, hl, hs => by
    unfold strs at hs; split at hs
    · rename_i he; cases he
    · rename_i s r0 he; simp only [List.cons.injEq] at he; obtain ⟨rfl, rfl⟩ := he; obtain ⟨ss0, h1, rfl⟩ := Option.map_eq_some_iff.1 hs; have hv : VR ρ S (.string s) v' := hl.2 0 (by simp); have hr : LR ρ S r r' := ⟨by have := hl.1; simpa using this, fun i hi => by have := hl.2 (i + 1) (by simp; omega); simpa using this⟩; rw [hv.string_inv, strs_ok r r' ss0 hr h1]; rfl
    cases hs
theorem orcS_sound {fi fj : FuncId} (hz : w0.drawn = 0) (hi : Enters P fi) (hj : Enters P fj)
    (hI : ∀ (n : Int) (w : World), Below B w0 w → -9223372036854775808 ≤ n → n ≤ 9223372036854775807 → Calls P fi #[.int .i64 n] w fun e w' => e = .returned (.string ⟨(Lib.itoa n).toArray⟩) ∧ Below w.heap.size w w')
    (hJ : ∀ (bk o c : Nat) (xs : List ByteArray) (sep : ByteArray) (w : World), (∀ (j : Nat) x, xs[j]? = some x → w.cell? ⟨bk, o + j, none⟩ = some (.string x)) → bk < w.heap.size → xs.length ≤ 140737488355328 → xs.length ≤ c →
      (Lib.join (xs.map (·.data.toList)) sep.data.toList).length ≤ 140737488355328 →
      Calls P fj #[.slice (some ⟨bk, o, none⟩) xs.length c, .string sep] w fun e w' => e = .returned (.string ⟨(Lib.join (xs.map (·.data.toList)) sep.data.toList).toArray⟩) ∧ Below w.heap.size w w') :
    CallSound P B w0 (orcS fi fj) := by
  intro f xs h v h' hf; unfold orcS at hf
  cases hfi : Nat.beq f fi with
  | true =>
    have := nbeq hfi; subst this; rw [hfi] at hf; simp only [cond_true] at hf; split at hf
    · rename_i n; obtain ⟨hc, hf2⟩ := bif_some hf; obtain ⟨h0, h1⟩ := band hc; have h0 := of_decide_eq_true h0; have h1 := of_decide_eq_true h1; simp only [Option.some.injEq, Prod.mk.injEq] at hf2; obtain ⟨rfl, rfl⟩ := hf2; refine ⟨hi, fun ρ S w args' hr ha nn => ?_⟩; have he : args' = [.int .i64 n] := ha.eq_of_af (by rfl); subst he; have hC : CallsIn Fence.wide nn P f #[.int .i64 n] w _ := callsIn_wide.2 (hI n w hr.below (by omega) (by omega)); refine hC.mono fun e w' hret => ?_; obtain ⟨rfl, hb⟩ := hret; exact ⟨ρ, Moved.grewWorld hr hb (by rw [hz]; exact Nat.zero_le _), by rw [itoaF_eq h0 h1]; exact .lit rfl⟩
    cases hf
  | false =>
    rw [hfi] at hf; simp only [cond_false] at hf; obtain ⟨hfj, hf2⟩ := bif_some hf; have := nbeq hfj; subst this; clear hf; split at hf2
    · rename_i b o n mk sep; split at hf2
      · rename_i e cs own more hg; obtain ⟨hc, hf3⟩ := bif_some hf2; obtain ⟨hle, hn⟩ := band hc; have hle := nble hle; have hn := nble hn; split at hf3
        · rename_i ss hss; obtain ⟨hlen, hf4⟩ := bif_some hf3; have hlen := nble hlen; simp only [Option.some.injEq, Prod.mk.injEq] at hf4; obtain ⟨rfl, rfl⟩ := hf4; refine ⟨hj, fun ρ S w args' hr ha nn => ?_⟩
          match args', ha with
          | [x', s'], ha =>
            have hx : VR ρ S (.slice (some ⟨b, o, none⟩) n mk) x' := ha.2 0 (by simp); have hs : VR ρ S (.string sep) s' := ha.2 1 (by simp); obtain ⟨A, c, rfl, hnc, _, _, hb⟩ := hx.slice_inv; obtain rfl := hs.string_inv; have hb0 : b ≠ 0 := (hr.ids b (hr.objs b _ hg).1).2; obtain ⟨_, rfl, _⟩ := hb hb0; have hobj := (hr.objs b _ hg).2
            have hlt : (ρ b).block < w.heap.size := by
              by_cases hown : ownO (.row e cs own more) = true
              · exact hobj.lt hown
              have := hr.ro b _ hg (by simpa using hown); have := hr.size; omega
            have hlr : LR ρ S ((cs.drop o).take n) ((List.range n).map fun j => (w.cell? ((ρ b).at (o + j))).getD undef) := by
              refine LR.of_get? (by simp; omega) fun i v v' hv hv' => ?_; rw [List.getElem?_take] at hv; split at hv
              · rename_i hin; rw [List.getElem?_drop] at hv; obtain ⟨u, h1, h2⟩ := hobj.cell (i := o + i) (by omega); simp [hin, h1] at hv'; subst hv'
                have : cs.getD (o + i) undef = v := by simp [List.getD, hv]
                rwa [this] at h2
              cases hv
            have heq := strs_ok _ _ ss hlr hss
            have hsl : ss.length = n := by
              have := congrArg List.length heq; simp at this; omega
            have hcells : ∀ (j : Nat) x, ss[j]? = some x → w.cell? ⟨(ρ b).block, (ρ b).off + o + j, none⟩ = some (.string x) := fun j x hjx => by
              have hjn : j < n := by have := (List.getElem?_eq_some_iff.1 hjx).1; omega
              obtain ⟨u, h1, h2⟩ := hobj.cell (i := o + j) (by omega); have h3 := congrArg (·[j]?) heq; simp [hjn, hjx, h1] at h3; subst h3; simpa [Loc.at, Nat.add_assoc] using h1
            rw [joinF_eq] at hlen; have hC : CallsIn Fence.wide nn P f #[.slice (some ⟨(ρ b).block, (ρ b).off + o, none⟩) ss.length c, .string sep] w _ := callsIn_wide.2 (hJ (ρ b).block ((ρ b).off + o) c ss sep w hcells hlt (by omega) (by omega) (by omega)); rw [hsl] at hC; refine hC.mono fun e w' hret => ?_; obtain ⟨rfl, hb⟩ := hret; exact ⟨ρ, Moved.grewWorld hr hb (by rw [hz]; exact Nat.zero_le _), by rw [joinF_eq]; exact .lit rfl⟩
        cases hf3
      cases hf2
    cases hf2
end Go.Fs
namespace Go.Fs
open Go.RowKit (Below)
variable {P : Program}
def orcA (fi fj fa : FuncId) : FuncId → List Value → Heap → Option (Value × Heap) := fun f xs h =>
  bif Nat.beq f fa then
    match xs with
    | [] => some (.bool true, h)
    | _ => none
  else orcS fi fj f xs h
theorem orcA_sound {B : Nat} {w0 : World} {fi fj fa : FuncId} (hz : w0.drawn = 0) (hS : CallSound P B w0 (orcS fi fj)) (ha : Enters P fa)
    (hA : ∀ w, Below B w0 w → Calls P fa #[] w fun | .returned v', w' => v' = .bool true ∧ Below w.heap.size w w' | _, _ => False) : CallSound P B w0 (orcA fi fj fa) := by
  intro f xs h v h' hf; unfold orcA at hf
  cases hb : Nat.beq f fa with
  | true =>
    have := nbeq hb; subst this; rw [hb] at hf; simp only [cond_true] at hf; split at hf
    · simp only [Option.some.injEq, Prod.mk.injEq] at hf; obtain ⟨rfl, rfl⟩ := hf; refine ⟨ha, fun ρ S w args' hr har nn => ?_⟩; have he : args' = [] := List.eq_nil_of_length_eq_zero har.1.symm; subst he; have hC : CallsIn Fence.wide nn P f #[] w _ := callsIn_wide.2 (hA w hr.below); refine hC.mono fun e w' hret => ?_
      cases e with
      | returned v' =>
        obtain ⟨rfl, hb⟩ := hret
        exact ⟨ρ, Moved.grewWorld hr hb (by rw [hz]; exact Nat.zero_le _), .lit rfl⟩
      | panicked c => exact hret.elim
      | outgrown => exact hret.elim
    cases hf
  | false =>
    rw [hb] at hf; exact hS f xs h v h' hf
end Go.Fs
namespace Go.Fs
open Go.RowKit (Below)
open Go.Sort Go.Proofs
variable {P : Program}
variable {B : Nat} {w0 w w' : World} {ρ : Ren} {S : Nat → Prop} {h : Heap}
end Go.Fs
namespace Go.Fs
variable {P : Program} {O : FuncId → List Value → Heap → Option (Value × Heap)} {h h' : Heap} {S : List Nat}
end Go.Fs
namespace Go.Fs
variable {P : Program} {orc : FuncId → List Value → Heap → Option (Value × Heap)} {h h' : Heap} {S S' : List Nat} {σ : Sto}
end Go.Fs
namespace Go.Fs
variable {P : Program} {fl : VL} {σ : Sto} {x y : Operand} {T T' : TypeId} {p q : Int}
end Go.Fs
namespace Go.Proofs
open Go.Fs
def OA := orcA 160 160 14
theorem awake_ok : VF Tryz.prog OA 14 [] (B true) := VF.oracle (fun _ => rfl) fun _ _ => ⟨rfl, rfl⟩
abbrev y25 : Ty := (.sl (.int .i64))
abbrev y154 : Ty := (.sl (.int .i64))
theorem vt3 : ValT Tryz.prog 3 (.int .i64) := valT_of (by kernel_rfl)
theorem vt26 : ValT Tryz.prog 26 (.int .i64) := valT_of (by kernel_rfl)
theorem el25 : ElT Tryz.prog 25 3 (.int .i64) := elT_of (by kernel_rfl)
theorem el154 : ElT Tryz.prog 154 26 (.int .i64) := elT_of (by kernel_rfl)
def whenE (c : Bool) (e : Int) : Int := bif c then e else 0
theorem cWhen_ok {c : Bool} {e : Int} : VF Tryz.prog OA 100 [B c, I e] (I (whenE c e)) := by
  refine VF.enter Tryz.func100 rfl (fun _ _ => rfl) rfl ?_; show VC _ _ _ _ _ [(0, B c), (1, I e)] [] _; refine VC.seq (VC.text ?_); refine VO.c (.assign rfl) ?_; refine VO.go (VC.seq (VC.seq (VC.text ?_))); refine VO.c (.move rfl) (VO.go ?_); refine VC.condB rfl (fun c1 => ?_) (fun c1 => ?_)
  · subst c1; refine VC.seq (VC.text ?_); refine VO.c (.move rfl) (VO.c (.assign rfl) (VO.go ?_)); refine VC.ret ?_; exact VEnd.one rfl evT (pvI (by rfl))
  subst c1; refine VC.skip (VC.seq (VC.text ?_)); refine VO.c (.assign rfl) (VO.go ?_); refine VC.ret ?_; exact VEnd.one rfl evT (pvI (by rfl))
def rangeE (n lo hi : Int) : Int := if n < lo ∨ hi < n then 3 else 0
theorem rCheckRange_ok {n : Int} {lo : Int} {hi : Int} : VF Tryz.prog OA 93 [I n, I lo, I hi] (I (rangeE n lo hi)) := by
  refine VF.enter Tryz.func93 rfl (fun _ _ => rfl) rfl ?_; show VC _ _ _ _ _ [(0, I n), (1, I lo), (2, I hi)] [] _; refine VC.seq (VC.text ?_); refine VO.c (.assign rfl) ?_; refine VO.go (VC.seq (VC.seq (VC.text ?_))); refine VO.c (.move rfl) (VO.c (.move rfl) (VO.c (.lss) (VO.c (.move rfl) ?_))); refine VO.cg (r := decide (n < lo)) (w := false) [] trivial (fun _ => (.move rfl)) ?_; refine VO.cg (r := decide (n < lo)) (w := false) [] trivial (fun _ => (.move rfl)) ?_; refine VO.cg (r := decide (n < lo)) (w := false) [(11, I n), (12, I hi)] ⟨rfl, rfl, trivial⟩ (fun _ => (.gtr)) ?_; refine VO.c (.or) (VO.go ?_); refine VC.condB rfl (fun c1 => ?_) (fun c1 => ?_)
  · try simp only [Bool.and_eq_true, Bool.or_eq_true, Bool.and_eq_false_iff, Bool.or_eq_false_iff, Bool.not_eq_true', Bool.not_eq_false', decide_eq_true_eq, decide_eq_false_iff_not] at c1
    refine VC.seq (VC.text ?_); refine VO.c (.assign rfl) (VO.go ?_); refine VC.ret ?_; exact VEnd.one rfl evT (pvI (by simp only [rangeE, ← Bool.decide_or, decide_eq_true_eq, decide_eq_false_iff_not, Bool.or_eq_true, Bool.or_eq_false_iff] at *; first | rw [if_pos (by omega)] | rw [if_neg (by omega)]))
  try simp only [Bool.and_eq_true, Bool.or_eq_true, Bool.and_eq_false_iff, Bool.or_eq_false_iff, Bool.not_eq_true', Bool.not_eq_false', decide_eq_true_eq, decide_eq_false_iff_not] at c1
  refine VC.skip (VC.seq (VC.text ?_)); refine VO.c (.assign rfl) (VO.go ?_); refine VC.ret ?_; exact VEnd.one rfl evT (pvI (by simp only [rangeE, ← Bool.decide_or, decide_eq_true_eq, decide_eq_false_iff_not, Bool.or_eq_true, Bool.or_eq_false_iff] at *; first | rw [if_pos (by omega)] | rw [if_neg (by omega)]))
theorem whenE_range {n lo hi : Int} : whenE (decide (n < lo) || decide (hi < n)) 3 = rangeE n lo hi := by
  unfold whenE rangeE; by_cases h1 : n < lo <;> by_cases h2 : hi < n <;> simp [h1, h2]
theorem cWithin_ok {n : Int} {lo : Int} {hi : Int} : VF Tryz.prog OA 102 [I n, I lo, I hi] (I (rangeE n lo hi)) := by
  refine VF.enter Tryz.func102 rfl (fun _ _ => rfl) rfl ?_; show VC _ _ _ _ _ [(0, I n), (1, I lo), (2, I hi)] [] _; refine VC.seq (VC.text ?_); refine VO.c (.assign rfl) ?_; refine VO.go (VC.seq (VC.text ?_)); refine VO.c (.move rfl) (VO.c (.move rfl) (VO.c (.lss) (VO.c (.move rfl) ?_))); refine VO.cg (r := decide (n < lo)) (w := false) [] trivial (fun _ => (.move rfl)) ?_; refine VO.cg (r := decide (n < lo)) (w := false) [] trivial (fun _ => (.move rfl)) ?_; refine VO.cg (r := decide (n < lo)) (w := false) [(11, I n), (12, I hi)] ⟨rfl, rfl, trivial⟩ (fun _ => (.gtr)) ?_; refine VO.c (.or) ?_; refine VO.call rfl rfl (VF.call (cWhen_ok )) ?_; refine VO.c (.assign rfl) (VO.go ?_); refine VC.ret ?_; exact VEnd.one rfl evT (pvI (by exact whenE_range))
def firstE : List Int → Int
  | [] => 0
  | x :: r => if x = 0 then firstE r else x
theorem firstE_drop {xs : List Int} {j : Nat} (hj : j < xs.length) : firstE (xs.drop j) = if xs[j] = 0 then firstE (xs.drop (j + 1)) else xs[j] := by
  rw [List.drop_eq_getElem_cons hj] <;> rfl
theorem firstE_end {xs : List Int} {j : Nat} (hj : xs.length ≤ j) : firstE (xs.drop j) = 0 := by rw [List.drop_eq_nil_of_le hj] <;> rfl
theorem firstE_zero : ∀ {l : List Int}, firstE l = 0 ↔ ∀ x ∈ l, x = 0
  | [] => ⟨fun _ x hx => (by cases hx), fun _ => rfl⟩
  | x :: r => by
    have ih := firstE_zero (l := r); show (if x = 0 then firstE r else x) = 0 ↔ _; by_cases hx : x = 0
    · rw [if_pos hx, ih]; exact ⟨fun h y hy => (List.mem_cons.1 hy).elim (fun e => e.trans hx) (h y), fun h y hy => h y (List.mem_cons_of_mem _ hy)⟩
    rw [if_neg hx]; exact ⟨fun h => absurd h hx, fun h => absurd (h x List.mem_cons_self) hx⟩
theorem cFirst_ok {l : List Int} (hl : l.length < 1000000) : VF Tryz.prog OA 99 [.v y154 l] (I (firstE l)) := by
  refine VF.enter Tryz.func99 rfl (fun _ _ => rfl) rfl ?_; show VC _ _ _ _ _ [(0, .v y154 l)] [] _; refine VC.seq (VC.text ?_); refine VO.c (.assign rfl) ?_; refine VO.go (VC.seq (VC.seq (VC.text ?_))); refine VO.c (.move rfl) ?_; refine VO.r (.len el154) ?_; refine VO.c (.move rfl) ?_; refine VO.go (VC.block ?_); refine VC.keep [(5, .v y154 l), (6, I ((l.length : Nat) : Int)), (7, I ((0 : Nat) : Int))] ⟨rfl, rfl, rfl, trivial⟩ ?_; refine VC.loop (I := fun kk ff ss => ∃ (j : Nat), kk = l.length - j ∧ ff = [(5, .v y154 l), (6, I ((l.length : Nat) : Int)), (7, I ((j : Nat) : Int))] ∧ ss = [] ∧ (j ≤ l.length) ∧ (firstE l = firstE (l.drop j))) ?_ _ _ _ ⟨0, rfl, rfl, rfl, Nat.zero_le _, (by rfl)⟩; rintro kk ff ss ⟨j, hk0, rfl, rfl, hj, hf⟩; refine VC.seq (VC.text ?_); refine VO.c (.lss) ?_; refine VO.go (VC.seq ?_); refine VC.condD rfl (fun c2 => ?_) (fun c2 => ?_)
  · refine VC.skip (VC.seq (VC.block (VC.seq (VC.text ?_)))); refine VO.c (.ix (j := j) rfl rfl el154 (by omega)) ?_; refine VO.r (.ld vt26) ?_; refine VO.c (.assign rfl) ?_; refine VO.go (VC.seq (VC.text ?_)); refine VO.c (.move rfl) (VO.c (.neq) (VO.go ?_)); refine VC.condD rfl (fun c4 => ?_) (fun c4 => ?_)
    · refine VC.seq (VC.text ?_); refine VO.c (.move rfl) (VO.c (.assign rfl) (VO.go ?_)); refine VC.ret ?_; exact VEnd.one rfl evT (pvI (by rw [hf, firstE_drop (by omega), if_neg c4]))
    refine VC.skip (VC.text ?_); refine VO.c (.add rfl rfl (by omega)) (VO.c (.move rfl) ?_); refine VO.nil ?_; refine ⟨_, [(5, .v y154 l), (6, I ((l.length : Nat) : Int)), (7, I (((j + 1) : Nat) : Int))], ?_, ⟨rfl, rfl, rfl, trivial⟩, (j + 1), rfl, rfl, rfl, (by omega), (by rw [hf, firstE_drop (by omega), if_pos (by simpa using c4)])⟩; omega
  refine VC.exit (VC.seq (VC.text ?_)); refine VO.c (.assign rfl) (VO.go ?_); refine VC.ret ?_; exact VEnd.one rfl evT (pvI (by rw [hf, firstE_end (by omega)]))
theorem rFirst_ok {l : List Int} (hl : l.length < 1000000) : VF Tryz.prog OA 92 [.v y25 l] (I (firstE l)) := by
  refine VF.enter Tryz.func92 rfl (fun _ _ => rfl) rfl ?_; show VC _ _ _ _ _ [(0, .v y25 l)] [] _; refine VC.seq (VC.text ?_); refine VO.c (.assign rfl) ?_; refine VO.go (VC.seq (VC.seq (VC.text ?_))); refine VO.c (.assign rfl) ?_; refine VO.go (VC.block ?_); refine VC.keep [(0, .v y25 l), (3, I ((0 : Nat) : Int))] ⟨rfl, rfl, trivial⟩ ?_; refine VC.loop (I := fun kk ff ss => ∃ (j : Nat), kk = l.length - j ∧ ff = [(0, .v y25 l), (3, I ((j : Nat) : Int))] ∧ ss = [] ∧ (j ≤ l.length) ∧ (firstE l = firstE (l.drop j))) ?_ _ _ _ ⟨0, rfl, rfl, rfl, Nat.zero_le _, (by rfl)⟩; rintro kk ff ss ⟨j, hk0, rfl, rfl, hj, hf⟩; refine VC.seq (VC.seq (VC.text ?_)); refine VO.c (.move rfl) (VO.c (.move rfl) ?_); refine VO.r (.len el25) ?_; refine VO.c (.lss) (VO.go ?_); refine VC.condD rfl (fun c2 => ?_) (fun c2 => ?_)
  · refine VC.skip (VC.seq (VC.block (VC.seq (VC.text ?_)))); refine VO.c (.move rfl) (VO.c (.move rfl) (VO.c (.ix (j := j) rfl rfl el25 (by omega)) ?_)); refine VO.r (.ld vt3) ?_; refine VO.c (.neq) (VO.go ?_); refine VC.condD rfl (fun c4 => ?_) (fun c4 => ?_)
    · refine VC.seq (VC.text ?_); refine VO.c (.move rfl) (VO.c (.move rfl) (VO.c (.ix (j := j) rfl rfl el25 (by omega)) ?_)); refine VO.r (.ld vt3) ?_; refine VO.c (.assign rfl) (VO.go ?_); refine VC.ret ?_; exact VEnd.one rfl evT (pvI (by rw [hf, firstE_drop (by omega), if_neg c4]))
    refine VC.skip (VC.text ?_); refine VO.c (.move rfl) (VO.c (.add rfl rfl (by omega)) (VO.c (.assign rfl) ?_)); refine VO.nil ?_; refine ⟨_, [(0, .v y25 l), (3, I (((j + 1) : Nat) : Int))], ?_, ⟨rfl, rfl, trivial⟩, (j + 1), rfl, rfl, rfl, (by omega), (by rw [hf, firstE_drop (by omega), if_pos (by simpa using c4)])⟩; omega
  refine VC.exit (VC.seq (VC.text ?_)); refine VO.c (.assign rfl) (VO.go ?_); refine VC.ret ?_; exact VEnd.one rfl evT (pvI (by rw [hf, firstE_end (by omega)]))
theorem lFirst_ok {l : List Int} (hl : l.length < 1000000) : VF Tryz.prog OA 29 [.v y25 l] (I (firstE l)) := by
  refine VF.enter Tryz.func29 rfl (fun _ _ => rfl) rfl ?_; show VC _ _ _ _ _ [(0, .v y25 l)] [] _; refine VC.seq (VC.text ?_); refine VO.c (.assign rfl) ?_; refine VO.go (VC.seq (VC.text ?_)); refine VO.c (.move rfl) ?_; refine VO.call rfl rfl (VF.call (rFirst_ok (by first | assumption | omega | simp))) ?_; refine VO.c (.assign rfl) (VO.go ?_); refine VC.ret ?_; exact VEnd.one rfl evT (pvI (by rfl))
end Go.Proofs
namespace Go.Proofs
open Go.Fs
set_option maxHeartbeats 400000
abbrev Gat := List Int × List Int × List (List Int)
theorem getDg {α : Type} {l : List α} {i : Nat} {d : α} (h : i < l.length) : l.getD i d = l[i] := by
  rw [List.getD_eq_getElem?_getD, List.getElem?_eq_getElem h] <;> rfl
theorem whenE_zero {c : Bool} {e : Int} (he : e ≠ 0) : whenE c e = 0 ↔ c = false := by
  cases c with
  | false => exact ⟨fun _ => rfl, fun _ => rfl⟩
  | true => exact ⟨fun h => absurd h he, fun h => by cases h⟩
theorem rangeE_zero {n lo hi : Int} : rangeE n lo hi = 0 ↔ lo ≤ n ∧ n ≤ hi := by
  unfold rangeE; by_cases h : n < lo ∨ hi < n
  · rw [if_pos h]; exact ⟨fun h => absurd h (by decide), fun hh => by omega⟩
  rw [if_neg h]; exact ⟨fun _ => by omega, fun _ => rfl⟩
def setE (g : Gat) (set : Int) : Int := whenE (decide (set < 0) || decide ((1 : Int) * 2 ^ ((g.1.length : Nat) : Int).toNat ≤ set)) 10
end Go.Proofs
namespace Go.Proofs
open Go.Fs Ieee
def letterB (c : Int) : Bool := decide (65 ≤ c ∧ c ≤ 90 ∨ 97 ≤ c ∧ c ≤ 122)
def otherB (c : Int) : Bool := decide (48 ≤ c ∧ c ≤ 57 ∨ c = 95)
def byteB (c : Int) (i : Nat) : Bool := letterB c || (decide (i ≠ 0) && otherB c)
def nameB (s : ByteArray) : Bool := decide (s.size ≠ 0 ∧ s.size ≤ 24 ∧ ∀ i, i < s.size → byteB (byteE s i) i = true)
theorem nameB_f {s : ByteArray} {i : Nat} (hi : i < s.size) (h : byteB (byteE s i) i = false) : false = nameB s := by
  refine (decide_eq_false fun hh => ?_).symm; rw [hh.2.2 i hi] at h; cases h
theorem nameB_t {s : ByteArray} (h1 : s.size ≠ 0) (h2 : s.size ≤ 24) (h : ∀ i, i < s.size → byteB (byteE s i) i = true) : true = nameB s := (decide_eq_true ⟨h1, h2, h⟩).symm
theorem size_empty {s : ByteArray} : s ≠ ByteArray.empty ↔ s.size ≠ 0 := by
  constructor
  · intro h e; exact h (ByteArray.ext (Array.eq_empty_of_size_eq_zero e))
  rintro h rfl; exact h rfl
theorem byteB_high {c : Int} {i : Nat} (h : 128 ≤ c) : byteB c i = false := by
  have h1 : letterB c = false := decide_eq_false (by omega); have h2 : otherB c = false := decide_eq_false (by omega); rw [byteB, h1, h2]; simp
theorem rune_f {s : ByteArray} {p : Nat} (h : byteB ((Utf8.decode s p).1 : Nat) p = false) : byteB (byteE s p) p = false := by
  by_cases hl : (s.get! p).toNat < 128
  · rw [decode_low hl] at h; exact h
  exact byteB_high (by rw [byteE_nat]; omega)
theorem rune_t {s : ByteArray} {p : Nat} (h : byteB ((Utf8.decode s p).1 : Nat) p = true) : byteB (byteE s p) p = true ∧ (Utf8.decode s p).2 = 1 := by
  by_cases hl : (s.get! p).toNat < 128
  · rw [decode_low hl] at h ⊢; exact ⟨h, rfl⟩
  have := Go.Fs.decode_high hl; rw [byteB_high (by omega)] at h; cases h
theorem name_end {s : ByteArray} (h : ∀ i, i < s.size → byteB (byteE s i) i = true) : (decide (s ≠ ByteArray.empty) && decide (((s.size : Nat) : Int) ≤ 24)) = nameB s := by
  rw [← Bool.decide_and]; exact decide_eq_decide.2 ⟨fun hh => ⟨size_empty.1 hh.1, by omega, h⟩, fun hh => ⟨size_empty.2 hh.1, by omega⟩⟩
theorem gName_ok {s : ByteArray} : VF Tryz.prog OA 101 [St s] (B (nameB s)) := by
  refine VF.enter Tryz.func101 rfl (fun _ _ => rfl) rfl ?_; show VC _ _ _ _ _ [(0, St s)] [] _; refine VC.seq (VC.text ?_); refine VO.c (.assign rfl) ?_; refine VO.go (VC.seq (VC.seq (VC.text ?_))); refine VO.c (.move rfl) ?_; refine VO.cell (.rng) ?_; intro ww1; refine VO.go (VC.block ?_); refine VC.keep [(0, St s), (8, .raw ww1)] ⟨rfl, rfl, trivial⟩ ?_; refine VC.loop (I := fun kk ff ss => ∃ (p : Nat), kk = s.size - p ∧ ff = [(0, St s), (8, .raw ww1)] ∧ ss = [(ww1, .it s p)] ∧ (p ≤ s.size) ∧ (∀ i, i < p → byteB (byteE s i) i = true)) ?_ _ _ _ ⟨0, rfl, rfl, rfl, Nat.zero_le _, (by intro i hi; omega)⟩; rintro kk ff ss ⟨p, hk0, rfl, rfl, hp, hq⟩; refine VC.seq (VC.text ?_); refine VO.next rfl (fun h2_0 => ?_) (fun h2_0 => ?_)
  · refine VO.c (.extract) ?_; refine VO.go (VC.seq ?_); refine VC.condT rfl ?_; refine VC.skip (VC.block (VC.seq (VC.text ?_))); refine VO.c (.extract) (VO.c (.extract) (VO.c (.assign rfl) (VO.c (.assign rfl) ?_))); refine VO.go (VC.seq ?_); refine VC.join [(0, St s), (3, I ((p : Nat) : Int)), (4, .v (.int .i32) (((Utf8.decode s p).1 : Nat) : Int)), (5, B (letterB ((Utf8.decode s p).1 : Nat))), (8, .raw ww1)] [(ww1, .it s (p + (Utf8.decode s p).2))] ?_ ?_
    · skip
      refine VC.text ?_; refine VO.c (.move rfl) (VO.c (.geq) (VO.c (.move rfl) ?_)); refine VO.splitD (x := 15) rfl (fun g4_2 => ?_) (fun g4_2 => ?_)
      · refine VO.c (.move rfl) (VO.c (.leq) (VO.c (.pickT rfl rfl) (VO.c (.move rfl) ?_))); refine VO.splitD (x := 19) rfl (fun g4_6 => ?_) (fun g4_6 => ?_)
        · refine VO.skip (VO.skip (VO.skip (VO.skip ?_))); refine VO.skip (VO.skip (VO.c (.pickT rfl rfl) (VO.c (.assign rfl) ?_))); refine VO.nil ?_; exact ⟨⟨rfl, rfl, rfl, slE rfl (by rw [Bool.eq_iff_iff]; simp [letterB] <;> omega), rfl, trivial⟩, rfl⟩
        refine VO.c (.move rfl) (VO.c (.geq) (VO.c (.move rfl) ?_)); refine VO.cg (r := decide ((97 : Int) ≤ (((Utf8.decode s p).1 : Nat) : Int))) (w := true) [] trivial (fun _ => (.move rfl)) ?_; refine VO.cg (r := decide ((97 : Int) ≤ (((Utf8.decode s p).1 : Nat) : Int))) (w := true) [(23, .v (.int .i32) (((Utf8.decode s p).1 : Nat) : Int))] ⟨rfl, trivial⟩ (fun _ => (.leq)) ?_; refine VO.c (.and) (VO.c (.pickF rfl rfl) (VO.c (.assign rfl) ?_)); refine VO.nil ?_; exact ⟨⟨rfl, rfl, rfl, slE rfl (by rw [Bool.eq_iff_iff]; simp [letterB] <;> omega), rfl, trivial⟩, rfl⟩
      refine VO.skip (VO.skip (VO.c (.pickF rfl rfl) (VO.c (.move rfl) ?_))); refine VO.c (.move rfl) (VO.c (.geq) (VO.c (.move rfl) ?_)); refine VO.cg (r := decide ((97 : Int) ≤ (((Utf8.decode s p).1 : Nat) : Int))) (w := true) [] trivial (fun _ => (.move rfl)) ?_; refine VO.cg (r := decide ((97 : Int) ≤ (((Utf8.decode s p).1 : Nat) : Int))) (w := true) [(23, .v (.int .i32) (((Utf8.decode s p).1 : Nat) : Int))] ⟨rfl, trivial⟩ (fun _ => (.leq)) ?_; refine VO.c (.and) (VO.c (.pickF rfl rfl) (VO.c (.assign rfl) ?_)); refine VO.nil ?_; exact ⟨⟨rfl, rfl, rfl, slE rfl (by rw [Bool.eq_iff_iff]; simp [letterB] <;> omega), rfl, trivial⟩, rfl⟩
    refine VC.seq ?_; refine VC.join [(0, St s), (3, I ((p : Nat) : Int)), (5, B (letterB ((Utf8.decode s p).1 : Nat))), (6, B (otherB ((Utf8.decode s p).1 : Nat))), (8, .raw ww1)] [(ww1, .it s (p + (Utf8.decode s p).2))] ?_ ?_
    · skip
      refine VC.text ?_; refine VO.c (.move rfl) (VO.c (.geq) (VO.c (.move rfl) ?_)); refine VO.splitD (x := 29) rfl (fun g5_2 => ?_) (fun g5_2 => ?_)
      · refine VO.c (.move rfl) (VO.c (.leq) (VO.c (.pickT rfl rfl) (VO.c (.move rfl) ?_))); refine VO.cg (r := decide ((((Utf8.decode s p).1 : Nat) : Int) ≤ (57 : Int))) (w := false) [] trivial (fun _ => (.move rfl)) ?_; refine VO.cg (r := decide ((((Utf8.decode s p).1 : Nat) : Int) ≤ (57 : Int))) (w := false) [(34, .v (.int .i32) (((Utf8.decode s p).1 : Nat) : Int))] ⟨rfl, trivial⟩ (fun _ => (.eql)) ?_; refine VO.c (.or) (VO.c (.assign rfl) ?_); refine VO.nil ?_; exact ⟨⟨rfl, rfl, rfl, slE rfl (by rw [Bool.eq_iff_iff]; simp [otherB] <;> omega), rfl, trivial⟩, rfl⟩
      refine VO.skip (VO.skip (VO.c (.pickF rfl rfl) (VO.c (.move rfl) ?_))); refine VO.c (.move rfl) (VO.c (.eql) (VO.c (.pickF rfl rfl) (VO.c (.assign rfl) ?_))); refine VO.nil ?_; exact ⟨⟨rfl, rfl, rfl, slE rfl (by rw [Bool.eq_iff_iff]; simp [otherB] <;> omega), rfl, trivial⟩, rfl⟩
    refine VC.seq ?_; refine VC.join [(0, St s), (8, .raw ww1), (46, B (!byteB ((Utf8.decode s p).1 : Nat) p))] [(ww1, .it s (p + (Utf8.decode s p).2))] ?_ ?_
    · skip
      refine VC.text ?_; refine VO.c (.move rfl) (VO.c (.not) (VO.c (.move rfl) ?_)); refine VO.splitB (x := 39) rfl (fun g6_2 => ?_) (fun g6_2 => ?_)
      · try simp only [Bool.and_eq_true, Bool.or_eq_true, Bool.and_eq_false_iff, Bool.or_eq_false_iff, Bool.not_eq_true', Bool.not_eq_false', decide_eq_true_eq, decide_eq_false_iff_not] at g6_2
        refine VO.c (.move rfl) (VO.c (.eql) (VO.c (.move rfl) ?_)); refine VO.cg (r := decide (((p : Nat) : Int) = (0 : Int))) (w := false) [] trivial (fun _ => (.move rfl)) ?_; refine VO.cg (r := decide (((p : Nat) : Int) = (0 : Int))) (w := false) [(43, B (otherB ((Utf8.decode s p).1 : Nat)))] ⟨rfl, trivial⟩ (fun _ => (.not)) ?_; refine VO.c (.or) (VO.c (.pickT rfl rfl) ?_); refine VO.nil ?_; exact ⟨⟨rfl, rfl, slE rfl (by simp [byteB, *]), trivial⟩, rfl⟩
      try simp only [Bool.and_eq_true, Bool.or_eq_true, Bool.and_eq_false_iff, Bool.or_eq_false_iff, Bool.not_eq_true', Bool.not_eq_false', decide_eq_true_eq, decide_eq_false_iff_not] at g6_2
      refine VO.skip (VO.skip (VO.skip (VO.skip ?_))); refine VO.skip (VO.skip (VO.c (.pickF rfl rfl) ?_)); refine VO.nil ?_; exact ⟨⟨rfl, rfl, slE rfl (by simp [byteB, *]), trivial⟩, rfl⟩
    refine VC.condB rfl (fun c6 => ?_) (fun c6 => ?_)
    · try simp only [Bool.and_eq_true, Bool.or_eq_true, Bool.and_eq_false_iff, Bool.or_eq_false_iff, Bool.not_eq_true', Bool.not_eq_false', decide_eq_true_eq, decide_eq_false_iff_not] at c6
      refine VC.seq (VC.text ?_); refine VO.c (.assign rfl) (VO.go ?_); refine VC.ret ?_; exact VEnd.one rfl evT (pvE (by exact nameB_f h2_0 (rune_f c6)))
    try simp only [Bool.and_eq_true, Bool.or_eq_true, Bool.and_eq_false_iff, Bool.or_eq_false_iff, Bool.not_eq_true', Bool.not_eq_false', decide_eq_true_eq, decide_eq_false_iff_not] at c6
    refine VC.skip ?_; refine ⟨_, [(0, St s), (8, .raw ww1)], ?_, ⟨rfl, rfl, trivial⟩, (p + 1), rfl, rfl, (by rw [(rune_t c6).2]), (by omega), (by intro i hi; rcases Nat.lt_succ_iff_lt_or_eq.1 hi with h | h; exact hq i h; subst h; exact (rune_t c6).1)⟩; omega
  refine VO.c (.ext0) ?_; refine VO.go (VC.seq ?_); refine VC.condF rfl ?_; refine VC.exit (VC.seq (VC.text ?_)); refine VO.c (.move rfl) (VO.c (.sneq) (VO.c (.move rfl) ?_)); refine VO.cg (r := decide (s ≠ ByteArray.empty)) (w := true) [] trivial (fun _ => (.move rfl)) ?_; refine VO.rg (r := decide (s ≠ ByteArray.empty)) (w := true) [(50, St s)] ⟨rfl, trivial⟩ (fun _ => (.lenS)) ?_; refine VO.cg (r := decide (s ≠ ByteArray.empty)) (w := true) [(51, I ((s.size : Nat) : Int))] ⟨rfl, trivial⟩ (fun _ => (.leq)) ?_; refine VO.c (.and) (VO.c (.assign rfl) (VO.go ?_)); refine VC.ret ?_; exact VEnd.one rfl evT (pvE (by exact name_end (fun i hi => hq i (by omega))))
theorem rName_ok {s : ByteArray} : VF Tryz.prog OA 147 [St s] (B (nameB s)) := by
  refine VF.enter Tryz.func147 rfl (fun _ _ => rfl) rfl ?_; show VC _ _ _ _ _ [(0, St s)] [] _; refine VC.seq (VC.text ?_); refine VO.c (.assign rfl) ?_; refine VO.go (VC.seq (VC.seq (VC.text ?_))); refine VO.c (.move rfl) ?_; refine VO.r (.lenS) ?_; refine VO.c (.eql) (VO.c (.move rfl) ?_); refine VO.cg (r := decide (((s.size : Nat) : Int) = (0 : Int))) (w := false) [] trivial (fun _ => (.move rfl)) ?_; refine VO.rg (r := decide (((s.size : Nat) : Int) = (0 : Int))) (w := false) [(9, St s)] ⟨rfl, trivial⟩ (fun _ => (.lenS)) ?_; refine VO.cg (r := decide (((s.size : Nat) : Int) = (0 : Int))) (w := false) [(10, I ((s.size : Nat) : Int))] ⟨rfl, trivial⟩ (fun _ => (.gtr)) ?_; refine VO.c (.or) (VO.go ?_); refine VC.condB rfl (fun c1 => ?_) (fun c1 => ?_)
  · try simp only [Bool.and_eq_true, Bool.or_eq_true, Bool.and_eq_false_iff, Bool.or_eq_false_iff, Bool.not_eq_true', Bool.not_eq_false', decide_eq_true_eq, decide_eq_false_iff_not] at c1
    refine VC.seq (VC.text ?_); refine VO.c (.assign rfl) (VO.go ?_); refine VC.ret ?_; exact VEnd.one rfl evT (pvE (by exact (decide_eq_false fun hh => by have := hh.1; have := hh.2.1; omega).symm))
  try simp only [Bool.and_eq_true, Bool.or_eq_true, Bool.and_eq_false_iff, Bool.or_eq_false_iff, Bool.not_eq_true', Bool.not_eq_false', decide_eq_true_eq, decide_eq_false_iff_not] at c1
  refine VC.skip (VC.seq (VC.seq (VC.text ?_))); refine VO.c (.assign rfl) ?_; refine VO.go (VC.block ?_); refine VC.keep [(0, St s), (3, I ((0 : Nat) : Int))] ⟨rfl, rfl, trivial⟩ ?_; refine VC.loop (I := fun kk ff ss => ∃ (i : Nat), kk = s.size - i ∧ ff = [(0, St s), (3, I ((i : Nat) : Int))] ∧ ss = [] ∧ (i ≤ s.size) ∧ (∀ k, k < i → byteB (byteE s k) k = true)) ?_ _ _ _ ⟨0, rfl, rfl, rfl, Nat.zero_le _, (by intro k hk; omega)⟩; rintro kk ff ss ⟨i, hk0, rfl, rfl, hi, hq⟩; refine VC.seq (VC.seq (VC.text ?_)); refine VO.c (.move rfl) (VO.c (.move rfl) ?_); refine VO.r (.lenS) ?_; refine VO.c (.lss) (VO.go ?_); refine VC.condD rfl (fun c4 => ?_) (fun c4 => ?_)
  · refine VC.skip (VC.seq (VC.block (VC.seq (VC.text ?_)))); refine VO.c (.move rfl) (VO.c (.move rfl) (VO.c (.ixS rfl rfl (by omega) (by omega)) (VO.c (.assign rfl) ?_))); refine VO.go (VC.seq (VC.seq ?_)); refine VC.join [(0, St s), (3, I ((i : Nat) : Int)), (4, .v (.int .u8) (byteE s ((i : Nat) : Int))), (35, B (letterB (byteE s i)))] [] ?_ ?_
    · skip
      refine VC.text ?_; refine VO.c (.move rfl) (VO.c (.geq) (VO.c (.move rfl) ?_)); refine VO.splitD (x := 24) rfl (fun g7_2 => ?_) (fun g7_2 => ?_)
      · refine VO.c (.move rfl) (VO.c (.leq) (VO.c (.pickT rfl rfl) (VO.c (.move rfl) ?_))); refine VO.splitD (x := 28) rfl (fun g7_6 => ?_) (fun g7_6 => ?_)
        · refine VO.skip (VO.skip (VO.skip (VO.skip ?_))); refine VO.skip (VO.skip (VO.c (.pickT rfl rfl) ?_)); refine VO.nil ?_; exact ⟨⟨rfl, rfl, rfl, slE rfl (by rw [Bool.eq_iff_iff]; simp [letterB] <;> omega), trivial⟩, rfl⟩
        refine VO.c (.move rfl) (VO.c (.geq) (VO.c (.move rfl) ?_)); refine VO.cg (r := decide ((65 : Int) ≤ (byteE s ((i : Nat) : Int)))) (w := true) [] trivial (fun _ => (.move rfl)) ?_; refine VO.cg (r := decide ((65 : Int) ≤ (byteE s ((i : Nat) : Int)))) (w := true) [(32, .v (.int .u8) (byteE s ((i : Nat) : Int)))] ⟨rfl, trivial⟩ (fun _ => (.leq)) ?_; refine VO.c (.and) (VO.c (.pickF rfl rfl) ?_); refine VO.nil ?_; exact ⟨⟨rfl, rfl, rfl, slE rfl (by rw [Bool.eq_iff_iff]; simp [letterB] <;> omega), trivial⟩, rfl⟩
      refine VO.skip (VO.skip (VO.c (.pickF rfl rfl) (VO.c (.move rfl) ?_))); refine VO.c (.move rfl) (VO.c (.geq) (VO.c (.move rfl) ?_)); refine VO.cg (r := decide ((65 : Int) ≤ (byteE s ((i : Nat) : Int)))) (w := true) [] trivial (fun _ => (.move rfl)) ?_; refine VO.cg (r := decide ((65 : Int) ≤ (byteE s ((i : Nat) : Int)))) (w := true) [(32, .v (.int .u8) (byteE s ((i : Nat) : Int)))] ⟨rfl, trivial⟩ (fun _ => (.leq)) ?_; refine VO.c (.and) (VO.c (.pickF rfl rfl) ?_); refine VO.nil ?_; exact ⟨⟨rfl, rfl, rfl, slE rfl (by rw [Bool.eq_iff_iff]; simp [letterB] <;> omega), trivial⟩, rfl⟩
    refine VC.condB rfl (fun c7 => ?_) (fun c7 => ?_)
    · have hok : byteB (byteE s i) i = true := by rw [byteB, c7] <;> rfl
      refine VC.exit (VC.text ?_); refine VO.c (.move rfl) (VO.c (.add rfl rfl (by omega)) (VO.c (.assign rfl) ?_)); refine VO.nil ?_; refine ⟨_, [(0, St s), (3, I (((i + 1) : Nat) : Int))], ?_, ⟨rfl, rfl, trivial⟩, (i + 1), rfl, rfl, rfl, (by omega), (by intro k hk; rcases Nat.lt_succ_iff_lt_or_eq.1 hk with h | h; exact hq k h; subst h; exact hok)⟩; omega
    refine VC.skip (VC.seq ?_); refine VC.join [(0, St s), (3, I ((i : Nat) : Int)), (49, B (!(decide (i ≠ 0) && otherB (byteE s i))))] [] ?_ ?_
    · skip
      refine VC.text ?_; refine VO.c (.move rfl) (VO.c (.eql) (VO.c (.move rfl) ?_)); refine VO.splitD (x := 38) rfl (fun g8_2 => ?_) (fun g8_2 => ?_)
      · refine VO.skip (VO.skip (VO.skip (VO.skip ?_))); refine VO.skip (VO.skip (VO.skip (VO.skip ?_))); refine VO.skip (VO.skip (VO.c (.pickT rfl rfl) ?_)); refine VO.nil ?_; exact ⟨⟨rfl, rfl, slE rfl (by rw [Bool.eq_iff_iff]; simp [otherB] <;> omega), trivial⟩, rfl⟩
      refine VO.c (.move rfl) (VO.c (.neq) (VO.c (.move rfl) ?_)); refine VO.splitD (x := 41) rfl (fun g8_5 => ?_) (fun g8_5 => ?_)
      · refine VO.c (.move rfl) (VO.c (.lss) (VO.c (.move rfl) ?_)); refine VO.cg (r := decide ((byteE s ((i : Nat) : Int)) < (48 : Int))) (w := false) [] trivial (fun _ => (.move rfl)) ?_; refine VO.cg (r := decide ((byteE s ((i : Nat) : Int)) < (48 : Int))) (w := false) [(45, .v (.int .u8) (byteE s ((i : Nat) : Int)))] ⟨rfl, trivial⟩ (fun _ => (.gtr)) ?_; refine VO.c (.or) (VO.c (.pickT rfl rfl) (VO.c (.pickF rfl rfl) ?_)); refine VO.nil ?_; exact ⟨⟨rfl, rfl, slE rfl (by rw [Bool.eq_iff_iff]; simp [otherB] <;> omega), trivial⟩, rfl⟩
      refine VO.skip (VO.skip (VO.skip (VO.skip ?_))); refine VO.skip (VO.skip (VO.c (.pickF rfl rfl) (VO.c (.pickF rfl rfl) ?_))); refine VO.nil ?_; exact ⟨⟨rfl, rfl, slE rfl (by rw [Bool.eq_iff_iff]; simp [otherB] <;> omega), trivial⟩, rfl⟩
    refine VC.condB rfl (fun c8 => ?_) (fun c8 => ?_)
    · try simp only [Bool.and_eq_true, Bool.or_eq_true, Bool.and_eq_false_iff, Bool.or_eq_false_iff, Bool.not_eq_true', Bool.not_eq_false', decide_eq_true_eq, decide_eq_false_iff_not] at c8
      refine VC.seq (VC.text ?_); refine VO.c (.assign rfl) (VO.go ?_); refine VC.ret ?_; exact VEnd.one rfl evT (pvE (by exact nameB_f (i := i) (by omega) (by simp only [byteB, c7, Bool.false_or, Bool.and_eq_false_iff, decide_eq_false_iff_not]; exact c8)))
    try simp only [Bool.and_eq_true, Bool.or_eq_true, Bool.and_eq_false_iff, Bool.or_eq_false_iff, Bool.not_eq_true', Bool.not_eq_false', decide_eq_true_eq, decide_eq_false_iff_not] at c8
    have hok : byteB (byteE s i) i = true := by simp [byteB, *]
    refine VC.skip (VC.text ?_); refine VO.c (.move rfl) (VO.c (.add rfl rfl (by omega)) (VO.c (.assign rfl) ?_)); refine VO.nil ?_; refine ⟨_, [(0, St s), (3, I (((i + 1) : Nat) : Int))], ?_, ⟨rfl, rfl, trivial⟩, (i + 1), rfl, rfl, rfl, (by omega), (by intro k hk; rcases Nat.lt_succ_iff_lt_or_eq.1 hk with h | h; exact hq k h; subst h; exact hok)⟩; omega
  refine VC.exit (VC.seq (VC.text ?_)); refine VO.c (.assign rfl) (VO.go ?_); refine VC.ret ?_; exact VEnd.one rfl evT (pvE (by exact nameB_t (by omega) (by omega) (fun k hk => hq k (by omega))))
theorem rNameE_ok {s : ByteArray} : VF Tryz.prog OA 91 [St s] (I (whenE (!nameB s) 8)) := by
  refine VF.enter Tryz.func91 rfl (fun _ _ => rfl) rfl ?_; show VC _ _ _ _ _ [(0, St s)] [] _; refine VC.seq (VC.text ?_); refine VO.c (.assign rfl) ?_; refine VO.go (VC.seq (VC.seq (VC.text ?_))); refine VO.c (.move rfl) ?_; refine VO.call rfl rfl (VF.call (rName_ok )) ?_; refine VO.c (.not) (VO.go ?_); refine VC.condB rfl (fun c1 => ?_) (fun c1 => ?_)
  · try simp only [Bool.and_eq_true, Bool.or_eq_true, Bool.and_eq_false_iff, Bool.or_eq_false_iff, Bool.not_eq_true', Bool.not_eq_false', decide_eq_true_eq, decide_eq_false_iff_not] at c1
    refine VC.seq (VC.text ?_); refine VO.c (.assign rfl) (VO.go ?_); refine VC.ret ?_; exact VEnd.one rfl evT (pvI (by simp [whenE, *]))
  try simp only [Bool.and_eq_true, Bool.or_eq_true, Bool.and_eq_false_iff, Bool.or_eq_false_iff, Bool.not_eq_true', Bool.not_eq_false', decide_eq_true_eq, decide_eq_false_iff_not] at c1
  refine VC.skip (VC.seq (VC.text ?_)); refine VO.c (.assign rfl) (VO.go ?_); refine VC.ret ?_; exact VEnd.one rfl evT (pvI (by simp [whenE, *]))
end Go.Proofs
namespace Go.Proofs
open Go.Fs
set_option maxHeartbeats 400000
end Go.Proofs
namespace Go.Proofs
open Go.Fs
set_option maxHeartbeats 1000000
end Go.Proofs
namespace Go.Fs
variable {P : Program} {h : Heap} {S : List Nat} {σ : Sto} {t : Tr} {fl : VL} {x : Operand} {T e : TypeId} {τ : Ty}
end Go.Fs
namespace Go.Fs
variable {P : Program} {σ : Sto} {fl : VL} {x y : Operand} {T T' : TypeId} {p q : Bool}
end Go.Fs
namespace Go.Fs
variable {P : Program} {orc : FuncId → List Value → Heap → Option (Value × Heap)} {σ : Sto} {fl : VL} {ops : Array Oper} {n : Nat} {l : List Oper} {K : VL → Sto → Prop} {d : Tmp} {ty : TypeId} {pos : String} {after : Array Edge} {g : Option (Nat × Bool)} {x : Operand} {T e : TypeId} {τ : Ty}
end Go.Fs
namespace Go.Fs
variable {P : Program} {fl : VL} {e : TypeId} {τ : Ty}
end Go.Fs
namespace Go.Fs
open Go.RowKit (Below)
variable {P : Program} {H : Type} {enc : TypeId × Value → H} {w : World} {base : Nat} {sp : Nat → Bool} {held : Bool}
def fsB (P : Program) (ty : TypeId → Ty → Bool) : List Field → Nat → Ty → Bool
  | [f], off, .pair a .unit => Nat.beq f.offset off && Nat.beq (P.cellsOf f.type) a.size && ty f.type a
  | [f], off, τ => Nat.beq f.offset off && Nat.beq (P.cellsOf f.type) τ.size && ty f.type τ
  | f :: fs, off, .pair a b => Nat.beq f.offset off && Nat.beq (P.cellsOf f.type) a.size && ty f.type a && fsB P ty fs (off + a.size) b
  | _, _, _ => false
def arrFs (P : Program) (m : Nat) (e : TypeId) : List Field := (List.range m).map fun i => { name := "", type := e, offset := i * P.cellsOf e, embedded := false, tag := "", pkgPath := "", byteOffset := 0 }
def tyB (P : Program) : Nat → TypeId → Ty → Bool
  | 0, _, _ => false
  | n + 1, t, τ =>
    match P.underlying t, τ with
    | some (.int k), .int k' => decide (k = k')
    | some .bool, .bool => true
    | some .string, .str => true
    | some (.float k), .flt k' => decide (k = k')
    | some (.slice te), .sl e => Nat.beq (P.cellsOf te) e.size && Nat.blt 0 e.size && tyB P n te e
    | some (.struct fs), .pair a b => Nat.beq (P.cellsOf t) (Ty.pair a b).size && fsB P (tyB P n) fs.toList 0 (.pair a b)
    | some (.array m e), .pair a b => Nat.beq (P.cellsOf t) (Ty.pair a b).size && fsB P (tyB P n) (arrFs P m e) 0 (.pair a b)
    | _, _ => false
def Wf : (τ : Ty) → τ.den → Prop
  | .int k, n => (Lit.int k n).wf = true
  | .bool, _ => True
  | .str, s => s.size ≤ maxLen
  | .flt k, n => (Lit.float k n).wf = true
  | .sl e, xs => List.length xs ≤ maxLen ∧ ∀ x ∈ (xs : List e.den), Wf e x
  | .pair a b, x => Wf a x.1 ∧ Wf b x.2
  | .unit, _ => True
  | .mp _ _, _ => True
  | .fn, _ => True
  | .hnd, _ => True
structure Got (P : Program) (w : World) (ρ : Ren) (S : Nat → Prop) (h : Heap) (ρ' : Ren) (S' : Nat → Prop) (h' : Heap) : Prop where
  hr : HR P ρ' S' w.heap.size (wz w) h' w
  agree : ∀ b, S b → S' b ∧ ρ' b = ρ b
  aft : After h h'
theorem Got.refl {ρ : Ren} {S : Nat → Prop} {h : Heap} (hr : HR P ρ S w.heap.size (wz w) h w) : Got P w ρ S h ρ S h := ⟨hr, fun _ hb => ⟨hb, rfl⟩, After.refl h⟩
theorem Got.trans {ρ ρ1 ρ2 : Ren} {S S1 S2 : Nat → Prop} {h h1 h2 : Heap} (a : Got P w ρ S h ρ1 S1 h1) (b : Got P w ρ1 S1 h1 ρ2 S2 h2) : Got P w ρ S h ρ2 S2 h2 :=
  ⟨b.hr, fun i hi => let ⟨h3, h4⟩ := a.agree i hi; let ⟨h5, h6⟩ := b.agree i h3; ⟨h5, h6.trans h4⟩, a.aft.trans b.aft⟩
theorem Got.ok {ρ ρ1 : Ren} {S S1 : Nat → Prop} {h h1 : Heap} (a : Got P w ρ S h ρ1 S1 h1) : HOk h1 := fun b o hg => (a.hr.ids b (a.hr.objs b o hg).1).1
theorem hok_of {ρ : Ren} {S : Nat → Prop} {h : Heap} (hr : HR P ρ S w.heap.size (wz w) h w) : HOk h := fun b o hg => (hr.ids b (hr.objs b o hg).1).1
theorem Got.row {ρ : Ren} {S : Nat → Prop} {h : Heap} (hr : HR P ρ S w.heap.size (wz w) h w) {te : TypeId} {cs : List Value} {a : Addr} (ha : a.block < w.heap.size) (hc : ∀ i, i < cs.length → ∃ v, w.cell? ⟨a.block, a.off + i, none⟩ = some v ∧ VR ρ S (cs.getD i undef) v) :
    Got P w ρ S h (fun b => if b = h.next then (.clean a.block a.off 0 (P.cellsOf te)) else ρ b) (fun b => S b ∨ b = h.next) (h.push (.row te cs false false)) := by
  have hag : ∀ b, S b → (S b ∨ b = h.next) ∧ (fun b => if b = h.next then (Loc.clean a.block a.off 0 (P.cellsOf te)) else ρ b) b = ρ b := fun b hb => by
    have := (hr.ids b hb).1; exact ⟨.inl hb, by simp only; rw [if_neg (by omega)]⟩
  have hold : ∀ i o, (h.push (.row te cs false false)).get i = some o → (i = h.next ∧ o = .row te cs false false) ∨ (i ≠ h.next ∧ h.get i = some o) := fun i o hg => by
    rw [Heap.get_push] at hg; by_cases hi : i = h.next
    · rw [if_pos hi] at hg; exact .inl ⟨hi, (Option.some.inj hg).symm⟩
    rw [if_neg hi] at hg; exact .inr ⟨hi, hg⟩
  refine ⟨⟨fun i o hg => ?_, fun i j oi oj hi hj oi1 oj1 he => ?_, fun i o hg ho => ?_, fun i o hg ho => ?_, fun b hb => ?_, Nat.succ_pos _, z_below (Below.refl _ _), Nat.zero_le _, Nat.le_refl _⟩, hag, After.push h _⟩
  · rcases hold i o hg with ⟨rfl, rfl⟩ | ⟨hi, hg'⟩
    · refine ⟨.inr rfl, ?_⟩; simp only [if_true]; refine ⟨rfl, fun i hi => ?_, fun hx => by cases hx⟩; obtain ⟨v, h1, h2⟩ := hc i hi; exact ⟨v, h1, h2.mono hag⟩
    obtain ⟨h1, h2⟩ := hr.objs i o hg'; refine ⟨.inl h1, ?_⟩; simp only [if_neg hi]; exact h2.mono hag
  · rcases hold i oi hi with ⟨rfl, rfl⟩ | ⟨hi', hgi⟩
    · cases oi1
    rcases hold j oj hj with ⟨rfl, rfl⟩ | ⟨hj', hgj⟩
    · cases oj1
    simp only [if_neg hi', if_neg hj'] at he; exact hr.inj i j oi oj hgi hgj oi1 oj1 he
  · rcases hold i o hg with ⟨rfl, rfl⟩ | ⟨hi, hg'⟩
    · cases ho
    simp only [if_neg hi]; exact hr.base i o hg' ho
  · rcases hold i o hg with ⟨rfl, rfl⟩ | ⟨hi, hg'⟩
    · simp only [if_true]; exact ha
    simp only [if_neg hi]; exact hr.ro i o hg' ho
  have hn : (h.push (.row te cs false false)).next = h.next + 1 := rfl; rw [hn]; rcases hb with hb | rfl
  · have := hr.ids b hb; exact ⟨by omega, this.2⟩
  have := hr.pos; exact ⟨by omega, by omega⟩
theorem trod_float {fuel : Nat} {t : TypeId} {cs : List Value} {x : DataW H × List MemPlace} {k : FloatKind} (ht : P.underlying t = some (.float k)) (h : DataW.trod enc P w base sp held fuel t cs = some x) : ∃ n, cs = [.float k n] ∧ (Lit.float k n).wf = true := by
  cases fuel with
  | zero => simp [DataW.trod] at h
  | succ n =>
    unfold DataW.trod at h; rw [ht] at h; split at h <;> simp_all
theorem mapM_all {α β : Type} (f : α → Option β) : ∀ (l : List α) (r : List β), l.mapM f = some r → l.length = r.length ∧ ∀ i (hi : i < l.length) (hr : i < r.length), f l[i] = some r[i]
  | [], r, h => by
    simp only [List.mapM_nil] at h; obtain rfl := Option.some.inj h
    exact ⟨rfl, fun i hi => absurd hi (by simp)⟩
  | a :: l, r, h => by
    rw [List.mapM_cons] at h
    cases hf : f a with
    | none => rw [hf] at h; cases h
    | some b =>
      rw [hf] at h
      cases hl : l.mapM f with
      | none => rw [hl] at h; cases h
      | some bs =>
        rw [hl] at h; obtain rfl := Option.some.inj h; obtain ⟨h1, h2⟩ := mapM_all f l bs hl; refine ⟨by simp [h1], fun i hi hr => ?_⟩
        cases i with
        | zero => exact hf
        | succ i => exact h2 i (by simpa using hi) (by simpa using hr)
theorem cells_some {a : Addr} {n : Nat} {cs : List Value} (h : w.cells? base a n = some cs) : cs.length = n ∧ ∀ i, i < n → w.cell? (a.add i) = some (cs.getD i undef) := by
  unfold World.cells? at h; split at h
  · obtain ⟨h1, h2⟩ := mapM_all _ _ _ h; rw [List.length_range] at h1; refine ⟨h1.symm, fun i hi => ?_⟩; have := h2 i (by simpa using hi) (by omega); rw [List.getElem_range] at this; rw [this]; simp [List.getD, show i < cs.length by omega]
  cases h
theorem cell_some {a : Addr} {v : Value} (h : w.cell? a = some v) : a.spot = none ∧ a.block < w.heap.size := by
  unfold World.cell? at h; split at h
  · rename_i c _ _ hb; refine ⟨?_, (Array.getElem?_eq_some_iff.1 hb).1⟩
    cases hs : a.spot with
    | none => rfl
    | some s => rw [hs] at h; cases h
  cases h
def Tells (P : Program) (w : World) (τ : Ty) (cs : List Value) : Prop := ∀ (ρ : Ren) (S : Nat → Prop) (h : Heap), HR P ρ S w.heap.size (wz w) h w →
  ∃ ρ' S' h' cs' x, Got P w ρ S h ρ' S' h' ∧ LR ρ' S' cs' cs ∧ RepC h' [] τ cs' x ∧ Wf τ x
theorem LR.one {ρ : Ren} {S : Nat → Prop} {v v' : Value} (h : VR ρ S v v') : LR ρ S [v] [v'] := LR.cons h LR.nil
theorem tells_elems {e : Ty} (a : Addr) (len : Nat) (hcs : ∀ i, i < len → ∃ cs, (∀ j, j < e.size → w.cell? (a.add (i * e.size + j)) = some (cs.getD j undef)) ∧ cs.length = e.size ∧ Tells P w e cs) :
    ∀ (ρ : Ren) (S : Nat → Prop) (h : Heap), HR P ρ S w.heap.size (wz w) h w → ∃ ρ' S' h' rs xs, Got P w ρ S h ρ' S' h' ∧ rs.length = len * e.size ∧ List.length xs = len ∧ (∀ i, i < len * e.size → ∃ v, w.cell? (a.add i) = some v ∧ VR ρ' S' (rs.getD i undef) v) ∧
      Elems h' [] e rs xs ∧ ∀ x ∈ (xs : List e.den), Wf e x := by
  induction len with
  | zero =>
    intro ρ S h hr
    exact ⟨ρ, S, h, [], [], Got.refl hr, by simp, rfl, fun i hi => by omega, Elems.nil, fun x hx => by cases hx⟩
  | succ n ih =>
    intro ρ S h hr; obtain ⟨ρ1, S1, h1, rs, xs, g1, l1, l2, c1, e1, w1⟩ := ih (fun i hi => hcs i (by omega)) ρ S h hr; obtain ⟨cs, k1, k2, k3⟩ := hcs n (by omega); obtain ⟨ρ2, S2, h2, cs', x, g2, lr, rc, wf⟩ := k3 ρ1 S1 h1 g1.hr; have hN : Goes h1 [] h2 [] := g2.aft.nx g1.ok; have hl : cs'.length = e.size := rc.len
    have hel : Elems h2 [] e cs' [x] := by
      refine ⟨by simpa using hl, fun i hi => ?_⟩
      obtain rfl : i = 0 := by simpa using hi
      simp only [Nat.zero_mul, List.drop_zero, List.getElem_cons_zero]; rw [List.take_of_length_le (by omega)]; exact rc
    refine ⟨ρ2, S2, h2, rs ++ cs', xs ++ [x], g1.trans g2, by rw [List.length_append, l1, hl, Nat.add_mul]; omega, by simp [l2], fun i hi => ?_, (e1.nx hN).append hel, fun y hy => ?_⟩
    · rw [Nat.add_mul, Nat.one_mul] at hi; by_cases hin : i < n * e.size
      · obtain ⟨v, hv1, hv2⟩ := c1 i hin; refine ⟨v, hv1, ?_⟩; rw [List.getD_eq_getElem?_getD, List.getElem?_append_left (by omega), ← List.getD_eq_getElem?_getD]; exact hv2.mono g2.agree
      have hj : i - n * e.size < e.size := by omega
      refine ⟨cs.getD (i - n * e.size) undef, ?_, ?_⟩
      · have := k1 (i - n * e.size) hj
        rwa [show n * e.size + (i - n * e.size) = i by omega] at this
      rw [List.getD_eq_getElem?_getD, List.getElem?_append_right (by omega), l1, ← List.getD_eq_getElem?_getD]; exact lr.getD _
    rcases List.mem_append.1 hy with hy | hy
    · exact w1 y hy
    obtain rfl := List.mem_singleton.1 hy; exact wf
theorem Addr.add_spot {a : Addr} (h : a.spot = none) (n : Nat) : a.add n = ⟨a.block, a.off + n, none⟩ := by
  obtain ⟨b, o, s⟩ := a; simp only at h; subst h; unfold Addr.add; by_cases hn : n = 0
  · subst hn; simp
  simp [hn]
theorem tells_fields {n : Nat} (ih : ∀ (t : TypeId) (τ : Ty), tyB P n t τ = true → ∀ (fuel : Nat) (cs : List Value) (x : DataW H × List MemPlace), DataW.trod enc P w base sp held fuel t cs = some x → Tells P w τ cs) :
    ∀ (fs : List Field) (off : Nat) (τ : Ty) (cs : List Value) (m : Nat), fsB P (tyB P n) fs off τ = true → cs.length = off + τ.size → (∀ f ∈ fs, ∃ x, DataW.trod enc P w base sp held m f.type ((cs.drop f.offset).take (P.cellsOf f.type)) = some x) → Tells P w τ (cs.drop off) := by
  have one : ∀ (f : Field) (off : Nat) (τ : Ty) (cs : List Value) (m : Nat), f.offset = off → P.cellsOf f.type = τ.size → tyB P n f.type τ = true → off + τ.size ≤ cs.length → (∃ x, DataW.trod enc P w base sp held m f.type ((cs.drop f.offset).take (P.cellsOf f.type)) = some x) → Tells P w τ ((cs.drop off).take τ.size) := by
    intro f off τ cs m h1 h2 h3 h4 ⟨x, hx⟩; rw [h1, h2] at hx; exact ih f.type τ h3 m _ x hx
  intro fs
  induction fs with
  | nil => intro off τ cs m hb; cases hb
  | cons f fs ihf =>
    intro off τ cs m hb hl hall; have hf := hall f List.mem_cons_self
    cases fs with
    | nil =>
      by_cases hs : ∃ a, τ = .pair a .unit
      · obtain ⟨a, rfl⟩ := hs; have hb' : (Nat.beq f.offset off && Nat.beq (P.cellsOf f.type) a.size && tyB P n f.type a) = true := hb; obtain ⟨hb', h3⟩ := band hb'; obtain ⟨h1, h2⟩ := band hb'
        have hs : (Ty.pair a .unit).size = a.size := by simp [Ty.size]
        rw [hs] at hl; have := one f off a cs m (nbeq h1) (nbeq h2) h3 (by omega) hf; intro ρ S h hr; obtain ⟨ρ', S', h', cs', x, g, lr, rc, wf⟩ := this ρ S h hr; have e1 : (cs.drop off).take a.size = cs.drop off := List.take_of_length_le (by rw [List.length_drop]; omega); rw [e1] at lr; have hcl := rc.len; exact ⟨ρ', S', h', cs', (x, ()), g, lr, ⟨by rw [List.take_of_length_le (by omega)]; exact rc, by rw [List.drop_eq_nil_of_le (by omega)]; rfl⟩, wf, trivial⟩
      have hb' : (Nat.beq f.offset off && Nat.beq (P.cellsOf f.type) τ.size && tyB P n f.type τ) = true := by
        cases τ with
        | pair a b =>
          cases b with
          | unit => exact absurd ⟨a, rfl⟩ hs
          | _ => exact hb
        | _ => exact hb
      obtain ⟨hb', h3⟩ := band hb'; obtain ⟨h1, h2⟩ := band hb'; have := one f off τ cs m (nbeq h1) (nbeq h2) h3 (by omega) hf; have e1 : (cs.drop off).take τ.size = cs.drop off := List.take_of_length_le (by rw [List.length_drop]; omega)
      rwa [e1] at this
    | cons g fs =>
      cases τ with
      | pair a b =>
        have hb' : (Nat.beq f.offset off && Nat.beq (P.cellsOf f.type) a.size && tyB P n f.type a && fsB P (tyB P n) (g :: fs) (off + a.size) b) = true := hb; obtain ⟨hb', h4⟩ := band hb'; obtain ⟨hb', h3⟩ := band hb'; obtain ⟨h1, h2⟩ := band hb'; have hs : (Ty.pair a b).size = a.size + b.size := rfl; rw [hs] at hl; have ha := one f off a cs m (nbeq h1) (nbeq h2) h3 (by omega) hf; have hrest := ihf (off + a.size) b cs m h4 (by omega) (fun g hg => hall g (List.mem_cons_of_mem _ hg)); intro ρ S h hr; obtain ⟨ρ1, S1, h1', cs1, x1, g1, lr1, rc1, wf1⟩ := ha ρ S h hr; obtain ⟨ρ2, S2, h2', cs2, x2, g2, lr2, rc2, wf2⟩ := hrest ρ1 S1 h1' g1.hr; have hN : Goes h1' [] h2' [] := g2.aft.nx g1.ok; have hc1 := rc1.len; refine ⟨ρ2, S2, h2', cs1 ++ cs2, (x1, x2), g1.trans g2, ?_, ⟨?_, ?_⟩, wf1, wf2⟩
        · have := (lr1.mono g2.agree).append lr2
          rwa [show (cs.drop off).take a.size ++ cs.drop (off + a.size) = cs.drop off from by rw [← List.drop_drop, List.take_append_drop]] at this
        · rw [List.take_left' hc1]; exact rc1.nx hN
        rw [List.drop_left' hc1]; exact rc2
      | _ => cases hb
theorem tells : ∀ (n : Nat) (t : TypeId) (τ : Ty), tyB P n t τ = true → ∀ (fuel : Nat) (cs : List Value) (x : DataW H × List MemPlace), DataW.trod enc P w base sp held fuel t cs = some x → Tells P w τ cs := by
  intro n
  induction n with
  | zero => intro t τ h; cases h
  | succ n ih =>
    intro t τ hb fuel cs x hx; unfold tyB at hb; split at hb
    · rename_i k k' hu; obtain rfl : k = k' := of_decide_eq_true hb; obtain ⟨m, rfl, _, hwf⟩ := DataW.trod_int hu hx; exact fun ρ S h hr => ⟨ρ, S, h, _, m, Got.refl hr, LR.one (.lit rfl), rfl, hwf⟩
    · rename_i hu; obtain ⟨b, rfl, _⟩ := DataW.trod_bool hu hx; exact fun ρ S h hr => ⟨ρ, S, h, _, b, Got.refl hr, LR.one (.lit rfl), rfl, trivial⟩
    · rename_i hu; obtain ⟨s, rfl, _, hs⟩ := DataW.trod_string hu hx; exact fun ρ S h hr => ⟨ρ, S, h, _, s, Got.refl hr, LR.one (.lit rfl), rfl, hs⟩
    · rename_i k k' hu; obtain rfl : k = k' := of_decide_eq_true hb; obtain ⟨m, rfl, hwf⟩ := trod_float hu hx; exact fun ρ S h hr => ⟨ρ, S, h, _, m, Got.refl hr, LR.one (.lit rfl), rfl, hwf⟩
    · rename_i te e hu; obtain ⟨hb, h3⟩ := band hb; obtain ⟨h1, h2⟩ := band hb; have hce := nbeq h1; have hpos := nblt h2; rcases DataW.trod_slice hu hx with ⟨rfl, _⟩ | ⟨a, len, cap, elems, rest, m, _, rfl, _, hba, hlc, hcap, hlen, hel, _⟩
      · exact fun ρ S h hr => ⟨ρ, S, h, [.slice none 0 0], [], Got.refl hr, LR.one (.lit rfl), ⟨_, rfl, .inl ⟨rfl, rfl⟩⟩, Nat.zero_le _, fun x hx => by cases hx⟩
      by_cases h0 : len = 0
      · subst h0; exact fun ρ S h hr => ⟨ρ, S, h, [.slice (some ⟨0, 0, none⟩) 0 2], [], Got.refl hr, LR.one (.slice 0 0 0 2 cap a (Nat.zero_le _) (fun h => by cases h) (fun _ => rfl) (fun h => absurd rfl h)), ⟨_, rfl, .inr ⟨0, 0, 2, rfl, .inl rfl⟩⟩, Nat.zero_le _, fun x hx => by cases hx⟩
      have hcs : ∀ i, i < len → ∃ cs, (∀ j, j < e.size → w.cell? (a.add (i * e.size + j)) = some (cs.getD j undef)) ∧ cs.length = e.size ∧ Tells P w e cs := by
        intro i hi; have := hel i hi; rw [List.getElem?_eq_getElem (by omega)] at this; rw [hce] at this
        cases hc : w.cells? base (a.add (i * e.size)) e.size with
        | none => rw [hc] at this; cases this
        | some cs =>
          rw [hc] at this; obtain ⟨k1, k2⟩ := cells_some hc; refine ⟨cs, fun j hj => ?_, k1, ih te e h3 m cs _ this⟩; rw [← k2 j hj]; congr 1; obtain ⟨b, o, s⟩ := a; unfold Addr.add; by_cases hx1 : i * e.size = 0
          · simp [hx1]
          by_cases hx2 : j = 0
          · subst hx2; simp [hx1]
          simp [hx1, hx2, Nat.add_assoc]
      have hfirst : a.spot = none ∧ a.block < w.heap.size := by
        obtain ⟨cs, k1, _⟩ := hcs 0 (by omega); have := k1 0 hpos; rw [Nat.zero_mul, Nat.zero_add] at this; have h4 := cell_some this; simpa [Addr.add] using h4
      intro ρ S h hr; obtain ⟨ρ1, S1, h1', rs, xs, g1, l1, l2, c1, e1, w1⟩ := tells_elems (P := P) a len hcs ρ S h hr
      have hrow := Got.row (te := te) g1.hr (cs := rs) (a := a) hfirst.2 (fun i hi => by
        have := c1 i (by omega)
        rwa [Addr.add_spot hfirst.1] at this)
      have hsl : SlV (h1'.push (.row te rs false false)) [] e (.slice (some ⟨h1'.next, 0, none⟩) (List.length xs) 2) xs := (e1.nx (hrow.aft.nx g1.ok)).slv (by rw [Heap.get_push, if_pos rfl]) (by simp); refine ⟨_, _, _, [.slice (some ⟨h1'.next, 0, none⟩) (List.length xs) 2], xs, g1.trans hrow, ?_, ⟨_, rfl, hsl⟩, by omega, w1⟩; rw [l2]; refine LR.one (.slice h1'.next 0 len 2 cap a hlc (fun h => by cases h) (fun h5 => by have := g1.hr.pos; omega) fun _ => ⟨.inr rfl, ?_, fun h => by cases h⟩); simp only [if_true, Loc.at, Nat.add_zero]; obtain ⟨b, o, s⟩ := a; simp only at hfirst; rw [hfirst.1]
    · rename_i fs a b hu; obtain ⟨h1, h2⟩ := band hb; obtain ⟨xs, m, _, _, hl, hsz, hall⟩ := DataW.trod_struct hu hx
      have hcl : cs.length = (Ty.pair a b).size := by rw [hl, nbeq h1]
      have := tells_fields ih fs.toList 0 (.pair a b) cs m h2 (by omega) (fun f hf => by
        obtain ⟨i, hi, rfl⟩ := List.getElem_of_mem hf
        have hi' : i < fs.size := by simpa using hi
        have := hall i fs[i] (by simp [hi']); rw [List.getElem?_eq_getElem (by omega)] at this
        exact ⟨_, by simpa using this⟩)
      simpa using this
    · rename_i m e a b hu; obtain ⟨h1, h2⟩ := band hb; obtain ⟨xs, m', _, _, hl, hsz, hall⟩ := DataW.trod_array hu hx
      have hcl : cs.length = (Ty.pair a b).size := by rw [hl, nbeq h1]
      have := tells_fields ih (arrFs P m e) 0 (.pair a b) cs m' h2 (by omega) (fun f hf => by
        obtain ⟨i, hi, rfl⟩ := List.mem_map.1 hf; have hi' : i < m := List.mem_range.1 hi; have := hall i hi'; rw [List.getElem?_eq_getElem (by omega)] at this
        exact ⟨_, this⟩)
      simpa using this
    cases hb
theorem okWide_agg {n : Nat} {r : Reach} {b0 : Nat} {t : TypeId} {τ : Ty} {v : Value} (hb : tyB P n t τ = true) (hval : Value.okWide P w r b0 t v) : isAggV v = τ.agg := by
  cases n with
  | zero => cases hb
  | succ n =>
    unfold tyB at hb; unfold Value.okWide at hval; split at hb
    · rename_i k k' hu; rw [hu] at hval; simp only [Cell.okWide, hu, Cell.ok] at hval; cases v <;> simp_all [isAggV, Ty.agg]
    · rename_i hu; rw [hu] at hval; simp only [Cell.okWide, hu, Cell.ok] at hval; cases v <;> simp_all [isAggV, Ty.agg]
    · rename_i hu; rw [hu] at hval; simp only [Cell.okWide, hu, Cell.ok] at hval; cases v <;> simp_all [isAggV, Ty.agg]
    · rename_i k k' hu; rw [hu] at hval; simp only [Cell.okWide, hu, Cell.ok] at hval; cases v <;> simp_all [isAggV, Ty.agg]
    · rename_i te e hu; rw [hu] at hval; simp only [Cell.okWide, hu, Cell.ok] at hval; cases v <;> simp_all [isAggV, Ty.agg]
    · rename_i fs a b hu; rw [hu] at hval; obtain ⟨cs, rfl, _⟩ := hval; rfl
    · rename_i m e a b hu; rw [hu] at hval; obtain ⟨cs, rfl, _⟩ := hval; rfl
    cases hb
theorem tell_arg {ρ : Ren} {S : Nat → Prop} {h : Heap} (hr : HR P ρ S w.heap.size (wz w) h w) {n : Nat} {r : Reach} {b0 : Nat} {t : TypeId} {τ : Ty} {v : Value} {d : DataW H} {ps : List MemPlace} (hb : tyB P n t τ = true) (hval : Value.okWide P w r b0 t v) (hd : DataW.Trod enc P w base sp held t v d ps) :
    ∃ ρ' S' h' v' x, Got P w ρ S h ρ' S' h' ∧ VR ρ' S' v' v ∧ RepV h' [] τ v' x ∧ Wf τ x := by
  have hag := okWide_agg hb hval; obtain ⟨fuel, hf⟩ := hd; obtain ⟨ρ', S', h', cs', x, g, lr, rc, wf⟩ := tells n t τ hb fuel _ _ hf ρ S h hr
  cases hτ : τ.agg with
  | true =>
    rw [hτ] at hag
    cases v with
    | agg cs =>
      refine ⟨ρ', S', h', .agg cs'.toArray, x, g, VR.agg' (by simpa [Value.cells] using lr), ⟨hτ.symm, by simpa [Value.cells] using rc⟩, wf⟩
    | _ => cases hag
  | false =>
    rw [hτ] at hag; rw [cells_one hag] at lr; obtain ⟨u, rfl, hu⟩ := rc.one hτ; have := lr.2 0 (by simp); exact ⟨ρ', S', h', u, x, g, by simpa using this, hu, wf⟩
section
open Go.WideElems Go.ChangeShapes
theorem trodAll_below (hl : laidOutB P = true) {W W' : World} (hb : Below W.heap.size W W') : ∀ {ts : List TypeId} {vs : List Value} {ds : List (DataW H)} {ps : List MemPlace}, (ts.all fun t => P.readableRec t && decide (t < P.types.size)) = true →
    DataW.TrodAll enc P W 0 (fun _ => true) true ts vs ds ps → (∀ x ∈ ps, x.block < W.heap.size) → DataW.TrodAll enc P W' 0 (fun b => decide (b < W.heap.size)) true ts vs ds ps
  | [], [], [], _, _, h, _ => h
  | [], _ :: _, _, _, _, h, _ => h.elim
  | [], [], _ :: _, _, _, h, _ => h.elim
  | _ :: _, [], _, _, _, h, _ => h.elim
  | _ :: _, _ :: _, [], _, _, h, _ => h.elim
  | t :: ts, v :: vs, d :: ds, ps, ha, h, hp => by
    obtain ⟨p, q, h1, h2, rfl⟩ := h; simp only [List.all_cons, Bool.and_eq_true, decide_eq_true_eq] at ha; exact ⟨p, q, Go.RowKit.Below.trod hl ha.1.1 ha.1.2 h1 hb (fun x hx => hp x (List.mem_append_left _ hx)), trodAll_below hl hb (by simpa using ha.2) h2 (fun x hx => hp x (List.mem_append_right _ hx)), rfl⟩
theorem law_post {f : Func} {s : ChangeSpec} {tb : TypeId} (hl : laidOutB P = true) (hrd : (f.params.toList.all fun t => P.readableRec t && decide (t < P.types.size)) = true) (hres : f.resultTypes = #[tb]) (htb : P.underlying tb = some .bool) (hvars : s.vars = []) {W W' : World} {args : Array Value} {ds gs : List (DataW H)}
    {before : List MemPlace} (hW : DataW.Whole enc P f.params.toList s.vars false W args.toList ds gs before) (hr : (s.fn H (ds ++ gs)).results = [.lit (.bool true)]) (ha : (s.fn H (ds ++ gs)).args = ds) (hv : (s.fn H (ds ++ gs)).vars = []) (hb : Below W.heap.size W W') :
    s.post enc P f false true false false W args (.bool true) W' := by
  have hlt := hW.lt; have hW' := hW; obtain ⟨p, q, hA, hV, rfl, _, _⟩ := hW; rw [hvars] at hV; have hV' : gs = [] ∧ q = [] := trodVars_none hV; obtain ⟨rfl, rfl⟩ := hV'; refine ⟨ds, [], p ++ [], [], p, [], hW', ?_, ?_, ?_, hb.frame _, fun h => by cases h⟩
  · rw [hr, hres]; exact trodAll_mk1 (Go.RowKit.shut_bool htb _)
  · rw [ha]; exact trodAll_below hl hb hrd hA fun x hx => hlt x (List.mem_append_left _ hx)
  rw [hvars, hv]; exact rfl
end
theorem law_calls3 (hP : ProgOk P) {orc : FuncId → List Value → Heap → Option (Value × Heap)} {W : World} (horc : CallSound P W.heap.size (wz W) orc) {ρz : Ren} {Sz : Nat → Prop} {hz : Heap} (hrz : HR P ρz Sz W.heap.size (wz W) hz W) (hGz : GT hz []) {f : FuncId} (hen : Enters P f) {fn : Func} {n : Nat} {t0 t1 t2 : TypeId} {τ0 τ1 τ2 : Ty} (hp : fn.params = #[t0, t1, t2]) (hb0 : tyB P n t0 τ0 = true) (hb1 : tyB P n t1 τ1 = true) (hb2 : tyB P n t2 τ2 = true)
    (hE : ∀ (h : Heap) (v0 v1 v2 : Value) (x0 : τ0.den) (x1 : τ1.den) (x2 : τ2.den), HOkG h → RepV h [] τ0 v0 x0 → RepV h [] τ1 v1 x1 → RepV h [] τ2 v2 x2 → Wf τ0 x0 → Wf τ1 x1 → Wf τ2 x2 → EvF P orc f [v0, v1, v2] h fun r h' => r = .bool true ∧ h' = h)
    {args : Array Value} {ds : List (DataW H)} {ps : List MemPlace} (hval : ∀ (j : Nat) t v, fn.params[j]? = some t → args[j]? = some v → Value.okWide P W .any base t v) (hA : DataW.TrodAll enc P W 0 sp held fn.params.toList args.toList ds ps) :
    Calls P f args W fun | .returned v', w' => v' = .bool true ∧ Below W.heap.size W w' | _, _ => False := by
  rw [hp] at hA hval; obtain ⟨v0, vs0, d0, ds0, p0, q0, ha, rfl, rfl, k0, r0⟩ := Go.ChangeShapes.trodAll_cons hA; obtain ⟨v1, vs1, d1, ds1, p1, q1, rfl, rfl, rfl, k1, r1⟩ := Go.ChangeShapes.trodAll_cons r0; obtain ⟨v2, vs2, d2, ds2, p2, q2, rfl, rfl, rfl, k2, r2⟩ := Go.ChangeShapes.trodAll_cons r1; obtain ⟨rfl, rfl, rfl⟩ := Go.ChangeShapes.trodAll_nil r2
  obtain rfl : args = #[v0, v1, v2] := by cases args; simp_all
  obtain ⟨ρ0, S0, h0, u0, x0, g0, c0, e0, w0⟩ := tell_arg hrz hb0 (hval 0 t0 v0 rfl rfl) k0; obtain ⟨ρ1, S1, h1, u1, x1, g1, c1, e1, w1⟩ := tell_arg g0.hr hb1 (hval 1 t1 v1 rfl rfl) k1; obtain ⟨ρ2, S2, h2, u2, x2, g2, c2, e2, w2⟩ := tell_arg g1.hr hb2 (hval 2 t2 v2 rfl rfl) k2; have hR := hE h2 u0 u1 u2 x0 x1 x2 ⟨g2.ok, ((hGz.nx (g0.aft.nx (hok_of hrz))).nx (g1.aft.nx g0.ok)).nx (g2.aft.nx g1.ok)⟩ ((e0.nx (g1.aft.nx g0.ok)).nx (g2.aft.nx g1.ok)) (e1.nx (g2.aft.nx g1.ok)) e2 w0 w1 w2; refine (fs_open (args' := [v0, v1, v2]) hP horc hen g2.hr (LR.cons ((c0.mono g1.agree).mono g2.agree) (LR.cons (c1.mono g2.agree) (LR.one c2))) (EvF.mono hR fun v h' h => h.1) rfl).mono fun e w' he => ?_
  cases e with
  | returned v => exact ⟨he.1, below_z he.2⟩
  | panicked c => exact he
  | outgrown => exact he
end Go.Fs
namespace Go.Proofs
open Go.Fs
set_option maxHeartbeats 1000000
theorem wfL {e : Ty} {xs : List e.den} (h : Wf (.sl e) xs) : xs.length ≤ 9223372036854775807 := Nat.le_trans h.1 (by decide)
def numB (have_ e bad want : Int) : Bool := if bad ≠ 0 then decide (have_ = 0) && decide (e = bad) else decide (e = 0) && decide (have_ = want)
theorem lNum_ok {a : Int} {e : Int} {bad : Int} {want : Int} : VF Tryz.prog OA 63 [I a, I e, I bad, I want] (B (numB a e bad want)) := by
  refine VF.enter Tryz.func63 rfl (fun _ _ => rfl) rfl ?_; show VC _ _ _ _ _ [(0, I a), (1, I e), (2, I bad), (3, I want)] [] _; refine VC.seq (VC.text ?_); refine VO.c (.assign rfl) ?_; refine VO.go (VC.seq (VC.seq (VC.text ?_))); refine VO.c (.move rfl) (VO.c (.neq) (VO.go ?_)); refine VC.condD rfl (fun c1 => ?_) (fun c1 => ?_)
  · refine VC.seq (VC.text ?_); refine VO.c (.move rfl) (VO.c (.eql) (VO.c (.move rfl) ?_)); refine VO.cg (r := decide (a = (0 : Int))) (w := true) [] trivial (fun _ => (.move rfl)) ?_; refine VO.cg (r := decide (a = (0 : Int))) (w := true) [] trivial (fun _ => (.move rfl)) ?_; refine VO.cg (r := decide (a = (0 : Int))) (w := true) [(14, I e), (15, I bad)] ⟨rfl, rfl, trivial⟩ (fun _ => (.eql)) ?_; refine VO.c (.and) (VO.c (.assign rfl) (VO.go ?_)); refine VC.ret ?_; exact VEnd.one rfl evT (pvE (by rw [numB, if_pos c1]))
  refine VC.skip (VC.seq (VC.text ?_)); refine VO.c (.move rfl) (VO.c (.eql) (VO.c (.move rfl) ?_)); refine VO.cg (r := decide (e = (0 : Int))) (w := true) [] trivial (fun _ => (.move rfl)) ?_; refine VO.cg (r := decide (e = (0 : Int))) (w := true) [] trivial (fun _ => (.move rfl)) ?_; refine VO.cg (r := decide (e = (0 : Int))) (w := true) [(21, I a), (22, I want)] ⟨rfl, rfl, trivial⟩ (fun _ => (.eql)) ?_; refine VO.c (.and) (VO.c (.assign rfl) (VO.go ?_)); refine VC.ret ?_; exact VEnd.one rfl evT (pvE (by rw [numB, if_neg c1]))
end Go.Proofs
namespace Go.Proofs
open Go.Fs
set_option maxHeartbeats 1000000
theorem vt9 : ValT Tryz.prog 9 .str := valT_of (by kernel_rfl)
def firstR (f : Nat → Int) (i n : Nat) : Int := firstE ((List.range' i (n - i)).map f)
theorem firstR_step {f : Nat → Int} {i n : Nat} (h : i < n) : firstR f i n = if f i = 0 then firstR f (i + 1) n else f i := by
  unfold firstR; rw [show n - i = (n - (i + 1)) + 1 by omega, List.range'_succ]; rfl
theorem firstR_end {f : Nat → Int} {i n : Nat} (h : n ≤ i) : firstR f i n = 0 := by
  unfold firstR; rw [show n - i = 0 by omega] <;> rfl
theorem firstR_zero {f : Nat → Int} {n : Nat} : firstR f 0 n = 0 ↔ ∀ i, i < n → f i = 0 := by
  unfold firstR; rw [firstE_zero, Nat.sub_zero]; constructor
  · intro h i hi; exact h _ (List.mem_map_of_mem (List.mem_range'_1.2 ⟨Nat.zero_le _, by omega⟩))
  intro h x hx; obtain ⟨i, hi, rfl⟩ := List.mem_map.1 hx; exact h i (by have := List.mem_range'_1.1 hi; omega)
abbrev Pha := ByteArray × Int × Int × List Int
def phA (l : List Pha) (i : Nat) : Pha := l.getD i (ByteArray.empty, 0, 0, [])
end Go.Proofs
namespace Go.Proofs
open Go.Fs
set_option maxHeartbeats 1000000
structure PlanOk (l : List Pha) : Prop where
  len : l.length ≤ 16
  dur : ∀ i, i < l.length → 0 ≤ (phA l i).2.1 ∧ (phA l i).2.1 ≤ (phA l i).2.2.1 ∧ (phA l i).2.2.1 ≤ 1000
  bef : ∀ i, i < l.length → ∀ k, k < (phA l i).2.2.2.length → 0 ≤ (phA l i).2.2.2.getD k 0 ∧ (phA l i).2.2.2.getD k 0 < ((i : Nat) : Int) ∧ ∀ j, j < k → (phA l i).2.2.2.getD j 0 < (phA l i).2.2.2.getD k 0
def fillL (A : List Int) (n : Nat) : List Int := A ++ List.replicate (n - A.length) 0
theorem fill_get {A : List Int} {n p : Nat} (h : p < A.length) : (fillL A n).getD p 0 = A.getD p 0 := by
  unfold fillL; rw [List.getD_eq_getElem?_getD, List.getElem?_append_left h, ← List.getD_eq_getElem?_getD]
end Go.Proofs
namespace Go.Proofs
open Go.Fs
set_option maxHeartbeats 1000000
def maxL (l : List Int) : Int := l.foldl max 0
end Go.Proofs
namespace Go.Fs
variable {P : Program} {orc : FuncId → List Value → Heap → Option (Value × Heap)} {rnd : Option Nat} {h h' h0 h1 h2 hs : Heap} {S S' S0 B G : List Nat} {σ σ' : Sto} {t t' : Tr} {ms : List Nat} {fl : VL} {ops : Array Oper} {n i mem : Nat} {l : List Oper} {K : VL → Sto → Prop} {Q : Ex → VL → Sto → Prop}
  {d d1 d2 : Tmp} {ty ty1 ty2 : TypeId} {pos pos1 pos2 : String} {after after1 after2 : Array Edge} {op : Op} {v v1 : PV} {g g1 g2 : Option (Nat × Bool)} {bs nw : List Nat} {segs : List (Nat × Nat × Nat)} {tail so : Bool}
section
variable (P orc)
end
end Go.Fs
namespace Go.Fs
variable {P : Program} {orc : FuncId → List Value → Heap → Option (Value × Heap)} {rnd : Option Nat} {h h' h0 h1 h2 : Heap} {S S' S0 B G : List Nat} {σ σ' : Sto} {t t' : Tr} {ms : List Nat} {fl : VL} {ops : Array Oper} {n i mem : Nat} {l : List Oper} {K : VL → Sto → Prop} {Q : Ex → VL → Sto → Prop}
  {d : Tmp} {ty : TypeId} {pos : String} {after : Array Edge} {op : Op} {v pv : PV} {g : Option (Nat × Bool)} {bs nw : List Nat} {segs : List (Nat × Nat × Nat)} {so : Bool}
end Go.Fs
namespace Go.Fs
variable {P : Program} {orc : FuncId → List Value → Heap → Option (Value × Heap)} {rnd : Option Nat} {h h' h0 h1 h2 : Heap} {S S' S0 B G : List Nat} {σ σ' σr : Sto} {t t' : Tr} {ms : List Nat} {fl : VL} {ops : Array Oper} {n i mem : Nat} {l : List Oper} {K : VL → Sto → Prop} {Q : Ex → VL → Sto → Prop}
  {d : Tmp} {ty : TypeId} {pos : String} {after : Array Edge} {op : Op} {v pv : PV} {g : Option (Nat × Bool)} {x y z : Operand} {T T' e e' : TypeId} {τ τ' : Ty} {w w' : Value} {c c' : Cell}
end Go.Fs
namespace Go.Proofs
open Go.Fs
set_option maxHeartbeats 1000000
def behF (l : List Pha) (n k : Nat) : List Int := ((List.range n).filter fun q => (phA l q).2.2.2.contains ((k : Nat) : Int)).map fun q => ((q : Nat) : Int)
end Go.Proofs
namespace Go.Proofs
open Go.Fs
set_option maxHeartbeats 1000000
def aftG (d : Pha → Int) (l : List Pha) : Nat → Nat → Int
  | 0, _ => 0
  | f + 1, p => maxL ((behF l l.length p).map fun x => d (phA l x.toNat) + aftG d l f x.toNat)
def aftF (d : Pha → Int) (l : List Pha) (p : Nat) : Int := aftG d l (l.length - p) p
def chnF (d : Pha → Int) (l : List Pha) (p : Nat) : Int := d (phA l p) + aftF d l p
end Go.Proofs
namespace Go.Proofs
open Go.Fs
set_option maxHeartbeats 1000000
def idxG {α : Type} (F : α → Bool) : List α → Int → Int
  | [], _ => -1
  | x :: l, k => if F x = true then k else idxG F l (k + 1)
theorem idxG_drop {α : Type} {F : α → Bool} {l : List α} {j : Nat} (hj : j < l.length) : idxG F (l.drop j) (j : Nat) = if F l[j] = true then ((j : Nat) : Int) else idxG F (l.drop (j + 1)) ((j + 1 : Nat) : Int) := by
  rw [List.drop_eq_getElem_cons hj] <;> rfl
theorem idxG_end {α : Type} {F : α → Bool} {l : List α} {j : Nat} {k : Int} (hj : l.length ≤ j) : idxG F (l.drop j) k = -1 := by rw [List.drop_eq_nil_of_le hj] <;> rfl
structure CritI (d : Pha → Int) (l : List Pha) (f : Nat) (fr : List Int) (left : Int) : Prop where
  mx : left = maxL (fr.map fun x => chnF d l x.toNat)
  rng : ∀ x ∈ fr, 0 ≤ x ∧ x < ((l.length : Nat) : Int) ∧ ((l.length : Nat) : Int) - x ≤ ((f : Nat) : Int)
  len : fr.length ≤ l.length
end Go.Proofs
namespace Go.Proofs
open Go.Fs
set_option maxHeartbeats 1000000
theorem rHasInt_ok {l : List Int} {x : Int} (hl : l.length < 1000000) : VF Tryz.prog OA 53 [.v y25 l, I x] (B (l.contains x)) := by
  refine VF.enter Tryz.func53 rfl (fun _ _ => rfl) rfl ?_; show VC _ _ _ _ _ [(0, .v y25 l), (1, I x)] [] _; refine VC.seq (VC.text ?_); refine VO.c (.assign rfl) ?_; refine VO.go (VC.seq (VC.seq (VC.text ?_))); refine VO.c (.assign rfl) ?_; refine VO.go (VC.block ?_); refine VC.keep [(0, .v y25 l), (1, I x), (5, I ((0 : Nat) : Int))] ⟨rfl, rfl, rfl, trivial⟩ ?_; refine VC.loop (I := fun kk ff ss => ∃ (i : Nat), kk = l.length - i ∧ ff = [(0, .v y25 l), (1, I x), (5, I ((i : Nat) : Int))] ∧ ss = [] ∧ (i ≤ l.length) ∧ (∀ j (hj : j < l.length), j < i → l[j] ≠ x)) ?_ _ _ _ ⟨0, rfl, rfl, rfl, Nat.zero_le _, (by intro j hj h; omega)⟩; rintro kk ff ss ⟨i, hk0, rfl, rfl, hi, hq⟩; refine VC.seq (VC.seq (VC.text ?_)); refine VO.c (.move rfl) (VO.c (.move rfl) ?_); refine VO.r (.len el25) ?_; refine VO.c (.lss) (VO.go ?_); refine VC.condD rfl (fun c2 => ?_) (fun c2 => ?_)
  · refine VC.skip (VC.seq (VC.block (VC.seq (VC.text ?_)))); refine VO.c (.move rfl) (VO.c (.move rfl) (VO.c (.ix (j := i) rfl rfl el25 (by omega)) ?_)); refine VO.r (.ld vt3) ?_; refine VO.c (.move rfl) (VO.c (.eql) (VO.go ?_)); refine VC.condD rfl (fun c4 => ?_) (fun c4 => ?_)
    · refine VC.seq (VC.text ?_); refine VO.c (.assign rfl) (VO.go ?_); refine VC.ret ?_; exact VEnd.one rfl evT (pvE (by exact (List.contains_iff_mem.2 (c4 ▸ List.getElem_mem _)).symm))
    refine VC.skip (VC.text ?_); refine VO.c (.move rfl) (VO.c (.add rfl rfl (by omega)) (VO.c (.assign rfl) ?_)); refine VO.nil ?_; refine ⟨_, [(0, .v y25 l), (1, I x), (5, I (((i + 1) : Nat) : Int))], ?_, ⟨rfl, rfl, rfl, trivial⟩, (i + 1), rfl, rfl, rfl, (by omega), (by intro j hj h; rcases Nat.lt_succ_iff_lt_or_eq.1 h with h | h; exact hq j hj h; subst h; exact c4)⟩; omega
  refine VC.exit (VC.seq (VC.text ?_)); refine VO.c (.assign rfl) (VO.go ?_); refine VC.ret ?_; exact VEnd.one rfl evT (pvE (by refine (Bool.eq_false_iff.2 fun h => ?_).symm; obtain ⟨j, hj, he⟩ := List.mem_iff_getElem.1 (List.contains_iff_mem.1 h); exact hq j hj (by omega) he))
end Go.Proofs
namespace Go.Fs
variable {P : Program} {orc : FuncId → List Value → Heap → Option (Value × Heap)} {τ : Ty}
end Go.Fs
namespace Go.Proofs
open Go.Fs
set_option maxHeartbeats 1000000
end Go.Proofs
namespace Go.Proofs
open Go.Fs
set_option maxHeartbeats 1000000
end Go.Proofs
namespace Go.Fs
variable {P : Program} {fl : VL} {σ γ : Sto} {Q : PV → Sto → Prop} {fn : Func} {τ : Ty}
end Go.Fs
namespace Go.Proofs
open Go.Fs
set_option maxHeartbeats 1000000
theorem cTime_ok {n : Int} : VF Tryz.prog OA 104 [I n] (I (rangeE n 0 100000)) := by
  refine VF.enter Tryz.func104 rfl (fun _ _ => rfl) rfl ?_; show VC _ _ _ _ _ [(0, I n)] [] _; refine VC.seq (VC.text ?_); refine VO.c (.assign rfl) ?_; refine VO.go (VC.seq (VC.text ?_)); refine VO.c (.move rfl) ?_; refine VO.call rfl rfl (VF.call (cWithin_ok )) ?_; refine VO.c (.assign rfl) (VO.go ?_); refine VC.ret ?_; exact VEnd.one rfl evT (pvI (by rfl))
theorem rTime_ok {n : Int} : VF Tryz.prog OA 30 [I n] (I (rangeE n 0 100000)) := by
  refine VF.enter Tryz.func30 rfl (fun _ _ => rfl) rfl ?_; show VC _ _ _ _ _ [(0, I n)] [] _; refine VC.seq (VC.text ?_); refine VO.c (.assign rfl) ?_; refine VO.go (VC.seq (VC.text ?_)); refine VO.c (.move rfl) ?_; refine VO.call rfl rfl (VF.call (rCheckRange_ok )) ?_; refine VO.c (.assign rfl) (VO.go ?_); refine VC.ret ?_; exact VEnd.one rfl evT (pvI (by rfl))
end Go.Proofs
namespace Go.Fs
variable {P : Program} {orc : FuncId → List Value → Heap → Option (Value × Heap)} {rnd : Option Nat} {h h' h0 h1 h2 : Heap} {S S' S0 B G : List Nat} {σ σ' : Sto} {t t' : Tr} {ms : List Nat} {fl : VL} {ops : Array Oper} {n : Nat} {l : List Oper} {K : VL → Sto → Prop} {Q : Ex → VL → Sto → Prop}
  {d : Tmp} {ty : TypeId} {pos : String} {after : Array Edge} {op : Op} {v : PV} {g : Option (Nat × Bool)}
theorem GT.ptr (hG : GT h S) {v : GVar} (hv : v ∈ gTab) (ht : (P.globals[v.n]?).map (·.type) = some v.e) : gptr P h v.n = .pointer (some ⟨v.n + 1, 0, none⟩) ∧ RepP h S v.τ (.pointer (some ⟨v.n + 1, 0, none⟩)) v.x := by
  obtain ⟨vs, h1, h2, h3, h4⟩ := hG v hv; obtain ⟨gl, h5, h6⟩ := Option.map_eq_some_iff.1 ht; refine ⟨?_, v.n + 1, 0, v.e, vs, false, true, rfl, h2, h1, by omega, ?_⟩
  · unfold gptr; rw [h1, h5]; simp only [h6, Nat.beq_refl, cond_true]
  rw [List.drop_zero, ← h3, List.take_length]; exact h4 h S
theorem step_ldG {m : Nat} {T : TypeId} {k : Nat} {u : Value} (hl : fsLoad P T (gptr P h k) h = some u) (o : Oper) (ho : o.op = .load T (.global k)) : stepM P orc m o (evalO t) h = some (u, h) := by
  obtain ⟨dst, op, ty, pos, after, gd⟩ := o; subst ho; unfold stepM fsOpM; rw [show fsOp P (callOf P orc (fsCode P orc m)) (fsYield (fsCode P orc m)) ⟨dst, .load T (.global k), ty, pos, after, gd⟩ (evalO t) h = none from rfl]; show (bif true then (fsLoad P T (gptr P h k) h).map (fun v => (v, h)) else none) = _; rw [hl]; rfl
theorem VO.ldG {T : TypeId} {k : Nat} {e : TypeId} {τ : Ty} {x : τ.den} (hv : (⟨k, e, τ, x⟩ : GVar) ∈ gTab) (hT : ValT P T τ) (hk : VO P orc ops n l ((d, .v τ x) :: fl) σ K) (ht : (P.globals[k]?).map (·.type) = some e := by kernel_rfl) (hw : wantV ops fl g = some true := by rfl) (hn : (Nat.blt d n && Nat.ble n 4000) = true := by rfl) :
    VO P orc ops n (⟨some d, .load T (.global k), ty, pos, after, g⟩ :: l) fl σ K := fun h0 G S0 t h ms I => by
  obtain ⟨n1, n2⟩ := fits hn; obtain ⟨e1, e2⟩ := I.slots.1.ptr (P := P) hv ht; obtain ⟨e3, e4⟩ := e2.load' hT; obtain ⟨m, t2, h2, hr, hq⟩ := hk h0 G S0 _ h ms (I.set (e4 : RepPV h _ (.v τ x) _) n2); refine ⟨m, t2, h2, ?_, hq⟩; simp only [fsOps, want_ok (o := ⟨some d, .load T (.global k), ty, pos, after, g⟩) I.slots hw, step_ldG (orc := orc) (m := m) (t := t) (by rw [e1]; exact e3) ⟨some d, .load T (.global k), ty, pos, after, g⟩ rfl, put_fits n1 t]; exact hr
end Go.Fs
namespace Go.Proofs
open Go.Fs
set_option maxHeartbeats 1000000
abbrev y57 : Ty := (.sl (.pair .str (.pair (.int .i64) (.pair (.int .i64) (.pair (.int .i64) (.int .i64))))))
abbrev y59 : Ty := (.sl (.pair (.int .i64) (.int .i64)))
abbrev y62 : Ty := (.sl (.pair .str (.pair (.int .i64) (.pair (.int .i64) (.pair (.int .i64) (.int .i64))))))
abbrev y68 : Ty := (.sl (.pair (.int .i64) (.int .i64)))
abbrev y111 : Ty := (.pair (.int .i64) (.int .i64))
abbrev y113 : Ty := (.pair .str (.pair (.int .i64) (.pair (.int .i64) (.pair (.int .i64) (.int .i64)))))
abbrev y128 : Ty := (.pair (.int .i64) (.int .i64))
abbrev y168 : Ty := (.pair (.sl (.pair .str (.pair (.int .i64) (.pair (.int .i64) (.pair (.int .i64) (.int .i64)))))) (.pair (.int .i64) (.int .i64)))
abbrev y173 : Ty := (.pair .str (.pair (.int .i64) (.pair (.int .i64) (.pair (.int .i64) (.int .i64)))))
theorem vt62 : ValT Tryz.prog 62 y62 := valT_of (by kernel_rfl)
theorem vt113 : ValT Tryz.prog 113 y113 := valT_of (by kernel_rfl)
theorem vt128 : ValT Tryz.prog 128 y128 := valT_of (by kernel_rfl)
theorem vt173 : ValT Tryz.prog 173 y173 := valT_of (by kernel_rfl)
theorem el57 : ElT Tryz.prog 57 113 y113 := elT_of (by kernel_rfl)
theorem el59 : ElT Tryz.prog 59 111 y111 := elT_of (by kernel_rfl)
theorem el62 : ElT Tryz.prog 62 173 y173 := elT_of (by kernel_rfl)
theorem el68 : ElT Tryz.prog 68 128 y128 := elT_of (by kernel_rfl)
theorem zt113 : ZerT Tryz.prog 113 y113 := zerT_of (z := .agg #[.string ByteArray.empty, .int .i64 0, .int .i64 0, .int .i64 0, .int .i64 0]) (by kernel_rfl) rfl rfl
theorem zt128 : ZerT Tryz.prog 128 y128 := zerT_of (z := .agg #[.int .i64 0, .int .i64 0]) (by kernel_rfl) rfl rfl
theorem zt173 : ZerT Tryz.prog 173 y173 := zerT_of (z := .agg #[.string ByteArray.empty, .int .i64 0, .int .i64 0, .int .i64 0, .int .i64 0]) (by kernel_rfl) rfl rfl
abbrev Shp := ByteArray × Int × Int × Int × Int
def shA (l : List Shp) (i : Nat) : Shp := l.getD i (ByteArray.empty, 0, 0, 0, 0)
theorem shA_eq {l : List Shp} {i : Nat} (h : i < l.length) : shA l i = l[i] := by simp [shA, h]
def twiS (l : List Shp) (i : Nat) (s : ByteArray) : Bool := (l.take i).any fun x => decide (x.1 = s)
def shpX (x : Shp) (t : Bool) : Int := firstE [whenE (!nameB x.1) 8, whenE t 9, rangeE x.2.1 0 100000, rangeE x.2.2.1 1 1000, rangeE x.2.2.2.1 0 1, rangeE x.2.2.2.2 1 1000]
def shpE (l : List Shp) (i : Nat) : Int := shpX (shA l i) (twiS l i (shA l i).1)
def shpsE (l : List Shp) : Int := if 8 < ((l.length : Nat) : Int) then 5 else firstR (shpE l) 0 l.length
theorem shpE_x {l : List Shp} {i : Nat} (h : i < l.length) : shpE l i = shpX l[i] (twiS l i l[i].1) := by rw [shpE, shA_eq h]
theorem ships_r {l : List Shp} {i : Nat} (hl : ¬ 8 < ((l.length : Nat) : Int)) (hw : firstR (shpE l) 0 l.length = firstR (shpE l) i l.length) (hi : i < l.length) (hz : shpE l i ≠ 0) : shpsE l = shpE l i := by
  rw [shpsE, if_neg hl, hw, firstR_step hi, if_neg hz]
theorem idxG_any {α : Type} {F : α → Bool} : ∀ {l : List α} {k : Int}, 0 ≤ k → ((0 ≤ idxG F l k) ↔ l.any F = true)
  | [], k, _ => by simp [idxG]
  | x :: l, k, h => by
    unfold idxG; rw [List.any_cons]; by_cases hx : F x = true
    · rw [if_pos hx, hx]; simp [h]
    rw [if_neg hx, idxG_any (l := l) (by omega)]; simp [hx]
theorem zIndexSh_ok {F : ByteArray × Int × Int × Int × Int → Bool} {l : List (ByteArray × Int × Int × Int × Int)} {f : PV} (hl : l.length < 1000000) (hf : ∀ x ∈ l, VCall Tryz.prog OA f [.v y173 x] (B (F x))) : VF Tryz.prog OA 155 [.v y62 l, f] (I (idxG F l 0)) := by
  refine VF.enter Tryz.func155 rfl (fun _ _ => rfl) rfl ?_; show VC _ _ _ _ _ [(0, .v y62 l), (1, f)] [] _; refine VC.seq (VC.text ?_); refine VO.c (.assign rfl) ?_; refine VO.go (VC.seq (VC.seq (VC.text ?_))); refine VO.c (.move rfl) ?_; refine VO.r (.len el62) ?_; refine VO.c (.move rfl) ?_; refine VO.go (VC.block ?_); refine VC.keep [(0, .v y62 l), (1, f), (7, I ((l.length : Nat) : Int)), (8, I ((0 : Nat) : Int))] ⟨rfl, rfl, rfl, rfl, trivial⟩ ?_; refine VC.loop (I := fun kk ff ss => ∃ (j : Nat), kk = l.length - j ∧ ff = [(0, .v y62 l), (1, f), (7, I ((l.length : Nat) : Int)), (8, I ((j : Nat) : Int))] ∧ ss = [] ∧ (j ≤ l.length) ∧ (idxG F l 0 = idxG F (l.drop j) (j : Nat))) ?_ _ _ _ ⟨0, rfl, rfl, rfl, Nat.zero_le _, (by rfl)⟩; rintro kk ff ss ⟨j, hk0, rfl, rfl, hj, hi⟩; refine VC.seq (VC.text ?_); refine VO.c (.lss) ?_; refine VO.go (VC.seq ?_); refine VC.condD rfl (fun c2 => ?_) (fun c2 => ?_)
  · refine VC.skip (VC.seq (VC.block (VC.seq (VC.text ?_)))); refine VO.c (.move rfl) (VO.c (.assign rfl) ?_); refine VO.go (VC.seq (VC.text ?_)); refine VO.c (.move rfl) (VO.c (.move rfl) (VO.c (.move rfl) (VO.c (.ix (j := j) rfl rfl el62 (by omega)) ?_))); refine VO.r (.ld vt173) ?_; refine VO.call rfl rfl ((hf _ (List.getElem_mem _)) ) ?_; refine VO.go ?_; refine VC.condB rfl (fun c4 => ?_) (fun c4 => ?_)
    · refine VC.seq (VC.text ?_); refine VO.c (.move rfl) (VO.c (.assign rfl) (VO.go ?_)); refine VC.ret ?_; exact VEnd.one rfl evT (pvI (by rw [hi, idxG_drop (by omega), if_pos c4]))
    refine VC.skip (VC.text ?_); refine VO.c (.add rfl rfl (by omega)) (VO.c (.move rfl) ?_); refine VO.nil ?_; refine ⟨_, [(0, .v y62 l), (1, f), (7, I ((l.length : Nat) : Int)), (8, I (((j + 1) : Nat) : Int))], ?_, ⟨rfl, rfl, rfl, rfl, trivial⟩, (j + 1), rfl, rfl, rfl, (by omega), (by rw [hi, idxG_drop (by omega), if_neg (by rw [c4]; decide)])⟩; omega
  refine VC.exit (VC.seq (VC.text ?_)); refine VO.c (.assign rfl) (VO.go ?_); refine VC.ret ?_; exact VEnd.one rfl evT (pvI (by rw [hi, idxG_end (by omega)]))
theorem zContSh_ok {F : ByteArray × Int × Int × Int × Int → Bool} {l : List (ByteArray × Int × Int × Int × Int)} {f : PV} (hl : l.length < 1000000) (hf : ∀ x ∈ l, VCall Tryz.prog OA f [.v y173 x] (B (F x))) : VF Tryz.prog OA 126 [.v y62 l, f] (B (l.any F)) := by
  refine VF.enter Tryz.func126 rfl (fun _ _ => rfl) rfl ?_; show VC _ _ _ _ _ [(0, .v y62 l), (1, f)] [] _; refine VC.seq (VC.text ?_); refine VO.c (.assign rfl) ?_; refine VO.go (VC.seq (VC.text ?_)); refine VO.c (.move rfl) (VO.c (.move rfl) ?_); refine VO.call rfl rfl (VF.call (zIndexSh_ok (F := F) hl hf)) ?_; refine VO.c (.geq) (VO.c (.assign rfl) (VO.go ?_)); refine VC.ret ?_; exact VEnd.one rfl evT (pvE (by have h9 := idxG_any (F := F) (l := l) (k := 0) (by omega); cases h8 : l.any F <;> simp_all))
theorem cShp1_ok {o : ByteArray × Int × Int × Int × Int} {x : ByteArray × Int × Int × Int × Int} : VF Tryz.prog OA 127 [.v y173 o, .p y173 x] (B (decide (o.1 = x.1))) := by
  refine VF.enter Tryz.func127 rfl (fun _ _ => rfl) rfl ?_; show VC _ _ _ _ _ [(0, .v y173 o), (1, .p y173 x)] [] _; refine VC.seq (VC.text ?_); refine VO.new (.box) ?_; refine VO.c (.assign rfl) ?_; refine VO.go (VC.seq (VC.text ?_)); refine VO.c (.fa (.l .o)) ?_; refine VO.r (.ld vt9) ?_; refine VO.c (.fa (.l .o)) ?_; refine VO.r (.ld vt9) ?_; refine VO.c (.seql) (VO.c (.assign rfl) (VO.go ?_)); refine VC.ret ?_; exact VEnd.one rfl evT (pvE (by rfl))
theorem cShips_ok {l : List (ByteArray × Int × Int × Int × Int)} (hl : l.length < 100000) : VF Tryz.prog OA 50 [.v y62 l] (I (shpsE l)) := by
  refine VF.enter Tryz.func50 rfl (fun _ _ => rfl) rfl ?_; show VC _ _ _ _ _ [(0, .v y62 l)] [] _; refine VC.seq (VC.text ?_); refine VO.c (.assign rfl) ?_; refine VO.go (VC.seq (VC.seq (VC.text ?_))); refine VO.c (.move rfl) ?_; refine VO.r (.len el62) ?_; refine VO.c (.gtr) (VO.go ?_); refine VC.condD rfl (fun c1 => ?_) (fun c1 => ?_)
  · refine VC.seq (VC.text ?_); refine VO.c (.assign rfl) (VO.go ?_); refine VC.ret ?_; exact VEnd.one rfl evT (pvI (by rw [shpsE, if_pos c1]))
  refine VC.skip (VC.seq (VC.seq (VC.text ?_))); refine VO.c (.move rfl) ?_; refine VO.r (.len el62) ?_; refine VO.c (.move rfl) ?_; refine VO.go (VC.block ?_); refine VC.keep [(0, .v y62 l), (10, .v y62 l), (11, I ((l.length : Nat) : Int)), (12, I ((0 : Nat) : Int))] ⟨rfl, rfl, rfl, rfl, trivial⟩ ?_; refine VC.loop (I := fun kk ff ss => ∃ (i : Nat), kk = l.length - i ∧ ff = [(0, .v y62 l), (10, .v y62 l), (11, I ((l.length : Nat) : Int)), (12, I ((i : Nat) : Int))] ∧ ss = [] ∧ (i ≤ l.length) ∧ (firstR (shpE l) 0 l.length = firstR (shpE l) i l.length)) ?_ _ _ _ ⟨0, rfl, rfl, rfl, Nat.zero_le _, (by rfl)⟩; rintro kk ff ss ⟨i, hk0, rfl, rfl, hi, hw⟩; refine VC.seq (VC.text ?_); refine VO.c (.lss) ?_; refine VO.go (VC.seq ?_); refine VC.condD rfl (fun c4 => ?_) (fun c4 => ?_)
  · have hlt : i < l.length := by omega
    have hx : shpE l i = shpX l[i] ((l.take ((i : Nat) : Int).toNat).any fun o => decide (o.1 = (shA l i).1)) := by rw [shpE, shA_eq hlt] <;> rfl
    refine VC.skip (VC.seq (VC.block (VC.seq (VC.text ?_)))); refine VO.c (.move rfl) (VO.c (.ix (j := i) rfl rfl el62 (by omega)) ?_); refine VO.r (.ld vt173) ?_; refine VO.cell (.alloc zt173) ?_; intro ww1; refine VO.c (.assign rfl) ?_; refine VO.setV (cs' := [St ((l[i]).1), I ((l[i]).2.1), I ((l[i]).2.2.1), I ((l[i]).2.2.2.1), I ((l[i]).2.2.2.2)]) vt173 .v ?_; refine VO.shut [(4, .p y173 (l[i]))] (.cons rfl (.var m0 .refl) .nil) ?_; refine VO.go (VC.seq (VC.text ?_)); refine VO.c (.move rfl) (VO.c (.move rfl) ?_); refine VO.r (.cutH rfl rfl el62 (by omega)) ?_; refine VO.c (.func) ?_; refine VO.call rfl rfl (VF.call (zContSh_ok (F := fun o => decide (o.1 = (shA l i).1)) (by rw [List.length_take]; omega) (fun o _ => by rw [shA_eq hlt]; exact VF.clo cShp1_ok))) ?_; refine VO.c (.assign rfl) ?_; refine VO.go (VC.seq (VC.drawn ?_)); refine VD.c (.fa (.l .o)) ?_; refine VD.r [] (.ld vt9) (.inl rfl) ?_; refine VD.call rfl rfl (VF.call (gName_ok )) ?_; refine VD.c (.not) ?_; refine VD.call rfl rfl (VF.call (cWhen_ok )) ?_; refine VD.c (.move rfl) (VD.nw [] ?_); refine VD.call rfl rfl (VF.call (cWhen_ok )) ?_; refine VD.c (.fa (.r (.l .o))) ?_; refine VD.r [] (.ld vt3) (.inl rfl) ?_; refine VD.call rfl rfl (VF.call (cWithin_ok )) ?_; refine VD.c (.fa (.r (.r (.l .o)))) ?_; refine VD.r [] (.ld vt3) (.inl rfl) ?_; refine VD.call rfl rfl (VF.call (cWithin_ok )) ?_; refine VD.nw [] (VD.c (.fa (.r (.r (.r (.l .o))))) ?_); refine VD.r [] (.ld vt3) (.inl rfl) ?_; refine VD.call rfl rfl (VF.call (cWithin_ok )) ?_; refine VD.c (.fa (.r (.r (.r (.r .o))))) ?_; refine VD.r [] (.ld vt3) (.inl rfl) ?_; refine VD.call rfl rfl (VF.call (cWithin_ok )) ?_; refine VD.new (.lit [whenE (!(nameB ((l[i]).1))) (8 : Int), whenE ((l.take (((i : Nat) : Int)).toNat).any (fun o => decide (o.1 = (shA l i).1))) (9 : Int), rangeE ((l[i]).2.1) (0 : Int) (100000 : Int), rangeE ((l[i]).2.2.1) (1 : Int) (1000 : Int), rangeE ((l[i]).2.2.2.1) (0 : Int) (1 : Int), rangeE ((l[i]).2.2.2.2) (1 : Int) (1000 : Int)] el154) ?_; refine VD.nw [41] ?_; refine VD.callO rfl rfl (VF.call (cFirst_ok (by simp))) ?_; refine VD.c (.assign rfl) ?_; refine VD.go (VC.seq ?_); refine VC.keep [(0, .v y62 l), (6, I (firstE [whenE (!(nameB ((l[i]).1))) (8 : Int), whenE ((l.take (((i : Nat) : Int)).toNat).any (fun o => decide (o.1 = (shA l i).1))) (9 : Int), rangeE ((l[i]).2.1) (0 : Int) (100000 : Int), rangeE ((l[i]).2.2.1) (1 : Int) (1000 : Int), rangeE ((l[i]).2.2.2.1) (0 : Int) (1 : Int), rangeE ((l[i]).2.2.2.2) (1 : Int) (1000 : Int)])), (10, .v y62 l), (11, I ((l.length : Nat) : Int)), (12, I ((i : Nat) : Int))] ⟨rfl, rfl, rfl, rfl, rfl, trivial⟩ ?_; refine VC.text ?_; refine VO.c (.move rfl) (VO.c (.neq) (VO.go ?_)); refine VC.condD rfl (fun c8 => ?_) (fun c8 => ?_)
    · refine VC.seq (VC.text ?_); refine VO.c (.move rfl) (VO.c (.assign rfl) (VO.go ?_)); refine VC.ret ?_; exact VEnd.one rfl evT (pvI (by rw [ships_r c1 hw hlt (by rw [hx]; exact c8), hx] <;> rfl))
    refine VC.skip (VC.text ?_); refine VO.c (.add rfl rfl (by omega)) (VO.c (.move rfl) ?_); refine VO.nil ?_; refine ⟨_, [(0, .v y62 l), (10, .v y62 l), (11, I ((l.length : Nat) : Int)), (12, I (((i + 1) : Nat) : Int))], ?_, ⟨rfl, rfl, rfl, rfl, trivial⟩, (i + 1), rfl, rfl, rfl, (by omega), (by rw [hw, firstR_step hlt, if_pos (by rw [hx]; exact Classical.not_not.1 c8)])⟩; omega
  refine VC.exit (VC.seq (VC.text ?_)); refine VO.c (.assign rfl) (VO.go ?_); refine VC.ret ?_; exact VEnd.one rfl evT (pvI (by rw [shpsE, if_neg c1, hw, firstR_end (by omega)]))
theorem twiS_f {l : List Shp} {i k : Nat} (hk : k < i) (hi : i < l.length) (h : (l[k]'(by omega)).1 = l[i].1) : twiS l i l[i].1 = true := List.any_eq_true.2 ⟨l[k]'(by omega), List.mem_iff_getElem.2 ⟨k, by rw [List.length_take]; omega, by rw [List.getElem_take]⟩, decide_eq_true h⟩
theorem twiS_n {l : List Shp} {i : Nat} (hi : i < l.length) (h : ∀ k (hk : k < l.length), k < i → l[k].1 ≠ l[i].1) : twiS l i l[i].1 = false := by
  cases hb : twiS l i l[i].1 with
  | false => rfl
  | true =>
    obtain ⟨x, hx, he⟩ := List.any_eq_true.1 hb; obtain ⟨k, hk, rfl⟩ := List.mem_iff_getElem.1 hx; rw [List.length_take] at hk; rw [List.getElem_take] at he; exact absurd (of_decide_eq_true he) (h k (by omega) (by omega))
theorem shp_1 {x : Shp} {t : Bool} (h : whenE (!nameB x.1) 8 ≠ 0) : shpX x t = whenE (!nameB x.1) 8 := if_neg h
theorem shp_2 {x : Shp} (h : whenE (!nameB x.1) 8 = 0) : shpX x true = 9 := (if_pos h).trans (if_neg (by decide))
theorem shp_3 {x : Shp} (h : whenE (!nameB x.1) 8 = 0) : shpX x false = firstE [rangeE x.2.1 0 100000, rangeE x.2.2.1 1 1000, rangeE x.2.2.2.1 0 1, rangeE x.2.2.2.2 1 1000] := (if_pos h).trans (if_pos rfl)
theorem rShips_ok {l : List (ByteArray × Int × Int × Int × Int)} (hl : l.length < 100000) : VF Tryz.prog OA 45 [.v y57 l] (I (shpsE l)) := by
  refine VF.enter Tryz.func45 rfl (fun _ _ => rfl) rfl ?_; show VC _ _ _ _ _ [(0, .v y57 l)] [] _; refine VC.seq (VC.text ?_); refine VO.c (.assign rfl) ?_; refine VO.go (VC.seq (VC.seq (VC.text ?_))); refine VO.c (.move rfl) ?_; refine VO.r (.len el57) ?_; refine VO.c (.gtr) (VO.go ?_); refine VC.condD rfl (fun c1 => ?_) (fun c1 => ?_)
  · refine VC.seq (VC.text ?_); refine VO.c (.assign rfl) (VO.go ?_); refine VC.ret ?_; exact VEnd.one rfl evT (pvI (by rw [shpsE, if_pos c1]))
  refine VC.skip (VC.seq (VC.seq (VC.text ?_))); refine VO.c (.assign rfl) ?_; refine VO.go (VC.block ?_); refine VC.keep [(0, .v y57 l), (3, I ((0 : Nat) : Int))] ⟨rfl, rfl, trivial⟩ ?_; refine VC.loop (I := fun kk ff ss => ∃ (i : Nat), kk = l.length - i ∧ ff = [(0, .v y57 l), (3, I ((i : Nat) : Int))] ∧ ss = [] ∧ (i ≤ l.length) ∧ (firstR (shpE l) 0 l.length = firstR (shpE l) i l.length)) ?_ _ _ _ ⟨0, rfl, rfl, rfl, Nat.zero_le _, (by rfl)⟩; rintro kk ff ss ⟨i, hk0, rfl, rfl, hi, hw⟩; refine VC.seq (VC.seq (VC.text ?_)); refine VO.c (.move rfl) (VO.c (.move rfl) ?_); refine VO.r (.len el57) ?_; refine VO.c (.lss) (VO.go ?_); refine VC.condD rfl (fun c4 => ?_) (fun c4 => ?_)
  · have hlt : i < l.length := by omega
    have hx := shpE_x hlt; refine VC.skip (VC.seq (VC.block (VC.seq (VC.text ?_)))); refine VO.c (.move rfl) (VO.c (.move rfl) (VO.c (.ix (j := i) rfl rfl el57 (by omega)) ?_)); refine VO.r (.ld vt113) ?_; refine VO.cell (.alloc zt113) ?_; intro ww2; refine VO.setV (cs' := [St ((l[i]).1), I ((l[i]).2.1), I ((l[i]).2.2.1), I ((l[i]).2.2.2.1), I ((l[i]).2.2.2.2)]) vt113 .v ?_; refine VO.shut [(4, .p y113 (l[i]))] (.cons rfl (.var m0 .refl) .nil) ?_; refine VO.go (VC.seq (VC.seq (VC.text ?_))); refine VO.c (.fa (.l .o)) ?_; refine VO.r (.ld vt9) ?_; refine VO.call rfl rfl (VF.call (rNameE_ok )) ?_; refine VO.c (.assign rfl) ?_; refine VO.go (VC.seq (VC.text ?_)); refine VO.c (.move rfl) (VO.c (.neq) (VO.go ?_)); refine VC.condD rfl (fun c8 => ?_) (fun c8 => ?_)
    · refine VC.seq (VC.text ?_); refine VO.c (.move rfl) (VO.c (.assign rfl) (VO.go ?_)); refine VC.ret ?_; exact VEnd.one rfl evT (pvI (by rw [ships_r c1 hw hlt (by rw [hx, shp_1 c8]; exact c8), hx, shp_1 c8]))
    have hn := Classical.not_not.1 c8; refine VC.skip (VC.seq (VC.seq (VC.text ?_))); refine VO.c (.assign rfl) ?_; refine VO.go (VC.block ?_); refine VC.keep [(0, .v y57 l), (3, I ((i : Nat) : Int)), (4, .p y113 (l[i])), (6, I ((0 : Nat) : Int))] ⟨rfl, rfl, rfl, rfl, trivial⟩ ?_; refine VC.loop (I := fun kk ff ss => ∃ (k : Nat), kk = i - k ∧ ff = [(0, .v y57 l), (3, I ((i : Nat) : Int)), (4, .p y113 (l[i])), (6, I ((k : Nat) : Int))] ∧ ss = [] ∧ (k ≤ i) ∧ (∀ j (hj : j < l.length), j < k → l[j].1 ≠ l[i].1)) ?_ _ _ _ ⟨0, rfl, rfl, rfl, Nat.zero_le _, (by intro j hj h; omega)⟩; rintro kk ff ss ⟨k, hk2, rfl, rfl, hk, hq⟩; refine VC.seq (VC.seq (VC.text ?_)); refine VO.c (.move rfl) (VO.c (.move rfl) (VO.c (.lss) (VO.go ?_))); refine VC.condD rfl (fun c11 => ?_) (fun c11 => ?_)
    · refine VC.skip (VC.seq (VC.block (VC.seq (VC.drawn ?_)))); refine VD.c (.move rfl) (VD.c (.move rfl) (VD.c (.ix (j := k) rfl rfl el57 (by omega)) (VD.c (.fa (.l .o)) ?_))); refine VD.r [] (.ld vt9) (.inl rfl) ?_; refine VD.c (.fa (.l .o)) (VD.nw [] ?_); refine VD.r [] (.ld vt9) (.inl rfl) ?_; refine VD.c (.seql) (VD.go ?_); refine VC.condD rfl (fun c13 => ?_) (fun c13 => ?_)
      · have h9 : shpX l[i] (twiS l i l[i].1) = 9 := by rw [twiS_f (show k < i by omega) hlt c13]; exact shp_2 hn
        refine VC.seq (VC.text ?_); refine VO.c (.assign rfl) (VO.go ?_); refine VC.ret ?_; exact VEnd.one rfl evT (pvI (by rw [ships_r c1 hw hlt (by rw [hx, h9]; decide), hx, h9]))
      refine VC.skip (VC.text ?_); refine VO.c (.move rfl) (VO.c (.add rfl rfl (by omega)) (VO.c (.assign rfl) ?_)); refine VO.nil ?_; refine ⟨_, [(0, .v y57 l), (3, I ((i : Nat) : Int)), (4, .p y113 (l[i])), (6, I (((k + 1) : Nat) : Int))], ?_, ⟨rfl, rfl, rfl, rfl, trivial⟩, (k + 1), rfl, rfl, rfl, (by omega), (by intro j hj h; rcases Nat.lt_succ_iff_lt_or_eq.1 h with h | h; exact hq j hj h; subst h; exact c13)⟩; omega
    have h8 : shpX l[i] (twiS l i l[i].1) = firstE [rangeE l[i].2.1 0 100000, rangeE l[i].2.2.1 1 1000, rangeE l[i].2.2.2.1 0 1, rangeE l[i].2.2.2.2 1 1000] := by rw [twiS_n hlt fun j hj h => hq j hj (by omega)]; exact shp_3 hn
    refine VC.exit (VC.seq (VC.drawn ?_)); refine VD.c (.fa (.r (.l .o))) ?_; refine VD.r [] (.ld vt3) (.inl rfl) ?_; refine VD.call rfl rfl (VF.call (rTime_ok )) ?_; refine VD.c (.fa (.r (.r (.l .o)))) ?_; refine VD.r [] (.ld vt3) (.inl rfl) ?_; refine VD.call rfl rfl (VF.call (rCheckRange_ok )) ?_; refine VD.nw [] (VD.c (.fa (.r (.r (.r (.l .o))))) ?_); refine VD.r [] (.ld vt3) (.inl rfl) ?_; refine VD.call rfl rfl (VF.call (rCheckRange_ok )) ?_; refine VD.c (.fa (.r (.r (.r (.r .o))))) ?_; refine VD.r [] (.ld vt3) (.inl rfl) ?_; refine VD.call rfl rfl (VF.call (rCheckRange_ok )) ?_; refine VD.new (.lit [rangeE ((l[i]).2.1) 0 100000, rangeE ((l[i]).2.2.1) (1 : Int) (1000 : Int), rangeE ((l[i]).2.2.2.1) (0 : Int) (1 : Int), rangeE ((l[i]).2.2.2.2) (1 : Int) (1000 : Int)] el25) ?_; refine VD.nw [52] ?_; refine VD.callO rfl rfl (VF.call (rFirst_ok (by simp))) ?_; refine VD.c (.assign rfl) ?_; refine VD.go (VC.seq (VC.text ?_)); refine VO.c (.move rfl) (VO.c (.neq) (VO.go ?_)); refine VC.condD rfl (fun c16 => ?_) (fun c16 => ?_)
    · refine VC.seq (VC.text ?_); refine VO.c (.move rfl) (VO.c (.assign rfl) (VO.go ?_)); refine VC.ret ?_; exact VEnd.one rfl evT (pvI (by rw [ships_r c1 hw hlt (by rw [hx, h8]; exact c16), hx, h8]))
    refine VC.skip (VC.text ?_); refine VO.c (.move rfl) (VO.c (.add rfl rfl (by omega)) (VO.c (.assign rfl) ?_)); refine VO.nil ?_; refine ⟨_, [(0, .v y57 l), (3, I (((i + 1) : Nat) : Int))], ?_, ⟨rfl, rfl, trivial⟩, (i + 1), rfl, rfl, rfl, (by omega), (by rw [hw, firstR_step hlt, if_pos (by rw [hx, h8]; exact Classical.not_not.1 c16)])⟩; omega
  refine VC.exit (VC.seq (VC.text ?_)); refine VO.c (.assign rfl) (VO.go ?_); refine VC.ret ?_; exact VEnd.one rfl evT (pvI (by rw [shpsE, if_neg c1, hw, firstR_end (by omega)]))
def lockE (l : List Shp) (turn clear : Int) : Int := firstE [shpsE l, rangeE turn 0 1000, rangeE clear 0 100000]
theorem cLockC_ok {x : (List (ByteArray × Int × Int × Int × Int)) × Int × Int} (hl : x.1.length < 100000) : VF Tryz.prog OA 117 [.v y168 x] (I (lockE x.1 x.2.1 x.2.2)) := by
  refine VF.enter Tryz.func117 rfl (fun _ _ => rfl) rfl ?_; show VC _ _ _ _ _ [(0, .v y168 x)] [] _; refine VC.seq (VC.text ?_); refine VO.new (.box) ?_; refine VO.c (.assign rfl) ?_; refine VO.go (VC.seq (VC.drawn ?_)); refine VD.c (.fa (.l .o)) ?_; refine VD.r [] (.ld vt62) (.inl rfl) ?_; refine VD.call rfl rfl (VF.call (cShips_ok hl)) ?_; refine VD.c (.fa (.r (.l .o))) ?_; refine VD.r [] (.ld vt3) (.inl rfl) ?_; refine VD.call rfl rfl (VF.call (cWithin_ok )) ?_; refine VD.nw [] (VD.c (.fa (.r (.r .o))) ?_); refine VD.r [] (.ld vt3) (.inl rfl) ?_; refine VD.call rfl rfl (VF.call (cTime_ok )) ?_; refine VD.new (.lit [shpsE x.1, rangeE x.2.1 (0 : Int) (1000 : Int), rangeE x.2.2 0 100000] el154) ?_; refine VD.callO rfl rfl (VF.call (cFirst_ok (by simp))) ?_; refine VD.c (.assign rfl) (VD.go ?_); refine VC.ret ?_; exact VEnd.one rfl evT (pvI (by rfl))
theorem rTurn_ok {turn : Int} {clear : Int} : VF Tryz.prog OA 46 [I turn, I clear] (I (firstE [rangeE turn 0 1000, rangeE clear 0 100000])) := by
  refine VF.enter Tryz.func46 rfl (fun _ _ => rfl) rfl ?_; show VC _ _ _ _ _ [(0, I turn), (1, I clear)] [] _; refine VC.seq (VC.text ?_); refine VO.c (.assign rfl) ?_; refine VO.go (VC.seq (VC.text ?_)); refine VO.c (.move rfl) ?_; refine VO.call rfl rfl (VF.call (rCheckRange_ok )) ?_; refine VO.c (.move rfl) ?_; refine VO.call rfl rfl (VF.call (rTime_ok )) ?_; refine VO.new (.lit [rangeE turn (0 : Int) (1000 : Int), rangeE clear 0 100000] el25) ?_; refine VO.call rfl rfl (VF.call (rFirst_ok (by simp))) ?_; refine VO.c (.assign rfl) (VO.go ?_); refine VC.ret ?_; exact VEnd.one rfl evT (pvI (by rfl))
def shortS (l : List Shp) : Bool := decide ((∀ x ∈ l, x.1.size ≤ 40) ∧ (l.length ≤ 5 ∨ l.length = 9))
theorem shortS_f {l : List Shp} {i : Nat} (hi : i < l.length) (h : (40 : Int) < ((l[i].1.size : Nat) : Int)) : false = shortS l := (decide_eq_false fun hh => by have := hh.1 _ (List.getElem_mem hi); omega).symm
theorem rShortS_ok {l : List (ByteArray × Int × Int × Int × Int)} (hl : l.length ≤ 9223372036854775807) : VF Tryz.prog OA 40 [.v y57 l] (B (shortS l)) := by
  refine VF.enter Tryz.func40 rfl (fun _ _ => rfl) rfl ?_; show VC _ _ _ _ _ [(0, .v y57 l)] [] _; refine VC.seq (VC.text ?_); refine VO.c (.assign rfl) ?_; refine VO.go (VC.seq (VC.seq (VC.text ?_))); refine VO.c (.assign rfl) ?_; refine VO.go (VC.block ?_); refine VC.keep [(0, .v y57 l), (3, I ((0 : Nat) : Int))] ⟨rfl, rfl, trivial⟩ ?_; refine VC.loop (I := fun kk ff ss => ∃ (i : Nat), kk = l.length - i ∧ ff = [(0, .v y57 l), (3, I ((i : Nat) : Int))] ∧ ss = [] ∧ (i ≤ l.length) ∧ (∀ j (hj : j < l.length), j < i → l[j].1.size ≤ 40)) ?_ _ _ _ ⟨0, rfl, rfl, rfl, Nat.zero_le _, (by intro j hj h; omega)⟩; rintro kk ff ss ⟨i, hk0, rfl, rfl, hi, hn⟩; refine VC.seq (VC.seq (VC.text ?_)); refine VO.c (.move rfl) (VO.c (.move rfl) ?_); refine VO.r (.len el57) ?_; refine VO.c (.lss) (VO.go ?_); refine VC.condD rfl (fun c2 => ?_) (fun c2 => ?_)
  · refine VC.skip (VC.seq (VC.block (VC.seq (VC.text ?_)))); refine VO.c (.move rfl) (VO.c (.move rfl) (VO.c (.ix (j := i) rfl rfl el57 (by omega)) (VO.c (.fa (.l .o)) ?_))); refine VO.r (.ld vt9) ?_; refine VO.r (.lenS) ?_; refine VO.c (.gtr) (VO.go ?_); refine VC.condD rfl (fun c4 => ?_) (fun c4 => ?_)
    · refine VC.seq (VC.text ?_); refine VO.c (.assign rfl) (VO.go ?_); refine VC.ret ?_; exact VEnd.one rfl evT (pvE (by exact shortS_f (by omega) c4))
    refine VC.skip (VC.text ?_); refine VO.c (.move rfl) (VO.c (.add rfl rfl (by omega)) (VO.c (.assign rfl) ?_)); refine VO.nil ?_; refine ⟨_, [(0, .v y57 l), (3, I (((i + 1) : Nat) : Int))], ?_, ⟨rfl, rfl, trivial⟩, (i + 1), rfl, rfl, rfl, (by omega), (by intro j hj h; rcases Nat.lt_succ_iff_lt_or_eq.1 h with h | h; exact hn j hj h; subst h; omega)⟩; omega
  refine VC.exit (VC.seq (VC.text ?_)); refine VO.c (.move rfl) ?_; refine VO.r (.len el57) ?_; refine VO.c (.leq) (VO.c (.move rfl) ?_); refine VO.cg (r := decide (((l.length : Nat) : Int) ≤ (5 : Int))) (w := false) [] trivial (fun _ => (.move rfl)) ?_; refine VO.rg (r := decide (((l.length : Nat) : Int) ≤ (5 : Int))) (w := false) [(21, .v y57 l)] ⟨rfl, trivial⟩ (fun _ => (.len el57)) ?_; refine VO.cg (r := decide (((l.length : Nat) : Int) ≤ (5 : Int))) (w := false) [(22, I ((l.length : Nat) : Int))] ⟨rfl, trivial⟩ (fun _ => (.eql)) ?_; refine VO.c (.or) (VO.c (.assign rfl) (VO.go ?_)); refine VC.ret ?_; exact VEnd.one rfl evT (pvE (by rw [shortS, ← Bool.decide_or]; refine decide_eq_decide.2 ⟨fun hh => ⟨fun x hx => ?_, by omega⟩, fun hh => by omega⟩; obtain ⟨j, hj, rfl⟩ := List.getElem_of_mem hx; exact hn j hj (by omega)))
theorem lShips_ok {l : List (ByteArray × Int × Int × Int × Int)} (hl : l.length < 100000) : VF Tryz.prog OA 42 [.v y57 l] (.v y62 l) := by
  refine VF.enter Tryz.func42 rfl (fun _ _ => rfl) rfl ?_; show VC _ _ _ _ _ [(0, .v y57 l)] [] _; refine VC.seq (VC.text ?_); refine VO.c (.assign rfl) ?_; refine VO.go (VC.seq (VC.text ?_)); refine VO.c (.assign rfl) ?_; refine VO.go (VC.seq (VC.seq (VC.text ?_))); refine VO.c (.move rfl) ?_; refine VO.r (.len el57) ?_; refine VO.c (.move rfl) ?_; refine VO.go (VC.block ?_); refine VC.cell0 173 y173 ?_; refine VC.keep [(3, .raw (.slice none 0 0)), (6, .v y57 l), (7, I ((l.length : Nat) : Int)), (8, I ((0 : Nat) : Int))] ⟨rfl, rfl, rfl, rfl, trivial⟩ ?_; refine VC.loop (I := fun kk ff ss => ∃ (i : Nat) (w : Value), kk = l.length - i ∧ ff = [(3, .raw w), (6, .v y57 l), (7, I ((l.length : Nat) : Int)), (8, I ((i : Nat) : Int))] ∧ ss = [(w, .row 173 y173 (l.take i))] ∧ (i ≤ l.length)) ?_ _ _ _ ⟨0, (.slice none 0 0), rfl, rfl, rfl, Nat.zero_le _⟩; rintro kk ff ss ⟨i, w, hk0, rfl, rfl, hi⟩; refine VC.seq (VC.text ?_); refine VO.c (.lss) ?_; refine VO.go (VC.seq ?_); refine VC.condD rfl (fun c3 => ?_) (fun c3 => ?_)
  · refine VC.skip (VC.seq (VC.block (VC.seq (VC.text ?_)))); refine VO.c (.ix (j := i) rfl rfl el57 (by omega)) ?_; refine VO.r (.ld vt113) ?_; refine VO.cell (.alloc zt113) ?_; intro ww3; refine VO.setV (cs' := [St ((l[i]).1), I ((l[i]).2.1), I ((l[i]).2.2.1), I ((l[i]).2.2.2.1), I ((l[i]).2.2.2.2)]) vt113 .v ?_; refine VO.shut [(5, .p y113 (l[i]))] (.cons rfl (.var m0 .refl) .nil) ?_; refine VO.go (VC.text ?_); refine VO.c (.move rfl) ?_; refine VO.r (.ld vt113) ?_; refine VO.new (.lit [l[i]] el62) ?_; refine VO.app rfl rfl el62 el62 (by simp; omega) ?_; intro ww4; refine VO.c (.assign rfl) ?_; refine VO.nil (VC.text ?_); refine VO.c (.add rfl rfl (by omega)) (VO.c (.move rfl) ?_); refine VO.nil ?_; refine ⟨_, [(3, .raw ww4), (6, .v y57 l), (7, I ((l.length : Nat) : Int)), (8, I (((i + 1) : Nat) : Int))], ?_, ⟨rfl, rfl, rfl, rfl, trivial⟩, (i + 1), ww4, rfl, rfl, (by rw [List.take_succ_eq_append_getElem (by omega)]), (by omega)⟩; omega
  refine VC.exit (VC.seq (VC.text ?_)); refine VO.c (.move rfl) (VO.c (.assign rfl) (VO.go ?_)); refine VC.ret ?_; exact VEnd.one rfl (evC (.row m0)) (pvE (by rw [List.take_of_length_le (by omega)]))
theorem lPass_ok {l : List (Int × Int)} (hl : l.length < 100000) : VF Tryz.prog OA 65 [.v y68 l] (.v y59 l) := by
  refine VF.enter Tryz.func65 rfl (fun _ _ => rfl) rfl ?_; show VC _ _ _ _ _ [(0, .v y68 l)] [] _; refine VC.seq (VC.text ?_); refine VO.c (.assign rfl) ?_; refine VO.go (VC.seq (VC.text ?_)); refine VO.c (.assign rfl) ?_; refine VO.go (VC.seq (VC.seq (VC.text ?_))); refine VO.c (.move rfl) ?_; refine VO.r (.len el68) ?_; refine VO.c (.move rfl) ?_; refine VO.go (VC.block ?_); refine VC.cell0 111 y111 ?_; refine VC.keep [(3, .raw (.slice none 0 0)), (6, .v y68 l), (7, I ((l.length : Nat) : Int)), (8, I ((0 : Nat) : Int))] ⟨rfl, rfl, rfl, rfl, trivial⟩ ?_; refine VC.loop (I := fun kk ff ss => ∃ (i : Nat) (w : Value), kk = l.length - i ∧ ff = [(3, .raw w), (6, .v y68 l), (7, I ((l.length : Nat) : Int)), (8, I ((i : Nat) : Int))] ∧ ss = [(w, .row 111 y111 (l.take i))] ∧ (i ≤ l.length)) ?_ _ _ _ ⟨0, (.slice none 0 0), rfl, rfl, rfl, Nat.zero_le _⟩; rintro kk ff ss ⟨i, w, hk0, rfl, rfl, hi⟩; refine VC.seq (VC.text ?_); refine VO.c (.lss) ?_; refine VO.go (VC.seq ?_); refine VC.condD rfl (fun c3 => ?_) (fun c3 => ?_)
  · refine VC.skip (VC.seq (VC.block (VC.seq (VC.text ?_)))); refine VO.c (.ix (j := i) rfl rfl el68 (by omega)) ?_; refine VO.r (.ld vt128) ?_; refine VO.cell (.alloc zt128) ?_; intro ww5; refine VO.setV (cs' := [I ((l[i]).1), I ((l[i]).2)]) vt128 .v ?_; refine VO.shut [(5, .p y128 (l[i]))] (.cons rfl (.var m0 .refl) .nil) ?_; refine VO.go (VC.text ?_); refine VO.c (.move rfl) ?_; refine VO.r (.ld vt128) ?_; refine VO.new (.lit [l[i]] el59) ?_; refine VO.app rfl rfl el59 el59 (by simp; omega) ?_; intro ww6; refine VO.c (.assign rfl) ?_; refine VO.nil (VC.text ?_); refine VO.c (.add rfl rfl (by omega)) (VO.c (.move rfl) ?_); refine VO.nil ?_; refine ⟨_, [(3, .raw ww6), (6, .v y68 l), (7, I ((l.length : Nat) : Int)), (8, I (((i + 1) : Nat) : Int))], ?_, ⟨rfl, rfl, rfl, rfl, trivial⟩, (i + 1), ww6, rfl, rfl, (by rw [List.take_succ_eq_append_getElem (by omega)]), (by omega)⟩; omega
  refine VC.exit (VC.seq (VC.text ?_)); refine VO.c (.move rfl) (VO.c (.assign rfl) (VO.go ?_)); refine VC.ret ?_; exact VEnd.one rfl (evC (.row m0)) (pvE (by rw [List.take_of_length_le (by omega)]))
end Go.Proofs
namespace Go.Proofs
open Go.Fs
set_option maxHeartbeats 1000000
abbrev y49 : Ty := (.pair (.int .i64) (.int .i64))
theorem vt49 : ValT Tryz.prog 49 y49 := valT_of (by kernel_rfl)
theorem vt111 : ValT Tryz.prog 111 y111 := valT_of (by kernel_rfl)
theorem vt168 : ValT Tryz.prog 168 y168 := valT_of (by kernel_rfl)
theorem zt49 : ZerT Tryz.prog 49 y49 := zerT_of (z := .agg #[.int .i64 0, .int .i64 0]) (by kernel_rfl) rfl rfl
theorem zt111 : ZerT Tryz.prog 111 y111 := zerT_of (z := .agg #[.int .i64 0, .int .i64 0]) (by kernel_rfl) rfl rfl
theorem zt168 : ZerT Tryz.prog 168 y168 := zerT_of (z := .agg #[.slice none 0 0, .int .i64 0, .int .i64 0]) (by kernel_rfl) rfl rfl
theorem bt49 : BldT Tryz.prog 49 y49 [(0, 1), (1, 1)] := bldT_of zt49 rfl (by kernel_rfl)
theorem bt168 : BldT Tryz.prog 168 y168 [(0, 1), (1, 1), (2, 1)] := bldT_of zt168 rfl (by kernel_rfl)
theorem eq111 : EqT Tryz.prog 111 y111 := eqT_of (by kernel_rfl)
structure ShpOk (l : List Shp) : Prop where
  len : l.length ≤ 8
  arr : ∀ i, 0 ≤ (shA l i).2.1 ∧ (shA l i).2.1 ≤ 100000
  lng : ∀ i, 0 ≤ (shA l i).2.2.1 ∧ (shA l i).2.2.1 ≤ 1000
  pri : ∀ i, 0 ≤ (shA l i).2.2.2.2 ∧ (shA l i).2.2.2.2 ≤ 1000
theorem ships_ok {l : List Shp} (h : shpsE l = 0) : ShpOk l := by
  unfold shpsE at h; by_cases h8 : 8 < ((l.length : Nat) : Int)
  · rw [if_pos h8] at h; cases h
  rw [if_neg h8] at h; have hz := firstR_zero.1 h
  have hall : ∀ i, (0 ≤ (shA l i).2.1 ∧ (shA l i).2.1 ≤ 100000) ∧ (0 ≤ (shA l i).2.2.1 ∧ (shA l i).2.2.1 ≤ 1000) ∧ (0 ≤ (shA l i).2.2.2.2 ∧ (shA l i).2.2.2.2 ≤ 1000) := fun i => by
    by_cases hi : i < l.length
    · have := firstE_zero.1 (hz i hi); have h1 := rangeE_zero.1 (this (rangeE (shA l i).2.1 0 100000) (by simp)); have h2 := rangeE_zero.1 (this (rangeE (shA l i).2.2.1 1 1000) (by simp)); have h3 := rangeE_zero.1 (this (rangeE (shA l i).2.2.2.2 1 1000) (by simp)); omega
    have : shA l i = (ByteArray.empty, 0, 0, 0, 0) := by simp [shA, List.getElem?_eq_none (show l.length ≤ i by omega)]
    rw [this]; simp
  exact ⟨by omega, fun i => (hall i).1, fun i => (hall i).2.1, fun i => (hall i).2.2⟩
def freeF (l : List Shp) (turn : Int) (last : Int × Int) (s : Nat) : Int :=
  if last = (-1, 0) then (shA l s).2.1 else max (last.2 + (shA l last.1.toNat).2.2.1 + (if (shA l last.1.toNat).2.2.2.1 ≠ (shA l s).2.2.2.1 then turn else 0)) (shA l s).2.1
def LastOk (l : List Shp) (last : Int × Int) : Prop := last = (-1, 0) ∨ (0 ≤ last.1 ∧ last.1 < ((l.length : Nat) : Int) ∧ 0 ≤ last.2 ∧ last.2 ≤ 100000)
theorem sides_eq {a b : Int} : [a, b] = [b, a] ↔ a = b := by
  constructor
  · intro h; exact (List.cons.inj h).1
  intro h; rw [h]
theorem free_last {l : List Shp} {last : Int × Int} (h : LastOk l last) (hn : ¬ last = (-1, 0)) : 0 ≤ last.1 ∧ last.1 < ((l.length : Nat) : Int) ∧ 0 ≤ last.2 ∧ last.2 ≤ 100000 := h.resolve_left hn
theorem cFree_ok {x : (List (ByteArray × Int × Int × Int × Int)) × Int × Int} {last : Int × Int} {s : Int} (hs : 0 ≤ s ∧ s < ((x.1.length : Nat) : Int)) (hok : ShpOk x.1) (htu : 0 ≤ x.2.1 ∧ x.2.1 ≤ 1000) (hla : LastOk x.1 last) : VF Tryz.prog OA 133 [.v y168 x, .v y111 last, I s] (I (freeF x.1 x.2.1 last s.toNat)) := by
  refine VF.enter Tryz.func133 rfl (fun _ _ => rfl) rfl ?_; show VC _ _ _ _ _ [(0, .v y168 x), (1, .v y111 last), (2, I s)] [] _; refine VC.seq (VC.text ?_); refine VO.new (.box) ?_; refine VO.new (.box) ?_; refine VO.c (.assign rfl) ?_; refine VO.go (VC.seq (VC.text ?_)); refine VO.c (.fa (.l .o)) ?_; refine VO.r (.ld vt62) ?_; refine VO.c (.move rfl) (VO.c (.ixZ rfl rfl el62 hs.1 hs.2) ?_); refine VO.r (.ld vt173) ?_; refine VO.cell (.alloc zt173) ?_; intro ww1; refine VO.setV (cs' := [St ((x.1[s.toNat]).1), I ((x.1[s.toNat]).2.1), I ((x.1[s.toNat]).2.2.1), I ((x.1[s.toNat]).2.2.2.1), I ((x.1[s.toNat]).2.2.2.2)]) vt173 .v ?_; refine VO.shut [(7, .p y173 (x.1[s.toNat]))] (.cons rfl (.var m0 .refl) .nil) ?_; refine VO.go (VC.seq (VC.seq (VC.text ?_))); refine VO.r (.ld vt111) ?_; refine VO.ldG (x := ((-1 : Int), (0 : Int))) (.head _) vt111 ?_; refine VO.c (.eeql eq111) (VO.go ?_); refine VC.condD rfl (fun c2 => ?_) (fun c2 => ?_)
  · refine VC.seq (VC.text ?_); refine VO.c (.fa (.r (.l .o))) ?_; refine VO.r (.ld vt3) ?_; refine VO.c (.assign rfl) (VO.go ?_); refine VC.ret ?_; exact VEnd.one rfl evT (pvI (by rw [freeF, if_pos c2, shA_eq (by omega)]))
  have hl := free_last hla c2; have hsa : shA x.1 s.toNat = x.1[s.toNat]'(by omega) := shA_eq (by omega); have hlb : shA x.1 last.1.toNat = x.1[last.1.toNat]'(by omega) := shA_eq (by omega); have hg := hok.lng last.1.toNat; rw [hlb] at hg; have ha := hok.arr s.toNat; rw [hsa] at ha; refine VC.skip (VC.seq (VC.text ?_)); refine VO.c (.fa (.l .o)) ?_; refine VO.r (.ld vt62) ?_; refine VO.c (.fa (.l .o)) ?_; refine VO.r (.ld vt3) ?_; refine VO.c (.ixZ (k := last.1) rfl rfl el62 (by omega) (by omega)) ?_; refine VO.r (.ld vt173) ?_; refine VO.cell (.alloc zt173) ?_; intro ww2; refine VO.setV (cs' := [St ((x.1[Int.toNat last.1]).1), I ((x.1[Int.toNat last.1]).2.1), I ((x.1[Int.toNat last.1]).2.2.1), I ((x.1[Int.toNat last.1]).2.2.2.1), I ((x.1[Int.toNat last.1]).2.2.2.2)]) vt173 .v ?_; refine VO.shut [(8, .p y173 (x.1[Int.toNat last.1]))] (.cons rfl (.var m0 .refl) .nil) ?_; refine VO.go (VC.seq (VC.text ?_)); refine VO.c (.fa (.r .o)) ?_; refine VO.r (.ld vt3) ?_; refine VO.c (.fa (.r (.r (.l .o)))) ?_; refine VO.r (.ld vt3) ?_; refine VO.c (.add rfl rfl (by omega)) (VO.c (.assign rfl) ?_); refine VO.go (VC.seq (VC.seq (VC.text ?_))); refine VO.c (.fa (.r (.r (.r (.l .o))))) ?_; refine VO.r (.ld vt3) ?_; refine VO.c (.fa (.r (.r (.r (.l .o))))) ?_; refine VO.r (.ld vt3) ?_; refine VO.c (.build ((x.1[Int.toNat last.1]).2.2.2.1, (x.1[s.toNat]).2.2.2.1) bt49) ?_; refine VO.cell (.alloc zt49) ?_; intro ww3; refine VO.setV (cs' := [I ((x.1[Int.toNat last.1]).2.2.2.1), I ((x.1[s.toNat]).2.2.2.1)]) vt49 .v ?_; refine VO.shut [(10, .p y49 ((x.1[Int.toNat last.1]).2.2.2.1, (x.1[s.toNat]).2.2.2.1))] (.cons rfl (.var m0 .refl) .nil) ?_; refine VO.go (VC.seq ?_); refine VC.keep [(3, .p y168 x), (7, .p y173 (x.1[s.toNat])), (8, .p y173 (x.1[Int.toNat last.1])), (9, I (last.2 + (x.1[Int.toNat last.1]).2.2.1)), (10, .p y49 ((x.1[Int.toNat last.1]).2.2.2.1, (x.1[s.toNat]).2.2.2.1))] ⟨rfl, rfl, rfl, rfl, rfl, trivial⟩ ?_; refine VC.text ?_; refine VO.r (.ld vt49) ?_; refine VO.c (.fa (.r (.r (.r (.l .o))))) ?_; refine VO.r (.ld vt3) ?_; refine VO.c (.fa (.r (.r (.r (.l .o))))) ?_; refine VO.r (.ld vt3) ?_; refine VO.c (.build ((x.1[s.toNat]).2.2.2.1, (x.1[Int.toNat last.1]).2.2.2.1) bt49) (VO.c (.arrCmp (xs := [(x.1[Int.toNat last.1]).2.2.2.1, (x.1[s.toNat]).2.2.2.1]) (ys := [(x.1[s.toNat]).2.2.2.1, (x.1[Int.toNat last.1]).2.2.2.1]) (.inr ⟨rfl, rfl⟩) rfl rfl rfl rfl (by kernel_rfl) rfl) (VO.go ?_)); refine VC.join [(7, .p y173 (x.1[s.toNat])), (9, I (last.2 + (x.1[last.1.toNat]'(by omega)).2.2.1 + (if (x.1[last.1.toNat]'(by omega)).2.2.2.1 ≠ (x.1[s.toNat]'(by omega)).2.2.2.1 then x.2.1 else 0)))] [] ?_ ?_; refine VC.condB rfl (fun c7 => ?_) (fun c7 => ?_)
  · try simp only [Bool.and_eq_true, Bool.or_eq_true, Bool.and_eq_false_iff, Bool.or_eq_false_iff, Bool.not_eq_true', Bool.not_eq_false', decide_eq_true_eq, decide_eq_false_iff_not] at c7
    refine VC.text ?_; refine VO.c (.move rfl) (VO.c (.fa (.r (.l .o))) ?_); refine VO.r (.ld vt3) ?_; refine VO.c (.add rfl rfl (by omega)) (VO.c (.assign rfl) ?_); refine VO.nil ?_; exact ⟨⟨rfl, slI rfl (by first | (rw [if_pos (fun h => c7 (sides_eq.2 h))]; done) | (rw [if_neg (fun h => h (sides_eq.1 c7))]; omega)), trivial⟩, rfl⟩
  · try simp only [Bool.and_eq_true, Bool.or_eq_true, Bool.and_eq_false_iff, Bool.or_eq_false_iff, Bool.not_eq_true', Bool.not_eq_false', decide_eq_true_eq, decide_eq_false_iff_not] at c7
    refine VC.skip ?_; exact ⟨⟨rfl, slI rfl (by first | (rw [if_pos (fun h => c7 (sides_eq.2 h))]; done) | (rw [if_neg (fun h => h (sides_eq.1 c7))]; omega)), trivial⟩, rfl⟩
  refine VC.seq (VC.text ?_); refine VO.c (.move rfl) (VO.c (.fa (.r (.l .o))) ?_); refine VO.r (.ld vt3) ?_; refine VO.c (.imax) (VO.c (.assign rfl) (VO.go ?_)); refine VC.ret ?_; exact VEnd.one rfl evT (pvI (by rw [freeF, if_neg c2, hsa, hlb]))
def paA (p : List (Int × Int)) (i : Nat) : Int × Int := p.getD i (0, 0)
theorem paA_eq {p : List (Int × Int)} {i : Nat} (h : i < p.length) : paA p i = p[i] := by simp [paA, h]
def twiP (p : List (Int × Int)) (i : Nat) (s : Int) : Bool := (p.take i).any fun x => decide (x.1 = s)
def lastP (p : List (Int × Int)) : Nat → Int × Int
  | 0 => (-1, 0)
  | i + 1 => paA p i
def pasX (l : List Shp) (turn clear : Int) (y last : Int × Int) (t : Bool) : Int := firstE [whenE t 9, whenE (decide (y.2 < freeF l turn last y.1.toNat)) 11, whenE (decide (clear - (shA l y.1.toNat).2.2.1 < y.2)) 21]
def pasE (l : List Shp) (turn clear : Int) (p : List (Int × Int)) (i : Nat) : Int :=
  if (paA p i).1 < 0 ∨ ((l.length : Nat) : Int) ≤ (paA p i).1 then 10 else pasX l turn clear (paA p i) (lastP p i) (twiP p i (paA p i).1)
def passE (l : List Shp) (turn clear : Int) (p : List (Int × Int)) : Int := firstR (pasE l turn clear p) 0 p.length
def sumP (l : List Shp) (p : List (Int × Int)) : Nat → Int
  | 0 => 0
  | i + 1 => sumP l p i + (shA l (paA p i).1.toNat).2.2.2.2
theorem sumP_b {l : List Shp} (h : ShpOk l) {p : List (Int × Int)} : ∀ i, 0 ≤ sumP l p i ∧ sumP l p i ≤ 1000 * ((i : Nat) : Int)
  | 0 => by simp [sumP]
  | i + 1 => by
    have h1 := sumP_b h (p := p) i; have h2 := h.pri (paA p i).1.toNat; show 0 ≤ sumP l p i + _ ∧ sumP l p i + _ ≤ _; omega
theorem pas_ok {l : List Shp} (hok : ShpOk l) {turn clear : Int} {p : List (Int × Int)} {i : Nat} (hc : clear ≤ 100000) (h : pasE l turn clear p i = 0) : (0 ≤ (paA p i).1 ∧ (paA p i).1 < ((l.length : Nat) : Int)) ∧ twiP p i (paA p i).1 = false ∧ freeF l turn (lastP p i) (paA p i).1.toNat ≤ (paA p i).2 ∧ (paA p i).2 ≤ clear - (shA l (paA p i).1.toNat).2.2.1 ∧ 0 ≤ (paA p i).2 ∧ (paA p i).2 ≤ 100000 := by
  unfold pasE at h; by_cases hr : (paA p i).1 < 0 ∨ ((l.length : Nat) : Int) ≤ (paA p i).1
  · rw [if_pos hr] at h; cases h
  rw [if_neg hr] at h; have hz := firstE_zero.1 h; have h1 := (whenE_zero (by decide)).1 (hz _ List.mem_cons_self); have h2 := of_decide_eq_false ((whenE_zero (by decide)).1 (hz _ (List.mem_cons_of_mem _ List.mem_cons_self))); have h3 := of_decide_eq_false ((whenE_zero (by decide)).1 (hz _ (List.mem_cons_of_mem _ (List.mem_cons_of_mem _ List.mem_cons_self)))); have h4 := hok.lng (paA p i).1.toNat; have h5 := hok.arr (paA p i).1.toNat
  have h6 : (shA l (paA p i).1.toNat).2.1 ≤ freeF l turn (lastP p i) (paA p i).1.toNat := by
    unfold freeF; by_cases e : lastP p i = (-1, 0)
    · rw [if_pos e]; omega
    rw [if_neg e]; omega
  exact ⟨by omega, h1, by omega, by omega, by omega, by omega⟩
theorem last_ok {l : List Shp} (hok : ShpOk l) {turn clear : Int} {p : List (Int × Int)} (hc : clear ≤ 100000) {i : Nat} (h : ∀ j, j < i → pasE l turn clear p j = 0) : LastOk l (lastP p i) := by
  cases i with
  | zero => exact .inl rfl
  | succ i =>
    have := pas_ok hok hc (h i (by omega)); exact .inr ⟨this.1.1, this.1.2, this.2.2.2.2.1, this.2.2.2.2.2⟩
theorem pass_r {l : List Shp} {turn clear : Int} {p : List (Int × Int)} {i : Nat} (hw : passE l turn clear p = firstR (pasE l turn clear p) i p.length) (hi : i < p.length) (hz : pasE l turn clear p i ≠ 0) : passE l turn clear p = pasE l turn clear p i := by
  rw [hw, firstR_step hi, if_neg hz]
theorem pas_u {l : List Shp} {turn clear : Int} {p : List (Int × Int)} {i : Nat} (hi : i < p.length) (h : p[i].1 < 0 ∨ ((l.length : Nat) : Int) ≤ p[i].1) : pasE l turn clear p i = 10 := by
  rw [pasE, paA_eq hi, if_pos h]
theorem pas_x {l : List Shp} {turn clear : Int} {p : List (Int × Int)} {i : Nat} (hi : i < p.length) (h : ¬ (p[i].1 < 0 ∨ ((l.length : Nat) : Int) ≤ p[i].1)) : pasE l turn clear p i = pasX l turn clear p[i] (lastP p i) (twiP p i p[i].1) := by
  rw [pasE, paA_eq hi, if_neg h]
theorem zIndexPa_ok {F : Int × Int → Bool} {l : List (Int × Int)} {f : PV} (hl : l.length < 1000000) (hf : ∀ x ∈ l, VCall Tryz.prog OA f [.v y111 x] (B (F x))) : VF Tryz.prog OA 153 [.v y59 l, f] (I (idxG F l 0)) := by
  refine VF.enter Tryz.func153 rfl (fun _ _ => rfl) rfl ?_; show VC _ _ _ _ _ [(0, .v y59 l), (1, f)] [] _; refine VC.seq (VC.text ?_); refine VO.c (.assign rfl) ?_; refine VO.go (VC.seq (VC.seq (VC.text ?_))); refine VO.c (.move rfl) ?_; refine VO.r (.len el59) ?_; refine VO.c (.move rfl) ?_; refine VO.go (VC.block ?_); refine VC.keep [(0, .v y59 l), (1, f), (7, I ((l.length : Nat) : Int)), (8, I ((0 : Nat) : Int))] ⟨rfl, rfl, rfl, rfl, trivial⟩ ?_; refine VC.loop (I := fun kk ff ss => ∃ (j : Nat), kk = l.length - j ∧ ff = [(0, .v y59 l), (1, f), (7, I ((l.length : Nat) : Int)), (8, I ((j : Nat) : Int))] ∧ ss = [] ∧ (j ≤ l.length) ∧ (idxG F l 0 = idxG F (l.drop j) (j : Nat))) ?_ _ _ _ ⟨0, rfl, rfl, rfl, Nat.zero_le _, (by rfl)⟩; rintro kk ff ss ⟨j, hk0, rfl, rfl, hj, hi⟩; refine VC.seq (VC.text ?_); refine VO.c (.lss) ?_; refine VO.go (VC.seq ?_); refine VC.condD rfl (fun c2 => ?_) (fun c2 => ?_)
  · refine VC.skip (VC.seq (VC.block (VC.seq (VC.text ?_)))); refine VO.c (.move rfl) (VO.c (.assign rfl) ?_); refine VO.go (VC.seq (VC.text ?_)); refine VO.c (.move rfl) (VO.c (.move rfl) (VO.c (.move rfl) (VO.c (.ix (j := j) rfl rfl el59 (by omega)) ?_))); refine VO.r (.ld vt111) ?_; refine VO.call rfl rfl ((hf _ (List.getElem_mem _)) ) ?_; refine VO.go ?_; refine VC.condB rfl (fun c4 => ?_) (fun c4 => ?_)
    · refine VC.seq (VC.text ?_); refine VO.c (.move rfl) (VO.c (.assign rfl) (VO.go ?_)); refine VC.ret ?_; exact VEnd.one rfl evT (pvI (by rw [hi, idxG_drop (by omega), if_pos c4]))
    refine VC.skip (VC.text ?_); refine VO.c (.add rfl rfl (by omega)) (VO.c (.move rfl) ?_); refine VO.nil ?_; refine ⟨_, [(0, .v y59 l), (1, f), (7, I ((l.length : Nat) : Int)), (8, I (((j + 1) : Nat) : Int))], ?_, ⟨rfl, rfl, rfl, rfl, trivial⟩, (j + 1), rfl, rfl, rfl, (by omega), (by rw [hi, idxG_drop (by omega), if_neg (by rw [c4]; decide)])⟩; omega
  refine VC.exit (VC.seq (VC.text ?_)); refine VO.c (.assign rfl) (VO.go ?_); refine VC.ret ?_; exact VEnd.one rfl evT (pvI (by rw [hi, idxG_end (by omega)]))
theorem zContPa_ok {F : Int × Int → Bool} {l : List (Int × Int)} {f : PV} (hl : l.length < 1000000) (hf : ∀ x ∈ l, VCall Tryz.prog OA f [.v y111 x] (B (F x))) : VF Tryz.prog OA 121 [.v y59 l, f] (B (l.any F)) := by
  refine VF.enter Tryz.func121 rfl (fun _ _ => rfl) rfl ?_; show VC _ _ _ _ _ [(0, .v y59 l), (1, f)] [] _; refine VC.seq (VC.text ?_); refine VO.c (.assign rfl) ?_; refine VO.go (VC.seq (VC.text ?_)); refine VO.c (.move rfl) (VO.c (.move rfl) ?_); refine VO.call rfl rfl (VF.call (zIndexPa_ok (F := F) hl hf)) ?_; refine VO.c (.geq) (VO.c (.assign rfl) (VO.go ?_)); refine VC.ret ?_; exact VEnd.one rfl evT (pvE (by have h9 := idxG_any (F := F) (l := l) (k := 0) (by omega); cases h8 : l.any F <;> simp_all))
theorem cPas1_ok {o : Int × Int} {y : Int × Int} : VF Tryz.prog OA 132 [.v y111 o, .p y111 y] (B (decide (o.1 = y.1))) := by
  refine VF.enter Tryz.func132 rfl (fun _ _ => rfl) rfl ?_; show VC _ _ _ _ _ [(0, .v y111 o), (1, .p y111 y)] [] _; refine VC.seq (VC.text ?_); refine VO.new (.box) ?_; refine VO.c (.assign rfl) ?_; refine VO.go (VC.seq (VC.text ?_)); refine VO.c (.fa (.l .o)) ?_; refine VO.r (.ld vt3) ?_; refine VO.c (.fa (.l .o)) ?_; refine VO.r (.ld vt3) ?_; refine VO.c (.eql) (VO.c (.assign rfl) (VO.go ?_)); refine VC.ret ?_; exact VEnd.one rfl evT (pvE (by rfl))
def passR (l : List Shp) (turn clear : Int) (p : List (Int × Int)) : Int := if lockE l turn clear = 0 then passE l turn clear p else lockE l turn clear
theorem lock_ok {l : List Shp} {turn clear : Int} (h : lockE l turn clear = 0) : ShpOk l ∧ (0 ≤ turn ∧ turn ≤ 1000) ∧ 0 ≤ clear ∧ clear ≤ 100000 := by
  have hz := firstE_zero.1 h; exact ⟨ships_ok (hz _ List.mem_cons_self), rangeE_zero.1 (hz _ (List.mem_cons_of_mem _ List.mem_cons_self)), rangeE_zero.1 (hz _ (List.mem_cons_of_mem _ (List.mem_cons_of_mem _ List.mem_cons_self)))⟩
theorem cPassages_ok {l : List (ByteArray × Int × Int × Int × Int)} {turn : Int} {clear : Int} {p : List (Int × Int)} (hl : l.length < 100000) (hp : p.length < 1000) : VF Tryz.prog OA 64 [.v y62 l, I turn, I clear, .v y59 p] (.tup [I (if passR l turn clear p = 0 then sumP l p p.length else 0), I (passR l turn clear p)]) := by
  refine VF.enter Tryz.func64 rfl (fun _ _ => rfl) rfl ?_; show VC _ _ _ _ _ [(0, .v y62 l), (1, I turn), (2, I clear), (3, .v y59 p)] [] _; refine VC.seq (VC.text ?_); refine VO.c (.assign rfl) (VO.c (.assign rfl) ?_); refine VO.go (VC.seq (VC.text ?_)); refine VO.c (.move rfl) (VO.c (.move rfl) (VO.c (.move rfl) (VO.c (.build (l, turn, clear) bt168) ?_))); refine VO.cell (.alloc zt168) ?_; intro ww4; refine VO.setV (cs' := [.v y62 l, I turn, I clear]) vt168 .v ?_; refine VO.shut [(10, .p y168 (l, turn, clear))] (.cons rfl (.var m0 .refl) .nil) ?_; refine VO.go (VC.seq (VC.seq (VC.text ?_))); refine VO.r (.ld vt168) ?_; refine VO.call rfl rfl (VF.call (cLockC_ok hl)) ?_; refine VO.c (.assign rfl) ?_; refine VO.go (VC.seq (VC.text ?_)); refine VO.c (.move rfl) (VO.c (.neq) (VO.go ?_)); refine VC.condD rfl (fun c3 => ?_) (fun c3 => ?_)
  · refine VC.seq (VC.text ?_); refine VO.c (.move rfl) (VO.c (.assign rfl) (VO.c (.assign rfl) (VO.go ?_))); refine VC.ret ?_; exact VEnd.two rfl evT evT (pvI (by rw [if_neg (by rw [passR, if_neg c3]; exact c3)])) (pvI (by rw [passR, if_neg c3] <;> rfl))
  have hL : lockE l turn clear = 0 := Classical.not_not.1 c3; have hO := lock_ok hL; have hok := hO.1; have hl8 := hok.len
  have hR : passR l turn clear p = passE l turn clear p := by rw [passR, if_pos hL]
  refine VC.skip (VC.seq (VC.text ?_)); refine VO.c (.assign rfl) ?_; refine VO.go (VC.seq (VC.text ?_)); refine VO.ldG (x := ((-1 : Int), (0 : Int))) (.head _) vt111 ?_; refine VO.cell (.alloc zt111) ?_; intro ww5; refine VO.setV (cs' := [I (-1 : Int), I (0 : Int)]) vt111 .v ?_; refine VO.go (VC.seq (VC.seq (VC.text ?_))); refine VO.c (.move rfl) ?_; refine VO.r (.len el59) ?_; refine VO.c (.move rfl) ?_; refine VO.go (VC.block ?_); refine VC.keep [(0, .v y62 l), (2, I clear), (3, .v y59 p), (10, .p y168 (l, turn, clear)), (12, I (sumP l p 0)), (13, .raw ww5), (28, .v y59 p), (29, I ((p.length : Nat) : Int)), (30, I ((0 : Nat) : Int))] ⟨rfl, rfl, rfl, rfl, rfl, rfl, rfl, rfl, rfl, trivial⟩ ?_; refine VC.loop (I := fun kk ff ss => ∃ (i : Nat), kk = p.length - i ∧ ff = [(0, .v y62 l), (2, I clear), (3, .v y59 p), (10, .p y168 (l, turn, clear)), (12, I (sumP l p i)), (13, .raw ww5), (28, .v y59 p), (29, I ((p.length : Nat) : Int)), (30, I ((i : Nat) : Int))] ∧ ss = [(ww5, .var [I ((lastP p i).1), I ((lastP p i).2)])] ∧ (i ≤ p.length) ∧ (passE l turn clear p = firstR (pasE l turn clear p) i p.length) ∧ (∀ j, j < i → pasE l turn clear p j = 0)) ?_ _ _ _ ⟨0, rfl, rfl, rfl, Nat.zero_le _, (by rfl), (by intro j hj; omega)⟩; rintro kk ff ss ⟨i, hk0, rfl, rfl, hi, hw, hq⟩; refine VC.seq (VC.text ?_); refine VO.c (.lss) ?_; refine VO.go (VC.seq ?_); refine VC.condD rfl (fun c8 => ?_) (fun c8 => ?_)
  · have hlt : i < p.length := by omega
    have hsb := sumP_b hok (p := p) i; have hlo := last_ok hok hO.2.2.2 hq; refine VC.skip (VC.seq (VC.block (VC.seq (VC.text ?_)))); refine VO.c (.move rfl) (VO.c (.ix (j := i) rfl rfl el59 (by omega)) ?_); refine VO.r (.ld vt111) ?_; refine VO.cell (.alloc zt111) ?_; intro ww6; refine VO.c (.assign rfl) ?_; refine VO.setV (cs' := [I ((p[i]).1), I ((p[i]).2)]) vt111 .v ?_; refine VO.shut [(15, .p y111 (p[i]))] (.cons rfl (.var m0 .refl) .nil) ?_; refine VO.go (VC.seq (VC.seq (VC.text ?_))); refine VO.c (.fa (.l .o)) ?_; refine VO.r (.ld vt3) ?_; refine VO.c (.lss) (VO.c (.move rfl) ?_); refine VO.cg (r := decide ((p[i]).1 < (0 : Int))) (w := false) [] trivial (fun _ => (.fa (.l .o))) ?_; refine VO.rg (r := decide ((p[i]).1 < (0 : Int))) (w := false) [(39, .p (.int .i64) ((p[i]).1))] ⟨rfl, trivial⟩ (fun _ => (.ld vt3)) ?_; refine VO.cg (r := decide ((p[i]).1 < (0 : Int))) (w := false) [] trivial (fun _ => (.move rfl)) ?_; refine VO.rg (r := decide ((p[i]).1 < (0 : Int))) (w := false) [(41, .v y62 l)] ⟨rfl, trivial⟩ (fun _ => (.len el62)) ?_; refine VO.cg (r := decide ((p[i]).1 < (0 : Int))) (w := false) [(40, I ((p[i]).1)), (42, I ((l.length : Nat) : Int))] ⟨rfl, rfl, trivial⟩ (fun _ => (.geq)) ?_; refine VO.c (.or) (VO.go ?_); refine VC.condB rfl (fun c10 => ?_) (fun c10 => ?_)
    · try simp only [Bool.and_eq_true, Bool.or_eq_true, Bool.and_eq_false_iff, Bool.or_eq_false_iff, Bool.not_eq_true', Bool.not_eq_false', decide_eq_true_eq, decide_eq_false_iff_not] at c10
      refine VC.seq (VC.text ?_); refine VO.c (.assign rfl) (VO.c (.assign rfl) (VO.go ?_)); refine VC.ret ?_; exact VEnd.two rfl evT evT (pvI (by rw [if_neg (by rw [hR, pass_r hw hlt (by rw [pas_u hlt c10]; decide), pas_u hlt c10]; decide)])) (pvI (by rw [hR, pass_r hw hlt (by rw [pas_u hlt c10]; decide), pas_u hlt c10]))
    try simp only [Bool.and_eq_true, Bool.or_eq_true, Bool.and_eq_false_iff, Bool.or_eq_false_iff, Bool.not_eq_true', Bool.not_eq_false', decide_eq_true_eq, decide_eq_false_iff_not] at c10
    have hx := pas_x (l := l) (turn := turn) (clear := clear) hlt (by omega)
    have hx2 : pasE l turn clear p i = firstE [whenE ((p.take ((i : Nat) : Int).toNat).any fun o => decide (o.1 = (paA p i).1)) 9, whenE (decide (p[i].2 < freeF l turn (lastP p i) (p[i].1).toNat)) 11, whenE (decide (clear - (l[(p[i].1).toNat]'(by omega)).2.2.1 < p[i].2)) 21] := by rw [hx, pasX, shA_eq (by omega), paA_eq hlt] <;> rfl
    have hga := hok.lng (p[i].1).toNat; rw [shA_eq (by omega)] at hga; have hpr := hok.pri (p[i].1).toNat; rw [shA_eq (by omega)] at hpr; refine VC.skip (VC.seq (VC.text ?_)); refine VO.c (.move rfl) (VO.c (.move rfl) ?_); refine VO.r (.cutH rfl rfl el59 (by omega)) ?_; refine VO.c (.func) ?_; refine VO.call rfl rfl (VF.call (zContPa_ok (F := fun o => decide (o.1 = (paA p i).1)) (by rw [List.length_take]; omega) (fun o _ => by rw [paA_eq hlt]; exact VF.clo cPas1_ok))) ?_; refine VO.c (.assign rfl) ?_; refine VO.go (VC.seq (VC.seq (VC.drawn ?_))); refine VD.c (.move rfl) ?_; refine VD.call rfl rfl (VF.call (cWhen_ok )) ?_; refine VD.c (.fa (.r .o)) ?_; refine VD.r [] (.ld vt3) (.inl rfl) ?_; refine VD.r [] (.ld vt168) (.inl rfl) ?_; refine VD.r [(ww5, .var [I ((lastP p i).1), I ((lastP p i).2)])] (.ldA (dx := (((lastP p i).1), ((lastP p i).2))) m0 vt111) (.inr ⟨rfl, rfl⟩) ?_; refine VD.nw [] (VD.c (.fa (.l .o)) ?_); refine VD.r [] (.ld vt3) (.inl rfl) ?_; refine VD.call rfl rfl (VF.call (cFree_ok ⟨(by omega), (show p[i].1 < ((l.length : Nat) : Int) by omega)⟩ hok hO.2.1 hlo)) ?_; refine VD.c (.lss) ?_; refine VD.call rfl rfl (VF.call (cWhen_ok )) ?_; refine VD.c (.fa (.r .o)) ?_; refine VD.r [] (.ld vt3) (.inl rfl) ?_; refine VD.nw [] (VD.c (.move rfl) (VD.c (.move rfl) (VD.c (.fa (.l .o)) ?_))); refine VD.r [] (.ld vt3) (.inl rfl) ?_; refine VD.c (.ixZ (k := (p[i]).1) rfl rfl el62 (by omega) (by omega)) (VD.c (.fa (.r (.r (.l .o)))) ?_); refine VD.r [] (.ld vt3) (.inl rfl) ?_; refine VD.nw [] (VD.c (.sub rfl rfl (by omega)) (VD.c (.gtr) ?_)); refine VD.call rfl rfl (VF.call (cWhen_ok )) ?_; refine VD.new (.lit [whenE ((p.take (((i : Nat) : Int)).toNat).any (fun o => decide (o.1 = (paA p i).1))) (9 : Int), whenE (decide ((p[i]).2 < freeF l turn (((lastP p i).1), ((lastP p i).2)) ((p[i]).1).toNat)) (11 : Int), whenE (decide ((clear - (l[Int.toNat ((p[i]).1)]).2.2.1) < (p[i]).2)) (21 : Int)] el154) ?_; refine VD.callO rfl rfl (VF.call (cFirst_ok (by simp))) ?_; refine VD.c (.assign rfl) ?_; refine VD.go (VC.seq ?_); refine VC.keep [(0, .v y62 l), (2, I clear), (3, .v y59 p), (10, .p y168 (l, turn, clear)), (12, I (sumP l p i)), (13, .raw ww5), (15, .p y111 (p[i])), (17, I (firstE [whenE ((p.take (((i : Nat) : Int)).toNat).any (fun o => decide (o.1 = (paA p i).1))) (9 : Int), whenE (decide ((p[i]).2 < freeF l turn (((lastP p i).1), ((lastP p i).2)) ((p[i]).1).toNat)) (11 : Int), whenE (decide ((clear - (l[Int.toNat ((p[i]).1)]).2.2.1) < (p[i]).2)) (21 : Int)])), (28, .v y59 p), (29, I ((p.length : Nat) : Int)), (30, I ((i : Nat) : Int))] ⟨rfl, rfl, rfl, rfl, rfl, rfl, rfl, rfl, rfl, rfl, rfl, trivial⟩ ?_; refine VC.text ?_; refine VO.c (.move rfl) (VO.c (.neq) (VO.go ?_)); refine VC.condD rfl (fun c14 => ?_) (fun c14 => ?_)
    · refine VC.seq (VC.text ?_); refine VO.c (.move rfl) (VO.c (.assign rfl) (VO.c (.assign rfl) (VO.go ?_))); refine VC.ret ?_; exact VEnd.two rfl evT evT (pvI (by rw [if_neg (by rw [hR, pass_r hw hlt (by rw [hx2]; exact c14), hx2]; exact c14)])) (pvI (by rw [hR, pass_r hw hlt (by rw [hx2]; exact c14), hx2]))
    have hz : pasE l turn clear p i = 0 := by rw [hx2]; exact Classical.not_not.1 c14
    have hpo := pas_ok hok hO.2.2.2 hz; refine VC.skip (VC.seq (VC.text ?_)); refine VO.c (.move rfl) (VO.c (.move rfl) (VO.c (.fa (.l .o)) ?_)); refine VO.r (.ld vt3) ?_; refine VO.c (.ixZ (k := (p[i]).1) rfl rfl el62 (by omega) (by omega)) (VO.c (.fa (.r (.r (.r (.r .o))))) ?_); refine VO.r (.ld vt3) ?_; refine VO.c (.add rfl rfl (by omega)) (VO.c (.assign rfl) ?_); refine VO.go (VC.text ?_); refine VO.r (.ld vt111) ?_; refine VO.setV (cs' := [I ((p[i]).1), I ((p[i]).2)]) vt111 .v ?_; refine VO.nil (VC.text ?_); refine VO.c (.add rfl rfl (by omega)) (VO.c (.move rfl) ?_); refine VO.nil ?_; refine ⟨_, [(0, .v y62 l), (2, I clear), (3, .v y59 p), (10, .p y168 (l, turn, clear)), (12, I (sumP l p (i + 1))), (13, .raw ww5), (28, .v y59 p), (29, I ((p.length : Nat) : Int)), (30, I (((i + 1) : Nat) : Int))], ?_, ⟨rfl, rfl, rfl, rfl, slI rfl (by rw [sumP, paA_eq hlt, shA_eq (by omega)]), rfl, rfl, rfl, rfl, trivial⟩, (i + 1), rfl, rfl, (by simp only [lastP, paA_eq hlt]), (by omega), (by rw [hw, firstR_step hlt, if_pos hz]), (by intro j hj; rcases Nat.lt_succ_iff_lt_or_eq.1 hj with h | h; exact hq j h; subst h; exact hz)⟩; omega
  have hpl : i = p.length := by omega
  have hR0 : passR l turn clear p = 0 := by rw [hR, hw, firstR_end (by omega)]
  refine VC.exit (VC.seq (VC.text ?_)); refine VO.c (.move rfl) (VO.c (.assign rfl) (VO.c (.assign rfl) (VO.go ?_))); refine VC.ret ?_; exact VEnd.two rfl evT evT (pvI (by rw [if_pos hR0, hpl])) (pvI (by exact hR0.symm))
end Go.Proofs
namespace Go.Proofs
open Go.Fs
set_option maxHeartbeats 1000000
def curK (o : List Int) (y : Int) (k : Nat) : List Int := o.take k ++ y :: o.drop k
def bubK (o : List Int) (y : Int) : Nat → List Int
  | 0 => y :: o
  | k + 1 => if y < o.getD k 0 then bubK o y k else curK o y (k + 1)
def shpL (p : List (Int × Int)) : Nat → List Int
  | 0 => []
  | i + 1 => bubK (shpL p i) (paA p i).1 (shpL p i).length
theorem curK_len {o : List Int} {y : Int} {k : Nat} (h : k ≤ o.length) : (curK o y k).length = o.length + 1 := by
  simp [curK]; omega
theorem curK_mem {o : List Int} {y x : Int} {k : Nat} : x ∈ curK o y k ↔ x = y ∨ x ∈ o := by
  unfold curK; rw [List.mem_append, List.mem_cons]
  conv => rhs; rw [← List.take_append_drop k o, List.mem_append]
  constructor
  · rintro (h | h | h)
    · exact .inr (.inl h)
    · exact .inl h
    exact .inr (.inr h)
  rintro (h | h | h)
  · exact .inr (.inl h)
  · exact .inl h
  exact .inr (.inr h)
theorem bubK_mem {o : List Int} {y x : Int} : ∀ k, x ∈ bubK o y k ↔ x = y ∨ x ∈ o
  | 0 => by simp [bubK]
  | k + 1 => by
    unfold bubK; split
    · exact bubK_mem k
    exact curK_mem
theorem bubK_len {o : List Int} {y : Int} : ∀ k, k ≤ o.length → (bubK o y k).length = o.length + 1
  | 0, _ => by simp [bubK]
  | k + 1, h => by
    unfold bubK; split
    · exact bubK_len k (by omega)
    exact curK_len h
theorem curK_at {o : List Int} {y : Int} {k q : Nat} (h : k ≤ o.length) (hq : q < (curK o y k).length) : (curK o y k)[q] = if q < k then o.getD q 0 else if q = k then y else o.getD (q - 1) 0 := by
  have hl := curK_len (y := y) h; unfold curK at hq ⊢; rw [List.getElem_append]; by_cases h1 : q < k
  · have : q < (o.take k).length := by rw [List.length_take]; omega
    rw [dif_pos this, if_pos h1, List.getElem_take, getDg (by omega)]
  have : ¬ q < (o.take k).length := by rw [List.length_take]; omega
  rw [dif_neg this, if_neg h1]
  have hk : (o.take k).length = k := by rw [List.length_take]; omega
  by_cases h2 : q = k
  · rw [if_pos h2]; simp only [hk, h2, Nat.sub_self] <;> rfl
  rw [if_neg h2]; simp only [hk]
  have h3 : q - k = (q - k - 1) + 1 := by omega
  have : ∀ (n : Nat) (hn : n < (y :: o.drop k).length), n = (q - k - 1) + 1 → (y :: o.drop k)[n] = o.getD (q - 1) 0 := by
    rintro n hn rfl; rw [List.getElem_cons_succ, List.getElem_drop, getDg (by simp at hn; omega)]; congr 1; omega
  exact this _ _ h3
theorem swap_b {o : List Int} {y a b : Int} {k j : Nat} (hj : j + 1 = k) (h : k ≤ o.length) (ha : a = o.getD (k - 1) 0) (hb : b = y) : ((curK o y k).set k a).set j b = curK o y (k - 1) := by
  obtain rfl : j = k - 1 := by omega
  have h0 : 0 < k := by omega
  subst hb; refine List.ext_getElem (by rw [List.length_set, List.length_set, curK_len h, curK_len (by omega)]) fun q h1 h2 => ?_; rw [curK_at (k := k - 1) (by omega) h2, List.getElem_set, List.getElem_set]; by_cases e1 : k - 1 = q
  · rw [if_pos e1, if_neg (by omega), if_pos (by omega)]
  rw [if_neg e1]; by_cases e2 : k = q
  · rw [if_pos e2, if_neg (by omega), if_neg (by omega), ha]; congr 1; omega
  rw [if_neg e2, curK_at h]; by_cases e3 : q < k
  · rw [if_pos e3, if_pos (by omega)]
  rw [if_neg e3, if_neg (by omega), if_neg (by omega), if_neg (by omega)]
theorem bub_step {o : List Int} {y : Int} {k : Nat} (h0 : 0 < k) (h : y < o.getD (k - 1) 0) : bubK o y k = bubK o y (k - 1) := by
  cases k with
  | zero => omega
  | succ k => rw [bubK, if_pos (show y < o.getD k 0 from h)] <;> rfl
theorem bub_end {o : List Int} {y : Int} {k : Nat} (h : k = 0 ∨ ¬ y < o.getD (k - 1) 0) : bubK o y k = curK o y k := by
  cases k with
  | zero => simp [bubK, curK]
  | succ k => rw [bubK, if_neg (show ¬ y < o.getD k 0 from h.resolve_left (by omega))]
theorem curK_end {o : List Int} {y : Int} : o ++ [y] = curK o y o.length := by simp [curK]
theorem shpL_len {p : List (Int × Int)} : ∀ i, (shpL p i).length = i
  | 0 => rfl
  | i + 1 => by rw [shpL, bubK_len _ (Nat.le_refl _), shpL_len i]
theorem shpL_mem {p : List (Int × Int)} {x : Int} : ∀ i, i ≤ p.length → (x ∈ shpL p i ↔ twiP p i x = true)
  | 0, _ => by simp [shpL, twiP]
  | i + 1, h => by
    have ih := shpL_mem (p := p) (x := x) i (by omega); rw [shpL, bubK_mem, ih]; unfold twiP; rw [List.take_succ_eq_append_getElem (by omega), List.any_append, paA_eq (by omega)]; simp only [List.any_cons, List.any_nil, Bool.or_false, Bool.or_eq_true, decide_eq_true_eq]; constructor
    · rintro (h | h)
      · exact .inr h.symm
      exact .inl h
    rintro (h | h)
    · exact .inr h
    exact .inl h.symm
theorem shpL_has {p : List (Int × Int)} {x : Int} {i : Nat} (h : i ≤ p.length) : (shpL p i).contains x = twiP p i x := by
  have := shpL_mem (p := p) (x := x) i h
  cases hb : twiP p i x with
  | true => exact List.contains_iff_mem.2 (this.2 hb)
  | false =>
    refine Bool.eq_false_iff.2 fun hc => ?_; have := this.1 (List.contains_iff_mem.1 hc); rw [hb] at this; cases this
theorem shpL_take {p : List (Int × Int)} {i : Nat} : ∀ j, j ≤ i → shpL (p.take i) j = shpL p j
  | 0, _ => rfl
  | j + 1, h => by
    have e : paA (p.take i) j = paA p j := by
      unfold paA; rw [List.getD_eq_getElem?_getD, List.getD_eq_getElem?_getD, List.getElem?_take, if_pos (by omega)]
    rw [shpL, shpL, shpL_take j (by omega), e]
theorem rShipsOf_ok {p : List (Int × Int)} (hl : p.length < 100000) : VF Tryz.prog OA 125 [.v y68 p] (.v y25 (shpL p p.length)) := by
  refine VF.enter Tryz.func125 rfl (fun _ _ => rfl) rfl ?_; show VC _ _ _ _ _ [(0, .v y68 p)] [] _; refine VC.seq (VC.text ?_); refine VO.c (.assign rfl) ?_; refine VO.go (VC.seq (VC.text ?_)); refine VO.c (.assign rfl) ?_; refine VO.go (VC.seq (VC.seq (VC.text ?_))); refine VO.c (.assign rfl) ?_; refine VO.go (VC.block ?_); refine VC.cell0 3 (.int .i64) ?_; refine VC.keep [(0, .v y68 p), (3, .raw (.slice none 0 0)), (4, I ((0 : Nat) : Int))] ⟨rfl, rfl, rfl, trivial⟩ ?_; refine VC.loop (I := fun kk ff ss => ∃ (i : Nat) (w : Value), kk = p.length - i ∧ ff = [(0, .v y68 p), (3, .raw w), (4, I ((i : Nat) : Int))] ∧ ss = [(w, .row 3 (.int .i64) (shpL p i))] ∧ (i ≤ p.length)) ?_ _ _ _ ⟨0, (.slice none 0 0), rfl, rfl, rfl, Nat.zero_le _⟩; rintro kk ff ss ⟨i, w, hk0, rfl, rfl, hi⟩; refine VC.seq (VC.seq (VC.text ?_)); refine VO.c (.move rfl) (VO.c (.move rfl) ?_); refine VO.r (.len el68) ?_; refine VO.c (.lss) (VO.go ?_); refine VC.condD rfl (fun c3 => ?_) (fun c3 => ?_)
  · have hlt : i < p.length := by omega
    have hsl := shpL_len (p := p) i; refine VC.skip (VC.seq (VC.block (VC.seq (VC.text ?_)))); refine VO.c (.move rfl) (VO.c (.move rfl) (VO.c (.move rfl) (VO.c (.ix (j := i) rfl rfl el68 (by omega)) ?_))); refine VO.c (.fa (.l .o)) ?_; refine VO.r (.ld vt3) ?_; refine VO.new (.lit [(p[i]).1] el25) ?_; refine VO.app rfl rfl el25 el25 (by rw [hsl]; simp; omega) ?_; intro ww1; refine VO.c (.assign rfl) ?_; refine VO.go (VC.seq (VC.text ?_)); refine VO.c (.move rfl) ?_; refine VO.r (.lenO m0 el25) ?_; refine VO.c (.sub rfl rfl (by rw [List.length_append]; simp; omega)) (VO.c (.assign rfl) ?_); refine VO.go (VC.block ?_); refine VC.keep [(0, .v y68 p), (3, .raw ww1), (4, I ((i : Nat) : Int)), (5, I ((((shpL p i).length) : Nat) : Int))] ⟨rfl, rfl, rfl, slI rfl (by rw [List.length_append]; simp), trivial⟩ ?_; refine VC.loop (I := fun kk ff ss => ∃ (k : Nat), kk = k ∧ ff = [(0, .v y68 p), (3, .raw ww1), (4, I ((i : Nat) : Int)), (5, I ((k : Nat) : Int))] ∧ ss = [(ww1, .row 3 (.int .i64) (curK (shpL p i) p[i].1 k))] ∧ (k ≤ (shpL p i).length) ∧ (bubK (shpL p i) p[i].1 (shpL p i).length = bubK (shpL p i) p[i].1 k)) ?_ _ _ _ ⟨(shpL p i).length, rfl, rfl, (by rw [curK_end]), (by omega), (by rfl)⟩; rintro kk ff ss ⟨k, hk2, rfl, rfl, hk, hb⟩; have hcl := curK_len (y := p[i].1) hk; refine VC.seq (VC.seq (VC.drawn ?_)); refine VD.c (.move rfl) (VD.c (.gtr) (VD.c (.move rfl) ?_)); refine VD.splitD (x := 25) rfl (fun g7_2 => ?_) (fun g7_2 => ?_)
    · refine VD.c (.move rfl) (VD.c (.move rfl) (VD.nw [] ?_)); refine VD.co (.ixO (j := k) rfl rfl m0 el25 (by omega)) ?_; refine VD.r [(ww1, .row 3 (.int .i64) (curK (shpL p i) p[i].1 k))] (.ldO rfl m0 vt3 (by omega)) (.inr ⟨rfl, rfl⟩) ?_; refine VD.c (.move rfl) (VD.c (.move rfl) (VD.c (.sub rfl rfl (by omega)) ?_)); refine VD.co (.ixOZ (k := (((k : Nat) : Int) - (1 : Int))) rfl rfl m0 el25 (by omega) (by omega)) ?_; refine VD.r [(ww1, .row 3 (.int .i64) (curK (shpL p i) p[i].1 k))] (.ldO rfl m0 vt3 (by omega)) (.inr ⟨rfl, rfl⟩) ?_; refine VD.nw [] (VD.c (.lss) (VD.c (.pickT rfl rfl) (VD.go ?_))); refine VC.condD rfl (fun c7 => ?_) (fun c7 => ?_)
      · have e1 : (curK (shpL p i) p[i].1 k)[k]'(by omega) = p[i].1 := by rw [curK_at hk, if_neg (by omega), if_pos rfl]
        have e2 : (curK (shpL p i) p[i].1 k)[(((k : Nat) : Int) - 1).toNat]'(by omega) = (shpL p i).getD (k - 1) 0 := by rw [curK_at hk, if_pos (by omega)]; congr 1; omega
        have hls : ((curK (shpL p i) p[i].1 k).set k ((curK (shpL p i) p[i].1 k)[(((k : Nat) : Int) - 1).toNat]'(by omega))).length = (shpL p i).length + 1 := by rw [List.length_set]; exact hcl
        have h7 := c7; rw [e1, e2] at h7; refine VC.skip (VC.seq (VC.block (VC.drawn ?_))); refine VD.c (.move rfl) (VD.c (.move rfl) (VD.c (.move rfl) (VD.c (.move rfl) ?_))); refine VD.c (.sub rfl rfl (by omega)) (VD.c (.move rfl) (VD.nw [] (VD.c (.move rfl) ?_))); refine VD.c (.sub rfl rfl (by omega)) ?_; refine VD.co (.ixOZ (k := (((k : Nat) : Int) - (1 : Int))) rfl rfl m0 el25 (by omega) (by omega)) ?_; refine VD.r [(ww1, .row 3 (.int .i64) (curK (shpL p i) p[i].1 k))] (.ldO rfl m0 vt3 (by omega)) (.inr ⟨rfl, rfl⟩) ?_; refine VD.c (.move rfl) (VD.c (.move rfl) ?_); refine VD.co (.ixO (j := k) rfl rfl m0 el25 (by omega)) ?_; refine VD.nw [] ?_; refine VD.r [(ww1, .row 3 (.int .i64) (curK (shpL p i) p[i].1 k))] (.ldO rfl m0 vt3 (by omega)) (.inr ⟨rfl, rfl⟩) ?_; refine VD.co (.ixO (j := k) rfl rfl m0 el25 (by omega)) ?_; refine VD.mk0 (MakeV.setE (j := k) vt3 (by omega) rfl rfl) ?_; rintro _ _ tl2 ⟨rfl, rfl⟩; refine VD.co (.ixOZ (k := (((k : Nat) : Int) - (1 : Int))) rfl rfl m0 el25 (by omega) (by omega)) ?_; refine VD.mk0 (MakeV.setE (j := (Int.toNat (((k : Nat) : Int) - (1 : Int)))) vt3 (by omega) rfl rfl) ?_; rintro _ _ tl3 ⟨rfl, rfl⟩; refine VD.nil ?_; refine VC.text ?_; refine VO.c (.move rfl) (VO.c (.sub rfl rfl (by omega)) (VO.c (.assign rfl) ?_)); refine VO.nil ?_; refine ⟨_, [(0, .v y68 p), (3, .raw ww1), (4, I ((i : Nat) : Int)), (5, I (((k - 1) : Nat) : Int))], ?_, ⟨rfl, rfl, rfl, slI rfl (by omega), trivial⟩, (k - 1), rfl, rfl, (by rw [swap_b (show (((k : Nat) : Int) - 1).toNat + 1 = k by omega) hk e2 e1]), (by omega), (by rw [hb, bub_step (by omega) h7])⟩; omega
      refine VC.exit (VC.text ?_); refine VO.c (.move rfl) (VO.c (.add rfl rfl (by omega)) (VO.c (.assign rfl) ?_)); refine VO.nil ?_; refine ⟨_, [(0, .v y68 p), (3, .raw ww1), (4, I (((i + 1) : Nat) : Int))], ?_, ⟨rfl, rfl, rfl, trivial⟩, (i + 1), ww1, rfl, rfl, (by rw [shpL, paA_eq hlt, hb]; first | (rw [bub_end (.inl (by omega))]; done) | (rw [bub_end (.inr (by rw [curK_at hk, curK_at hk, if_neg (by omega), if_pos rfl, if_pos (by omega)] at c7; rwa [show (((k : Nat) : Int) - 1).toNat = k - 1 by omega] at c7))]; done)), (by omega)⟩; omega
    refine VD.skip (VD.skip (VD.nw [] (VD.skip ?_))); refine VD.skip (VD.skip (VD.skip (VD.skip ?_))); refine VD.skip (VD.skip (VD.nw [] (VD.skip ?_))); refine VD.c (.pickF rfl rfl) (VD.go ?_); refine VC.condF rfl ?_; refine VC.exit (VC.text ?_); refine VO.c (.move rfl) (VO.c (.add rfl rfl (by omega)) (VO.c (.assign rfl) ?_)); refine VO.nil ?_; refine ⟨_, [(0, .v y68 p), (3, .raw ww1), (4, I (((i + 1) : Nat) : Int))], ?_, ⟨rfl, rfl, rfl, trivial⟩, (i + 1), ww1, rfl, rfl, (by rw [shpL, paA_eq hlt, hb]; first | (rw [bub_end (.inl (by omega))]; done) | (rw [bub_end (.inr (by rw [curK_at hk, curK_at hk, if_neg (by omega), if_pos rfl, if_pos (by omega)] at c7; rwa [show (((k : Nat) : Int) - 1).toNat = k - 1 by omega] at c7))]; done)), (by omega)⟩; omega
  refine VC.exit (VC.seq (VC.text ?_)); refine VO.c (.move rfl) (VO.c (.assign rfl) (VO.go ?_)); refine VC.ret ?_; exact VEnd.one rfl (evC (.row m0)) (pvE (by rw [show i = p.length by omega]))
theorem last_take {p : List (Int × Int)} {i : Nat} (hi : i ≤ p.length) : (i = 0 → lastP p i = (-1, 0)) ∧ ∀ h : 0 < (p.take i).length, lastP p i = (p.take i)[(p.take i).length - 1] := by
  cases i with
  | zero => exact ⟨fun _ => rfl, fun h => by simp at h⟩
  | succ i =>
    refine ⟨fun h => (by omega), fun h => ?_⟩
    · show paA p i = _; rw [paA_eq (by omega), List.getElem_take]; congr 1; rw [List.length_take]; omega
def endP (q : List (Int × Int)) : Int × Int := lastP q q.length
theorem rFree_ok {l : List (ByteArray × Int × Int × Int × Int)} {turn : Int} {q : List (Int × Int)} {s : Int} (hl : l.length < 100000) (hq : q.length < 100000) (hs : 0 ≤ s ∧ s < ((l.length : Nat) : Int)) (hok : ShpOk l) (htu : 0 ≤ turn ∧ turn ≤ 1000) (hla : LastOk l (endP q)) (hnn : 0 < q.length → endP q ≠ (-1, 0)) : VF Tryz.prog OA 134 [.v y57 l, I turn, .v y68 q, I s] (I (freeF l turn (endP q) s.toNat)) := by
  refine VF.enter Tryz.func134 rfl (fun _ _ => rfl) rfl ?_; show VC _ _ _ _ _ [(0, .v y57 l), (1, I turn), (2, .v y68 q), (3, I s)] [] _; refine VC.seq (VC.text ?_); refine VO.c (.assign rfl) ?_; refine VO.go (VC.seq (VC.text ?_)); refine VO.c (.move rfl) (VO.c (.move rfl) (VO.c (.ixZ rfl rfl el57 hs.1 hs.2) (VO.c (.fa (.r (.l .o))) ?_))); refine VO.r (.ld vt3) ?_; refine VO.c (.assign rfl) ?_; refine VO.go (VC.seq (VC.seq (VC.text ?_))); refine VO.c (.move rfl) ?_; refine VO.r (.len el68) ?_; refine VO.c (.gtr) (VO.go ?_); refine VC.condD rfl (fun c2 => ?_) (fun c2 => ?_)
  · have hne : ¬ endP q = (-1, 0) := hnn (by omega)
    have hqe : endP q = q[q.length - 1]'(by omega) := by
      have := (last_take (p := q) (i := q.length) (Nat.le_refl _)).2 (by rw [List.length_take]; omega); rw [endP, this, List.getElem_take]; congr 1; rw [List.length_take]; omega
    have hqz : q[(((q.length : Nat) : Int) - 1).toNat]'(by omega) = endP q := by rw [hqe]; congr 1; omega
    have hl9 := free_last hla hne; rw [← hqz] at hl9; have hsa : shA l s.toNat = l[s.toNat]'(by omega) := shA_eq (by omega); have hlb : shA l (q[(((q.length : Nat) : Int) - 1).toNat]'(by omega)).1.toNat = l[(q[(((q.length : Nat) : Int) - 1).toNat]'(by omega)).1.toNat]'(by omega) := shA_eq (by omega); have hg := hok.lng (q[(((q.length : Nat) : Int) - 1).toNat]'(by omega)).1.toNat; rw [hlb] at hg; have ha := hok.arr s.toNat; rw [hsa] at ha
    have hf : freeF l turn (endP q) s.toNat = max ((q[(((q.length : Nat) : Int) - 1).toNat]'(by omega)).2 + (l[(q[(((q.length : Nat) : Int) - 1).toNat]'(by omega)).1.toNat]'(by omega)).2.2.1 + (if (l[(q[(((q.length : Nat) : Int) - 1).toNat]'(by omega)).1.toNat]'(by omega)).2.2.2.1 ≠ (l[s.toNat]'(by omega)).2.2.2.1 then turn else 0)) (l[s.toNat]'(by omega)).2.1 := by rw [freeF, if_neg hne, ← hqz, hlb, hsa]
    refine VC.seq (VC.text ?_); refine VO.c (.move rfl) (VO.c (.move rfl) ?_); refine VO.r (.len el68) ?_; refine VO.c (.sub rfl rfl (by omega)) (VO.c (.ixZ (k := (((q.length : Nat) : Int) - (1 : Int))) rfl rfl el68 (by omega) (by omega)) ?_); refine VO.r (.ld vt128) ?_; refine VO.cell (.alloc zt128) ?_; intro ww4; refine VO.setV (cs' := [I ((q[Int.toNat (((q.length : Nat) : Int) - (1 : Int))]).1), I ((q[Int.toNat (((q.length : Nat) : Int) - (1 : Int))]).2)]) vt128 .v ?_; refine VO.shut [(10, .p y128 (q[Int.toNat (((q.length : Nat) : Int) - (1 : Int))]))] (.cons rfl (.var m0 .refl) .nil) ?_; refine VO.go (VC.seq (VC.drawn ?_)); refine VD.c (.fa (.r .o)) ?_; refine VD.r [] (.ld vt3) (.inl rfl) ?_; refine VD.c (.move rfl) (VD.c (.fa (.l .o)) ?_); refine VD.r [] (.ld vt3) (.inl rfl) ?_; refine VD.c (.ixZ (k := (q[Int.toNat (((q.length : Nat) : Int) - (1 : Int))]).1) rfl rfl el57 (by omega) (by omega)) (VD.nw [] (VD.c (.fa (.r (.r (.l .o)))) ?_)); refine VD.r [] (.ld vt3) (.inl rfl) ?_; refine VD.c (.add rfl rfl (by omega)) (VD.c (.assign rfl) ?_); refine VD.go (VC.seq (VC.seq (VC.drawn ?_))); refine VD.c (.move rfl) (VD.c (.fa (.l .o)) ?_); refine VD.r [] (.ld vt3) (.inl rfl) ?_; refine VD.c (.ixZ (k := (q[Int.toNat (((q.length : Nat) : Int) - (1 : Int))]).1) rfl rfl el57 (by omega) (by omega)) (VD.c (.fa (.r (.r (.r (.l .o))))) ?_); refine VD.r [] (.ld vt3) (.inl rfl) ?_; refine VD.nw [] (VD.c (.move rfl) (VD.c (.move rfl) (VD.c (.ixZ (k := s) rfl rfl el57 (by omega) (by omega)) ?_))); refine VD.c (.fa (.r (.r (.r (.l .o))))) ?_; refine VD.r [] (.ld vt3) (.inl rfl) ?_; refine VD.c (.neq) (VD.go ?_); refine VC.condD rfl (fun c5 => ?_) (fun c5 => ?_)
    · refine VC.keep [(1, I turn), (9, I ((l[s.toNat]).2.1)), (11, I ((q[Int.toNat (((q.length : Nat) : Int) - (1 : Int))]).2 + (l[Int.toNat ((q[Int.toNat (((q.length : Nat) : Int) - (1 : Int))]).1)]).2.2.1))] ⟨rfl, rfl, rfl, trivial⟩ ?_; refine VC.text ?_; refine VO.c (.move rfl) (VO.c (.move rfl) (VO.c (.add rfl rfl (by omega)) (VO.c (.assign rfl) ?_))); refine VO.go (VC.text ?_); refine VO.c (.move rfl) (VO.c (.move rfl) (VO.c (.imax) (VO.c (.assign rfl) ?_))); refine VO.go (VC.seq (VC.text ?_)); refine VO.c (.move rfl) (VO.c (.assign rfl) (VO.go ?_)); refine VC.ret ?_; exact VEnd.one rfl evT (pvI (by rw [hf, if_pos c5]; omega))
    refine VC.skip ?_; refine VC.keep [(9, I ((l[s.toNat]).2.1)), (11, I ((q[Int.toNat (((q.length : Nat) : Int) - (1 : Int))]).2 + (l[Int.toNat ((q[Int.toNat (((q.length : Nat) : Int) - (1 : Int))]).1)]).2.2.1))] ⟨rfl, rfl, trivial⟩ ?_; refine VC.text ?_; refine VO.c (.move rfl) (VO.c (.move rfl) (VO.c (.imax) (VO.c (.assign rfl) ?_))); refine VO.go (VC.seq (VC.text ?_)); refine VO.c (.move rfl) (VO.c (.assign rfl) (VO.go ?_)); refine VC.ret ?_; exact VEnd.one rfl evT (pvI (by rw [hf, if_neg c5]; omega))
  refine VC.skip (VC.seq (VC.text ?_)); refine VO.c (.move rfl) (VO.c (.assign rfl) (VO.go ?_)); refine VC.ret ?_; exact VEnd.one rfl evT (pvI (by rw [freeF, if_pos (by have h0 : q.length = 0 := (by omega); rw [endP, h0]; rfl), shA_eq (by omega)]))
theorem endP_take {p : List (Int × Int)} {i : Nat} (h : i ≤ p.length) : endP (p.take i) = lastP p i := by
  have hl : (p.take i).length = i := by rw [List.length_take]; omega
  unfold endP; rw [hl]
  cases i with
  | zero => rfl
  | succ i =>
    show paA _ i = paA p i; unfold paA; rw [List.getD_eq_getElem?_getD, List.getD_eq_getElem?_getD, List.getElem?_take, if_pos (by omega)]
theorem last_ne {l : List Shp} (hok : ShpOk l) {turn clear : Int} {p : List (Int × Int)} (hc : clear ≤ 100000) {i : Nat} (h : ∀ j, j < i → pasE l turn clear p j = 0) (hi : 0 < i) : lastP p i ≠ (-1, 0) := by
  cases i with
  | zero => omega
  | succ i =>
    have := pas_ok hok hc (h i (by omega)); intro e; have h1 := this.1.1; have e2 : (paA p i).1 = -1 := congrArg Prod.fst e; omega
theorem pasX_9 {l : List Shp} {turn clear : Int} {y last : Int × Int} {t : Bool} (h : t = true) : pasX l turn clear y last t = 9 := by subst h; rfl
theorem pasX_11 {l : List Shp} {turn clear : Int} {y last : Int × Int} {t : Bool} (h : t = false) (h2 : y.2 < freeF l turn last y.1.toNat) : pasX l turn clear y last t = 11 := by
  subst h; unfold pasX; rw [decide_eq_true h2] <;> rfl
theorem pasX_21 {l : List Shp} {turn clear : Int} {y last : Int × Int} {t : Bool} (h : t = false) (h2 : ¬ y.2 < freeF l turn last y.1.toNat) (h3 : clear - (shA l y.1.toNat).2.2.1 < y.2) : pasX l turn clear y last t = 21 := by
  subst h; unfold pasX; rw [decide_eq_false h2, decide_eq_true h3] <;> rfl
theorem pasX_0 {l : List Shp} {turn clear : Int} {y last : Int × Int} {t : Bool} (h : t = false) (h2 : ¬ y.2 < freeF l turn last y.1.toNat) (h3 : ¬ clear - (shA l y.1.toNat).2.2.1 < y.2) : pasX l turn clear y last t = 0 := by
  subst h; unfold pasX; rw [decide_eq_false h2, decide_eq_false h3] <;> rfl
theorem rPassages_ok {l : List (ByteArray × Int × Int × Int × Int)} {turn : Int} {clear : Int} {p : List (Int × Int)} (hl : l.length < 100000) (hp : p.length < 1000) (hok : ShpOk l) (htu : 0 ≤ turn ∧ turn ≤ 1000) (hcl : 0 ≤ clear ∧ clear ≤ 100000) : VF Tryz.prog OA 66 [.v y57 l, I turn, I clear, .v y68 p] (I (passE l turn clear p)) := by
  refine VF.enter Tryz.func66 rfl (fun _ _ => rfl) rfl ?_; show VC _ _ _ _ _ [(0, .v y57 l), (1, I turn), (2, I clear), (3, .v y68 p)] [] _; refine VC.seq (VC.text ?_); refine VO.c (.assign rfl) ?_; refine VO.go (VC.seq (VC.seq (VC.text ?_))); refine VO.c (.assign rfl) ?_; refine VO.go (VC.block ?_); refine VC.keep [(0, .v y57 l), (1, I turn), (2, I clear), (3, .v y68 p), (9, I ((0 : Nat) : Int))] ⟨rfl, rfl, rfl, rfl, rfl, trivial⟩ ?_; refine VC.loop (I := fun kk ff ss => ∃ (i : Nat), kk = p.length - i ∧ ff = [(0, .v y57 l), (1, I turn), (2, I clear), (3, .v y68 p), (9, I ((i : Nat) : Int))] ∧ ss = [] ∧ (i ≤ p.length) ∧ (passE l turn clear p = firstR (pasE l turn clear p) i p.length) ∧ (∀ j, j < i → pasE l turn clear p j = 0)) ?_ _ _ _ ⟨0, rfl, rfl, rfl, Nat.zero_le _, (by rfl), (by intro j hj; omega)⟩; rintro kk ff ss ⟨i, hk0, rfl, rfl, hi, hw, hq⟩; refine VC.seq (VC.seq (VC.text ?_)); refine VO.c (.move rfl) (VO.c (.move rfl) ?_); refine VO.r (.len el68) ?_; refine VO.c (.lss) (VO.go ?_); refine VC.condD rfl (fun c2 => ?_) (fun c2 => ?_)
  · have hlt : i < p.length := by omega
    have hlo := last_ok hok hcl.2 hq; have het := endP_take (p := p) (i := i) (by omega)
    have htl : (p.take i).length = i := by rw [List.length_take]; omega
    have hth := shpL_has (p := p) (x := p[i].1) (i := i) (by omega); refine VC.skip (VC.seq (VC.block (VC.seq (VC.seq (VC.text ?_))))); refine VO.c (.move rfl) (VO.c (.move rfl) (VO.c (.ix (j := i) rfl rfl el68 (by omega)) (VO.c (.fa (.l .o)) ?_))); refine VO.r (.ld vt3) ?_; refine VO.c (.lss) (VO.c (.move rfl) ?_); refine VO.cg (r := decide ((p[i]).1 < (0 : Int))) (w := false) [] trivial (fun _ => (.move rfl)) ?_; refine VO.cg (r := decide ((p[i]).1 < (0 : Int))) (w := false) [] trivial (fun _ => (.move rfl)) ?_; refine VO.cg (r := decide ((p[i]).1 < (0 : Int))) (w := false) [(23, .v y68 p), (24, I ((i : Nat) : Int))] ⟨rfl, rfl, trivial⟩ (fun hgd => have g4_6 : ¬ ((p[i]).1 < (0 : Int)) := (by simpa using hgd); (.ixD (j := i) rfl rfl (0, 0) el68 (by omega))) ?_; refine VO.cg (r := decide ((p[i]).1 < (0 : Int))) (w := false) [(25, .p y128 (p.getD i (0, 0)))] ⟨rfl, trivial⟩ (fun _ => (.fa (.l .o))) ?_; refine VO.rg (r := decide ((p[i]).1 < (0 : Int))) (w := false) [(26, .p (.int .i64) ((p.getD i (0, 0)).1))] ⟨rfl, trivial⟩ (fun _ => (.ld vt3)) ?_; refine VO.cg (r := decide ((p[i]).1 < (0 : Int))) (w := false) [] trivial (fun _ => (.move rfl)) ?_; refine VO.rg (r := decide ((p[i]).1 < (0 : Int))) (w := false) [(28, .v y57 l)] ⟨rfl, trivial⟩ (fun _ => (.len el57)) ?_; refine VO.cg (r := decide ((p[i]).1 < (0 : Int))) (w := false) [(27, I ((p.getD i (0, 0)).1)), (29, I ((l.length : Nat) : Int))] ⟨rfl, rfl, trivial⟩ (fun _ => (.geq)) ?_; refine VO.c (.or) (VO.go ?_); refine VC.condB rfl (fun c4 => ?_) (fun c4 => ?_)
    · try simp only [Bool.and_eq_true, Bool.or_eq_true, Bool.and_eq_false_iff, Bool.or_eq_false_iff, Bool.not_eq_true', Bool.not_eq_false', decide_eq_true_eq, decide_eq_false_iff_not] at c4
      rw [getDg hlt] at c4; refine VC.seq (VC.text ?_); refine VO.c (.assign rfl) (VO.go ?_); refine VC.ret ?_; exact VEnd.one rfl evT (pvI (by rw [pass_r hw hlt (by rw [pas_u hlt c4]; decide), pas_u hlt c4]))
    try simp only [Bool.and_eq_true, Bool.or_eq_true, Bool.and_eq_false_iff, Bool.or_eq_false_iff, Bool.not_eq_true', Bool.not_eq_false', decide_eq_true_eq, decide_eq_false_iff_not] at c4
    rw [getDg hlt] at c4; have hx := pas_x (l := l) (turn := turn) (clear := clear) hlt (by omega); have hga := hok.lng (p[i].1).toNat; have hsa : shA l (p[i].1).toNat = l[(p[i].1).toNat]'(by omega) := shA_eq (by omega); rw [hsa] at hga
    have hhs : (shpL (p.take ((i : Nat) : Int).toNat) (p.take ((i : Nat) : Int).toNat).length).contains p[i].1 = twiP p i p[i].1 := by
      show (shpL (p.take i) (p.take i).length).contains p[i].1 = _; rw [htl, shpL_take i (Nat.le_refl _)]; exact hth
    have hff : freeF l turn (endP (p.take ((i : Nat) : Int).toNat)) (p[i].1).toNat = freeF l turn (lastP p i) (p[i].1).toNat := by
      show freeF l turn (endP (p.take i)) _ = _; rw [het]
    refine VC.skip (VC.seq (VC.seq (VC.drawn ?_))); refine VD.c (.move rfl) (VD.c (.move rfl) ?_); refine VD.r [] (.cutH rfl rfl el68 (by omega)) (.inl rfl) ?_; refine VD.call rfl rfl (VF.call (rShipsOf_ok (by rw [List.length_take]; omega))) ?_; refine VD.c (.move rfl) (VD.c (.move rfl) (VD.nw [35] (VD.c (.ix (j := i) rfl rfl el68 (by omega)) ?_))); refine VD.c (.fa (.l .o)) ?_; refine VD.r [] (.ld vt3) (.inl rfl) ?_; refine VD.callO rfl rfl (VF.call (rHasInt_ok (by have h := shpL_len (p := p.take ((i : Nat) : Int).toNat) (p.take ((i : Nat) : Int).toNat).length; rw [h, List.length_take]; omega))) ?_; refine VD.go ?_; refine VC.condB rfl (fun c6 => ?_) (fun c6 => ?_)
    · have h9 := pasX_9 (l := l) (turn := turn) (clear := clear) (y := p[i]) (last := lastP p i) (hhs.symm.trans c6); refine VC.seq (VC.text ?_); refine VO.c (.assign rfl) (VO.go ?_); refine VC.ret ?_; exact VEnd.one rfl evT (pvI (by rw [pass_r hw hlt (by rw [hx, h9]; decide), hx, h9]))
    have htf := hhs.symm.trans c6; refine VC.skip (VC.seq (VC.seq (VC.drawn ?_))); refine VD.c (.move rfl) (VD.c (.move rfl) (VD.c (.ix (j := i) rfl rfl el68 (by omega)) (VD.c (.fa (.r .o)) ?_))); refine VD.r [] (.ld vt3) (.inl rfl) ?_; refine VD.c (.move rfl) (VD.nw [] (VD.c (.move rfl) (VD.c (.move rfl) ?_))); refine VD.c (.move rfl) ?_; refine VD.r [] (.cutH rfl rfl el68 (by omega)) (.inl rfl) ?_; refine VD.c (.move rfl) (VD.c (.move rfl) (VD.c (.ix (j := i) rfl rfl el68 (by omega)) (VD.nw [] ?_))); refine VD.c (.fa (.l .o)) ?_; refine VD.r [] (.ld vt3) (.inl rfl) ?_; refine VD.call rfl rfl (VF.call (rFree_ok hl (by rw [List.length_take]; omega) ⟨by omega, by omega⟩ hok htu (by show LastOk l (endP (p.take i)); rw [het]; exact hlo) (fun h => by show endP (p.take i) ≠ _; rw [het]; exact last_ne hok hcl.2 hq (by have h : 0 < (p.take i).length := h; omega)))) ?_; refine VD.c (.lss) (VD.go ?_); refine VC.condD rfl (fun c8 => ?_) (fun c8 => ?_)
    · rw [hff] at c8; have h11 := pasX_11 (clear := clear) htf c8; refine VC.seq ?_; refine VC.keep [(0, .v y57 l), (1, I turn), (2, I clear), (3, .v y68 p), (9, I ((i : Nat) : Int))] ⟨rfl, rfl, rfl, rfl, rfl, trivial⟩ ?_; refine VC.text ?_; refine VO.c (.assign rfl) (VO.go ?_); refine VC.ret ?_; exact VEnd.one rfl evT (pvI (by rw [pass_r hw hlt (by rw [hx, h11]; decide), hx, h11]))
    rw [hff] at c8; refine VC.skip (VC.seq ?_); refine VC.keep [(0, .v y57 l), (1, I turn), (2, I clear), (3, .v y68 p), (9, I ((i : Nat) : Int))] ⟨rfl, rfl, rfl, rfl, rfl, trivial⟩ ?_; refine VC.drawn ?_; refine VD.c (.move rfl) (VD.c (.move rfl) (VD.c (.ix (j := i) rfl rfl el68 (by omega)) (VD.c (.fa (.r .o)) ?_))); refine VD.r [] (.ld vt3) (.inl rfl) ?_; refine VD.c (.move rfl) (VD.nw [] (VD.c (.move rfl) (VD.c (.move rfl) ?_))); refine VD.c (.move rfl) (VD.c (.ix (j := i) rfl rfl el68 (by omega)) (VD.c (.fa (.l .o)) ?_)); refine VD.r [] (.ld vt3) (.inl rfl) ?_; refine VD.c (.ixZ (k := (p[i]).1) rfl rfl el57 (by omega) (by omega)) (VD.nw [] (VD.c (.fa (.r (.r (.l .o)))) ?_)); refine VD.r [] (.ld vt3) (.inl rfl) ?_; refine VD.c (.sub rfl rfl (by omega)) (VD.c (.gtr) (VD.go ?_)); refine VC.condD rfl (fun c10 => ?_) (fun c10 => ?_)
    · have h21 := pasX_21 htf c8 (by rw [hsa]; exact c10); refine VC.seq (VC.text ?_); refine VO.c (.assign rfl) (VO.go ?_); refine VC.ret ?_; exact VEnd.one rfl evT (pvI (by rw [pass_r hw hlt (by rw [hx, h21]; decide), hx, h21]))
    have hz : pasE l turn clear p i = 0 := by rw [hx]; exact pasX_0 htf c8 (by rw [hsa]; exact c10)
    refine VC.skip (VC.text ?_); refine VO.c (.move rfl) (VO.c (.add rfl rfl (by omega)) (VO.c (.assign rfl) ?_)); refine VO.nil ?_; refine ⟨_, [(0, .v y57 l), (1, I turn), (2, I clear), (3, .v y68 p), (9, I (((i + 1) : Nat) : Int))], ?_, ⟨rfl, rfl, rfl, rfl, rfl, trivial⟩, (i + 1), rfl, rfl, rfl, (by omega), (by rw [hw, firstR_step hlt, if_pos hz]), (by intro j hj; rcases Nat.lt_succ_iff_lt_or_eq.1 hj with h | h; exact hq j h; subst h; exact hz)⟩; omega
  refine VC.exit (VC.seq (VC.text ?_)); refine VO.c (.assign rfl) (VO.go ?_); refine VC.ret ?_; exact VEnd.one rfl evT (pvI (by rw [hw, firstR_end (by omega)]))
theorem rPrio_ok {l : List (ByteArray × Int × Int × Int × Int)} {p : List (Int × Int)} (hp : p.length < 1000) (hok : ShpOk l) (hr : ∀ i, i < p.length → 0 ≤ (paA p i).1 ∧ (paA p i).1 < ((l.length : Nat) : Int)) : VF Tryz.prog OA 67 [.v y57 l, .v y68 p] (I (sumP l p p.length)) := by
  refine VF.enter Tryz.func67 rfl (fun _ _ => rfl) rfl ?_; show VC _ _ _ _ _ [(0, .v y57 l), (1, .v y68 p)] [] _; refine VC.seq (VC.text ?_); refine VO.c (.assign rfl) ?_; refine VO.go (VC.seq (VC.text ?_)); refine VO.c (.assign rfl) ?_; refine VO.go (VC.seq (VC.seq (VC.text ?_))); refine VO.c (.assign rfl) ?_; refine VO.go (VC.block ?_); refine VC.keep [(0, .v y57 l), (1, .v y68 p), (5, I (sumP l p 0)), (6, I ((0 : Nat) : Int))] ⟨rfl, rfl, rfl, rfl, trivial⟩ ?_; refine VC.loop (I := fun kk ff ss => ∃ (i : Nat), kk = p.length - i ∧ ff = [(0, .v y57 l), (1, .v y68 p), (5, I (sumP l p i)), (6, I ((i : Nat) : Int))] ∧ ss = [] ∧ (i ≤ p.length)) ?_ _ _ _ ⟨0, rfl, rfl, rfl, Nat.zero_le _⟩; rintro kk ff ss ⟨i, hk0, rfl, rfl, hi⟩; refine VC.seq (VC.seq (VC.text ?_)); refine VO.c (.move rfl) (VO.c (.move rfl) ?_); refine VO.r (.len el68) ?_; refine VO.c (.lss) (VO.go ?_); refine VC.condD rfl (fun c3 => ?_) (fun c3 => ?_)
  · have hlt : i < p.length := by omega
    have hri := hr i hlt; rw [paA_eq hlt] at hri; have hsb := sumP_b hok (p := p) i; have hpr := hok.pri (p[i].1).toNat; rw [shA_eq (by omega)] at hpr; refine VC.skip (VC.seq (VC.block (VC.text ?_))); refine VO.c (.move rfl) (VO.c (.move rfl) (VO.c (.move rfl) (VO.c (.move rfl) ?_))); refine VO.c (.ix (j := i) rfl rfl el68 (by omega)) (VO.c (.fa (.l .o)) ?_); refine VO.r (.ld vt3) ?_; refine VO.c (.ixZ (k := (p[i]).1) rfl rfl el57 (by omega) (by omega)) (VO.c (.fa (.r (.r (.r (.r .o))))) ?_); refine VO.r (.ld vt3) ?_; refine VO.c (.add rfl rfl (by omega)) (VO.c (.assign rfl) ?_); refine VO.nil (VC.text ?_); refine VO.c (.move rfl) (VO.c (.add rfl rfl (by omega)) (VO.c (.assign rfl) ?_)); refine VO.nil ?_; refine ⟨_, [(0, .v y57 l), (1, .v y68 p), (5, I (sumP l p (i + 1))), (6, I (((i + 1) : Nat) : Int))], ?_, ⟨rfl, rfl, slI rfl (by rw [sumP, paA_eq hlt, shA_eq (by omega)]), rfl, trivial⟩, (i + 1), rfl, rfl, rfl, (by omega)⟩; omega
  refine VC.exit (VC.seq (VC.text ?_)); refine VO.c (.move rfl) (VO.c (.assign rfl) (VO.go ?_)); refine VC.ret ?_; exact VEnd.one rfl evT (pvI (by rw [show i = p.length by omega]))
end Go.Proofs
namespace Go.Proofs
open Go.Fs
set_option maxHeartbeats 1000000
theorem num_self {e x : Int} : numB (if e = 0 then x else 0) e e (if e = 0 then x else 0) = true := by
  unfold numB; by_cases h : e = 0 <;> simp [h]
end Go.Proofs
namespace Go.Proofs
open Go.Fs
set_option maxHeartbeats 1000000
theorem shortS_t {l : List Shp} (h : shortS l = true) : l.length ≤ 9 := by have := (of_decide_eq_true h : (∀ x ∈ l, x.1.size ≤ 40) ∧ (l.length ≤ 5 ∨ l.length = 9)).2; omega
theorem nest_first {a b c : Int} : firstE [a, firstE [b, c]] = firstE [a, b, c] := by
  unfold firstE; by_cases h : a = 0
  · rw [if_pos h, if_pos h]; by_cases h2 : b = 0
    · by_cases h3 : c = 0 <;> simp [firstE, h2, h3]
    simp [firstE, h2]
  rw [if_neg h, if_neg h]
theorem bad_t {l : List Shp} {turn clear : Int} {p : List (Int × Int)} (h : firstE [shpsE l, firstE [rangeE turn 0 1000, rangeE clear 0 100000]] = 0) : passE l turn clear p = passR l turn clear p := by
  rw [nest_first] at h; rw [passR, lockE, if_pos h]
theorem bad_f {l : List Shp} {turn clear : Int} {p : List (Int × Int)} (h : ¬ firstE [shpsE l, firstE [rangeE turn 0 1000, rangeE clear 0 100000]] = 0) : firstE [shpsE l, firstE [rangeE turn 0 1000, rangeE clear 0 100000]] = passR l turn clear p := by
  rw [nest_first] at h ⊢; rw [passR, lockE, if_neg h]
theorem passR_z {l : List Shp} {turn clear : Int} {p : List (Int × Int)} (h : passR l turn clear p = 0) : lockE l turn clear = 0 ∧ passE l turn clear p = 0 := by
  unfold passR at h; by_cases h1 : lockE l turn clear = 0
  · rw [if_pos h1] at h; exact ⟨h1, h⟩
  rw [if_neg h1] at h; exact absurd h h1
theorem lawPassages_ok {l : List (ByteArray × Int × Int × Int × Int)} {a : Int × Int} {p : List (Int × Int)} (hl : l.length ≤ 9223372036854775807) (hpl : p.length ≤ 9223372036854775807) : VF Tryz.prog OA 10 [.v y57 l, .v y49 a, .v y68 p] (B true) := by
  refine VF.enter Tryz.func10 rfl (fun _ _ => rfl) rfl ?_; show VC _ _ _ _ _ [(0, .v y57 l), (1, .v y49 a), (2, .v y68 p)] [] _; refine VC.seq (VC.text ?_); refine VO.new (.box) ?_; refine VO.c (.assign rfl) ?_; refine VO.go (VC.seq (VC.seq (VC.text ?_))); refine VO.call rfl rfl (VF.call (awake_ok )) ?_; refine VO.c (.not) (VO.c (.move rfl) (VO.c (.move rfl) ?_)); refine VO.call rfl rfl (VF.call (rShortS_ok hl)) ?_; refine VO.c (.not) (VO.c (.pickF rfl rfl) (VO.c (.move rfl) ?_)); refine VO.cg (r := (!(shortS l))) (w := false) [] trivial (fun _ => (.move rfl)) ?_; refine VO.rg (r := (!(shortS l))) (w := false) [(19, .v y68 p)] ⟨rfl, trivial⟩ (fun _ => (.len el68)) ?_; refine VO.cg (r := (!(shortS l))) (w := false) [(20, I ((p.length : Nat) : Int))] ⟨rfl, trivial⟩ (fun _ => (.gtr)) ?_; refine VO.c (.or) (VO.go ?_); refine VC.condB rfl (fun c1 => ?_) (fun c1 => ?_)
  · try simp only [Bool.and_eq_true, Bool.or_eq_true, Bool.and_eq_false_iff, Bool.or_eq_false_iff, Bool.not_eq_true', Bool.not_eq_false', decide_eq_true_eq, decide_eq_false_iff_not] at c1
    refine VC.seq (VC.text ?_); refine VO.call rfl rfl (VF.call (awake_ok )) ?_; refine VO.c (.assign rfl) (VO.go ?_); refine VC.ret ?_; exact VEnd.one rfl evT (pvE (by rfl))
  try simp only [Bool.and_eq_true, Bool.or_eq_true, Bool.and_eq_false_iff, Bool.or_eq_false_iff, Bool.not_eq_true', Bool.not_eq_false', decide_eq_true_eq, decide_eq_false_iff_not] at c1
  have hs := shortS_t (by simp at c1; exact c1.1)
  have hp10 : p.length ≤ 10 := by simp at c1; omega
  refine VC.skip (VC.seq (VC.drawn ?_)); refine VD.c (.move rfl) ?_; refine VD.call rfl rfl (VF.call (lShips_ok (by omega))) ?_; refine VD.c (.ixP 0 (.l .o)) ?_; refine VD.r [] (.ld vt3) (.inl rfl) ?_; refine VD.c (.ixP 1 (.r .o)) ?_; refine VD.r [] (.ld vt3) (.inl rfl) ?_; refine VD.nw [26] (VD.c (.move rfl) ?_); refine VD.call rfl rfl (VF.call (lPass_ok (by omega))) ?_; refine VD.callO rfl rfl (VF.call (cPassages_ok (by omega) (by omega))) ?_; refine VD.c (.move rfl) (VD.c (.extract) (VD.c (.extract) (VD.c (.assign rfl) ?_))); refine VD.nw [32, 26] (VD.c (.assign rfl) ?_); refine VD.go (VC.seq (VC.drawn ?_)); refine VD.c (.move rfl) ?_; refine VD.call rfl rfl (VF.call (rShips_ok (by omega))) ?_; refine VD.c (.ixP 0 (.l .o)) ?_; refine VD.r [] (.ld vt3) (.inl rfl) ?_; refine VD.c (.ixP 1 (.r .o)) ?_; refine VD.r [] (.ld vt3) (.inl rfl) ?_; refine VD.nw [] ?_; refine VD.call rfl rfl (VF.call (rTurn_ok )) ?_; refine VD.new (.lit [shpsE l, firstE [rangeE a.1 0 1000, rangeE a.2 0 100000]] el25) ?_; refine VD.callO rfl rfl (VF.call (lFirst_ok (by simp))) ?_; refine VD.c (.assign rfl) ?_; refine VD.go (VC.seq (VC.seq ?_)); refine VC.keep [(0, .v y57 l), (2, .v y68 p), (4, .p y49 a), (7, I (if passR l a.1 a.2 p = 0 then sumP l p p.length else 0)), (8, I (passR l a.1 a.2 p)), (9, I (firstE [shpsE l, firstE [rangeE a.1 0 1000, rangeE a.2 0 100000]]))] ⟨rfl, rfl, rfl, rfl, rfl, rfl, trivial⟩ ?_; refine VC.text ?_; refine VO.c (.move rfl) (VO.c (.eql) (VO.go ?_)); refine VC.join [(0, .v y57 l), (2, .v y68 p), (7, I (if passR l a.1 a.2 p = 0 then sumP l p p.length else 0)), (8, I (passR l a.1 a.2 p)), (9, I (passR l a.1 a.2 p))] [] ?_ ?_; refine VC.condD rfl (fun c5 => ?_) (fun c5 => ?_)
  · have hL : lockE l a.1 a.2 = 0 := by rw [lockE, ← nest_first]; exact c5
    have hO := lock_ok hL; refine VC.text ?_; refine VO.c (.move rfl) (VO.c (.ixP 0 (.l .o)) ?_); refine VO.r (.ld vt3) ?_; refine VO.c (.ixP 1 (.r .o)) ?_; refine VO.r (.ld vt3) ?_; refine VO.c (.move rfl) ?_; refine VO.call rfl rfl (VF.call (rPassages_ok (by omega) (by omega) hO.1 hO.2.1 hO.2.2)) ?_; refine VO.c (.assign rfl) ?_; refine VO.nil ?_; exact ⟨⟨rfl, rfl, rfl, rfl, slI rfl (by first | exact bad_t c5 | exact bad_f c5), trivial⟩, rfl⟩
  · refine VC.skip ?_; exact ⟨⟨rfl, rfl, rfl, rfl, slI rfl (by first | exact bad_t c5 | exact bad_f c5), trivial⟩, rfl⟩
  refine VC.seq (VC.text ?_); refine VO.c (.assign rfl) ?_; refine VO.go (VC.seq (VC.seq (VC.text ?_))); refine VO.c (.move rfl) (VO.c (.eql) (VO.go ?_)); refine VC.join [(7, I (if passR l a.1 a.2 p = 0 then sumP l p p.length else 0)), (8, I (passR l a.1 a.2 p)), (9, I (passR l a.1 a.2 p)), (10, I (if passR l a.1 a.2 p = 0 then sumP l p p.length else 0))] [] ?_ ?_; refine VC.condD rfl (fun c8 => ?_) (fun c8 => ?_)
  · have hz := passR_z c8; have hO := lock_ok hz.1; have hq := firstR_zero.1 hz.2; refine VC.text ?_; refine VO.c (.move rfl) (VO.c (.move rfl) ?_); refine VO.call rfl rfl (VF.call (rPrio_ok (by omega) hO.1 (fun i hi => (pas_ok hO.1 hO.2.2.2 (hq i hi)).1))) ?_; refine VO.c (.assign rfl) ?_; refine VO.nil ?_; exact ⟨⟨rfl, rfl, rfl, slI rfl (by first | (rw [if_pos c8]; done) | (rw [if_neg c8]; done)), trivial⟩, rfl⟩
  · refine VC.skip ?_; exact ⟨⟨rfl, rfl, rfl, slI rfl (by first | (rw [if_pos c8]; done) | (rw [if_neg c8]; done)), trivial⟩, rfl⟩
  refine VC.seq (VC.text ?_); refine VO.c (.move rfl) (VO.c (.move rfl) (VO.c (.move rfl) (VO.c (.move rfl) ?_))); refine VO.call rfl rfl (VF.call (lNum_ok )) ?_; refine VO.c (.assign rfl) (VO.go ?_); refine VC.ret ?_; exact VEnd.one rfl evT (pvE (by simp [num_self]))
end Go.Proofs
