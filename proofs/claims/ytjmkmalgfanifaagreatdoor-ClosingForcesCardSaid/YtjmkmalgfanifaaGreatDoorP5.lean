/- Parts of the proof: an evaluator of the model, what it is sound for, and contracts of functions. No condition. -/
import Derived.Test.YtjmkmalgfanifaaGreatDoorP2
import Derived.Test.YtjmkmalgfanifaaGreatDoorP4
import Derived.Scope
import Derived.Lib.ItoaNum
import Derived.Lib.Join
import Derived.Sort.OwnSorted
import Derived.Test.YtjmkmalgfanifaaGreatDoorChecked
import Derived.ChangeArms
import Derived.Carry
import Derived.RowKit
import Derived.OpenShut
set_option linter.all false
namespace Go
variable {P : Program}
theorem stepR_scopeFs {b : Frame} {a : Act} {k : List Item} {cs : List Frame} {w : World} {c : Code} : step P (lone (b.atR a (.code (.scope c) :: k)) cs w) = .next (lone (b.atR a (.code c :: .inScope c :: k)) cs w) :=
  step_lone_go (by simp [stepG, stepG.exec, Frame.atR])
theorem stepR_inScopeFs {b : Frame} {a : Act} {k : List Item} {cs : List Frame} {w : World} {c : Code} : step P (lone (b.atR a (.inScope c :: k)) cs w) = .next (lone (b.atR a k) cs w) :=
  step_lone_go (by simp [stepG, stepG.exec, Frame.atR])
theorem wpIn_scopeFs {F : Fence} {n : Nat} {Q : Exit → Act → World → Prop} {a : Act} {w : World} {c : Code} (h : c.wpIn F n P (Exit.noGoto Q) a w) : (Code.scope c).wpIn F n P Q a w := by
  intro b k cs hro hb hr; have h0 : (lone (b.atR a (.code (.scope c) :: k)) cs w).fenced P F := fenced_calm hb hr rfl; obtain ⟨e, a₁, w₁, hq, harr⟩ := h b (.inScope c :: k) cs hro hb hr
  cases e with
  | normal => exact ⟨.normal, a₁, w₁, hq, .head h0 stepR_scopeFs (StepsIn.trans harr (.one (fenced_calm hb hr rfl) stepR_inScopeFs))⟩
  | exit id =>
    have hx : exitTo id (.inScope c :: k) = exitTo id k := by simp [exitTo]
    exact ⟨.exit id, a₁, w₁, hq, fun k' hk => .head h0 stepR_scopeFs (harr.1 k' (by rw [hx]; exact hk)),
      fun hr' hk => let ⟨k₁, h1, h2⟩ := harr.2 hr' (by rw [hx]; exact hk); ⟨k₁, h1, .head h0 stepR_scopeFs h2⟩⟩
  | goto l => exact hq.elim
  | ret => exact ⟨_, a₁, w₁, hq, .of_steps (.one h0 stepR_scopeFs) harr⟩
  | panic ch => exact ⟨_, a₁, w₁, hq, .of_steps (.one h0 stepR_scopeFs) harr⟩
  | outgrown => exact ⟨_, a₁, w₁, hq, .of_steps (.one h0 stepR_scopeFs) harr⟩
end Go
namespace Go.Fs
open Go.RowKit (Below)
variable {P : Program} {ρ ρ' : Ren} {S S' : Nat → Prop} {B : Nat} {w0 w w' w1 w2 : World} {h h' h1 h2 : Heap}
theorem call_sound (hP : ProgOk P) {orc : FuncId → List Value → Heap → Option (Value × Heap)} (horc : CallSound P B w0 orc) {m : Nat} {rec : Rec} (hrec : SoundR P B w0 m rec) : CallSnd P B w0 (callOf P orc rec) := by
  intro f args h v h' hf; unfold callOf at hf; split at hf
  · rename_i r hr; simp only [Option.some.injEq] at hf; subst hf; exact .inl (horc _ _ _ _ _ hr)
  split at hf
  · rename_i r hr; simp only [Option.some.injEq] at hf; subst hf; refine .inr fun ρ S w args' hr2 ha => ?_; unfold fsExt at hr; split at hr
    · rename_i fn hfn; obtain ⟨hb, hr3⟩ := bif_some hr; obtain ⟨hb1, hb2⟩ := band hb; split at hr3
      · rename_i e h1 h2; obtain ⟨haf, hr4⟩ := bif_some hr3; obtain ⟨hp, rfl⟩ := map_pair hr4; obtain ⟨h3, h4⟩ := purely_ok hp w; have he : args' = args := ha.eq_of_af haf; subst he; refine ⟨w, v, ?_, ρ, Moved.same hr2, .of_af h4⟩; unfold callFunc
        have hb2' : (fn.name == "runtime.NumGoroutine") = false := by simpa using hb2
        simp only [Sem.run_bind, run_program, Result.andThen_ok, hfn, hb1, hb2', Bool.false_eq_true, if_false, if_true, h1, h2]; have hm : (mark (Mark.extern f)).run P w = .ok () w := rfl; rw [hm]; simp only [Result.andThen_ok, h3, Sem.run_pure]
      cases hr3
    cases hr
  exact .inl (enter_sound hP hrec _ _ _ _ _ hf)
theorem Post.same {fr : Fr} {a : Act} (hr : HR P ρ S B w0 h w) (ht : TrR ρ S fr.t fr.n a.tmps) (hm : MarksR ρ S fr.marks a.defers) : Post P B w0 ρ ρ S h w fr h w a :=
  ⟨Moved.same hr, ht.mono fun _ hb => ⟨.inl hb, rfl⟩, hm.mono fun _ hb => ⟨.inl hb, rfl⟩⟩
theorem step_sound (hP : ProgOk P) {orc : FuncId → List Value → Heap → Option (Value × Heap)} (horc : CallSound P B w0 orc) {m : Nat} {rec : Rec} (hrec : SoundR P B w0 m rec) : SoundR P B w0 (m + 1) (fsStep P orc rec) := by
  intro rnd c fr h e fr' h' hok hf ρ S w a nn Q hr ht hm hs k; have hcs : CallSnd P B w0 (callOf P orc rec) := call_sound hP horc hrec; have hys : YieldSound P B w0 (fsYield rec) := yield_sound hrec
  cases c with
  | skip =>
    simp only [fsStep, Option.some.injEq, Prod.mk.injEq] at hf; obtain ⟨rfl, rfl, rfl⟩ := hf
    exact wpIn_skip (k _ _ _ (Post.same hr ht hm))
  | label l =>
    simp only [fsStep, Option.some.injEq, Prod.mk.injEq] at hf; obtain ⟨rfl, rfl, rfl⟩ := hf
    exact wpIn_label (k _ _ _ (Post.same hr ht hm))
  | exit id =>
    simp only [fsStep, Option.some.injEq, Prod.mk.injEq] at hf; obtain ⟨rfl, rfl, rfl⟩ := hf
    exact wpIn_exit (k _ _ _ (Post.same hr ht hm))
  | ret =>
    simp only [fsStep, Option.some.injEq, Prod.mk.injEq] at hf; obtain ⟨rfl, rfl, rfl⟩ := hf
    exact wpIn_ret (k _ _ _ (Post.same hr ht hm))
  | goto l => simp only [fsStep] at hf; cases hf
  | refuse l => simp only [fsStep] at hf; cases hf
  | scope b =>
    simp only [fsStep] at hf; refine wpIn_scopeFs ?_; refine (hrec rnd b fr h e fr' h' hok hf ρ S w a nn _ hr ht hm hs fun ρ1 w1 a1 p1 => ?_).wpIn; have hq := k _ _ _ p1
    cases e with
    | normal => exact hq
    | exit id => exact hq
    | ret => exact hq
  | seq x y =>
    simp only [fsStep] at hf; obtain ⟨ok1, ok2⟩ := band (show (codeOk x && codeOk y) = true from hok); refine wpIn_seq ?_; split at hf
    · rename_i fr1 h1 hrun; refine (hrec rnd x fr h _ fr1 h1 ok1 hrun ρ S w a nn _ hr ht hm hs fun ρ1 w1 a1 p1 => ?_).wpIn; show y.wpIn (rndF ρ rnd) nn P Q a1 w1; rw [← rndF_eq hs p1.moved.agree]; exact (hrec rnd y fr1 h1 e fr' h' ok2 hf ρ1 _ w1 a1 nn Q p1.moved.hr p1.tmps p1.marks (fun l hl => .inl (hs l hl)) fun ρ2 w2 a2 p2 => k _ _ _ (Post.trans (fr1 := fr1) (a1 := a1) p1.moved p2)).wpIn
    rename_i hne; refine (hrec rnd x fr h e fr' h' ok1 hf ρ S w a nn _ hr ht hm hs fun ρ1 w1 a1 p1 => ?_).wpIn; have hq := k _ _ _ p1
    cases e with
    | normal => exact (hne _ _ hf).elim
    | exit id => exact hq
    | ret => exact hq
  | cond x y z =>
    simp only [fsStep] at hf; obtain ⟨ok1, ok2⟩ := band (show (codeOk y && codeOk z) = true from hok); have hev := ht.eval a.defers x; split at hf
    · rename_i hx; rw [hx] at hev; exact wpIn_cond_true hev.bool_inv (hrec rnd y fr h e fr' h' ok1 hf ρ S w a nn Q hr ht hm hs k).wpIn
    · rename_i hx; rw [hx] at hev; exact wpIn_cond_false hev.bool_inv (hrec rnd z fr h e fr' h' ok2 hf ρ S w a nn Q hr ht hm hs k).wpIn
    cases hf
  | block id b =>
    simp only [fsStep] at hf; refine wpIn_block ?_; split at hf
    · rename_i id' fr1 h1 hrun; refine (hrec rnd b fr h _ fr1 h1 hok hrun ρ S w a nn _ hr ht hm hs fun ρ1 w1 a1 p1 => ?_).wpIn
      cases hb : Nat.beq id' id with
      | true =>
        rw [hb] at hf; simp only [cond_true, Option.some.injEq, Prod.mk.injEq] at hf; obtain ⟨rfl, rfl, rfl⟩ := hf; have := k _ _ _ p1; simp only [exOf, Exit.inBlock, nbeq hb, if_true]
        exact this
      | false =>
        rw [hb] at hf; simp only [cond_false, Option.some.injEq, Prod.mk.injEq] at hf; obtain ⟨rfl, rfl, rfl⟩ := hf; have := k _ _ _ p1; simp only [exOf, Exit.inBlock, if_neg (ne_of_no hb)]; exact this
    rename_i hne; refine (hrec rnd b fr h e fr' h' hok hf ρ S w a nn _ hr ht hm hs fun ρ1 w1 a1 p1 => ?_).wpIn; have hq := k _ _ _ p1
    cases e with
    | normal => exact hq
    | exit id' => exact (hne _ _ _ hf).elim
    | ret => exact hq
  | loop b =>
    simp only [fsStep] at hf; show Code.roundsIn (rndF ρ rnd) nn P b Q (m + 1) a w; rw [roundsIn_succ]; split at hf
    · rename_i fr1 h1 hrun; refine (hrec rnd b fr h _ fr1 h1 hok hrun ρ S w a nn _ hr ht hm hs fun ρ1 w1 a1 p1 => ?_).wpIn; show Code.roundsIn (rndF ρ rnd) nn P b Q m a1 w1; rw [← rndF_eq hs p1.moved.agree]; exact hrec rnd (.loop b) fr1 h1 e fr' h' hok hf ρ1 _ w1 a1 nn Q p1.moved.hr p1.tmps p1.marks (fun l hl => .inl (hs l hl)) fun ρ2 w2 a2 p2 => k _ _ _ (Post.trans (fr1 := fr1) (a1 := a1) p1.moved p2)
    rename_i hne; refine (hrec rnd b fr h e fr' h' hok hf ρ S w a nn _ hr ht hm hs fun ρ1 w1 a1 p1 => ?_).wpIn; have hq := k _ _ _ p1
    cases e with
    | normal => exact (hne _ _ hf).elim
    | exit id => exact hq
    | ret => exact hq
  | region id ops draw =>
    cases draw with
    | false =>
      simp only [fsStep] at hf; split at hf
      · rename_i t h1 hrun; simp only [Option.some.injEq, Prod.mk.injEq] at hf; obtain ⟨rfl, rfl, rfl⟩ := hf; refine wpIn_region ?_; exact ops_wp (step := fsOpM P (callOf P orc rec) (fsYield rec)) rfl hcs hys _ _ ρ S w a fr.t h range_map hr ht hrun fun ρ1 w1 a1 m1 ht1 hd1 => k _ _ _ ⟨m1, ht1, by rw [hd1]; exact hm.mono fun b hb => ⟨.inl hb, m1.agree b hb⟩⟩
      cases hf
    | true =>
      simp only [fsStep] at hf
      cases hl : lateB ops with
      | false =>
        rw [hl] at hf; simp only [cond_false] at hf; split at hf
        · rename_i s hrun; simp only [Option.some.injEq, Prod.mk.injEq] at hf; obtain ⟨rfl, rfl, rfl⟩ := hf; refine wpIn_region_draw fun t => ?_; rw [hP.mixed]; exact drawn_wp (call := callOf P orc rec) (yield := fsYield rec) hcs hys hok hrun (hr.drew _) ht (fun ρ1 w1 a1 m1 ht1 hd1 => k _ _ _ ⟨Moved.ofDrew m1, ht1, by rw [hd1]; exact hm.mono fun b hb => ⟨.inl hb, m1.agree b hb⟩⟩) t
        cases hf
      | true =>
        rw [hl] at hf; simp only [cond_true] at hf; split at hf
        · rename_i s hrun; simp only [Option.some.injEq, Prod.mk.injEq] at hf; obtain ⟨rfl, rfl, rfl⟩ := hf; refine wpIn_region_draw fun t => ?_; rw [hP.mixed]; exact drawn_wpL (call := callOf P orc rec) (yield := fsYield rec) hcs hys hok hrun (hr.drew _) ht (fun ρ1 w1 a1 m1 ht1 hd1 => k _ _ _ ⟨Moved.ofDrew m1, ht1, by rw [hd1]; exact hm.mono fun b hb => ⟨.inl hb, m1.agree b hb⟩⟩) t
        cases hf
  | rangeFunc g ps assign body =>
    simp only [fsStep] at hf; obtain ⟨ok1, ok2⟩ := band (show (codeOk assign && codeOk body) = true from hok); exact rangeFunc_sound hP hrec ok1 ok2 hf hr ht hm hs k
theorem code_sound (hP : ProgOk P) {orc : FuncId → List Value → Heap → Option (Value × Heap)} (horc : CallSound P B w0 orc) : ∀ m, SoundR P B w0 m (fsCode P orc m)
  | 0 => fun rnd c fr h e fr' h' _ hf => by cases hf
  | m + 1 => step_sound hP horc (code_sound hP horc m)
end Go.Fs
namespace Go.Fs
open Go.RowKit (Below)
variable {P : Program}
theorem fs_open (hP : ProgOk P) {B : Nat} {w0 w : World} {orc : FuncId → List Value → Heap → Option (Value × Heap)} (horc : CallSound P B w0 orc) {ρ : Ren} {S : Nat → Prop} {h : Heap} {f : FuncId} {args args' : List Value} {v : Value}
    (hE : Enters P f) (hr : HR P ρ S B w0 h w) (ha : LR ρ S args args') (he : EvF P orc f args h fun u _ => u = v) (hv : af v = true) : Calls P f args'.toArray w fun | .returned v', w' => v' = v ∧ Below B w0 w' | _, _ => False := by
  obtain ⟨m, u, h', h1, rfl⟩ := he
  have hc : CallsIn Fence.wide 0 P f args'.toArray w (RetR P B w0 ρ S h w u h') := by
    rcases call_sound hP horc (code_sound hP horc m) f args h u h' h1 with h2 | h2
    · exact h2.2 ρ S w args' hr ha 0
    obtain ⟨w', v', h3, _⟩ := h2 ρ S w args' hr ha; rw [callFunc_run hE] at h3; simp at h3
  refine Calls.mono (callsIn_wide.1 hc) fun e w' he => ?_
  cases e with
  | returned v' =>
    obtain ⟨ρ', m1, hv1⟩ := he
    exact ⟨hv1.eq_of_af hv, m1.hr.below⟩
  | panicked c => exact he.elim
  | outgrown => exact he.elim
end Go.Fs
namespace Go.Fs
open Go.RowKit (Below)
variable {P : Program}
def digs : Nat → Nat → List UInt8
  | 0, _ => []
  | f + 1, n => bif Nat.blt n 10 then [UInt8.ofNat (48 + n)] else digs f (n / 10) ++ [UInt8.ofNat (48 + n % 10)]
def itoaF (n : Int) : List UInt8 := match n with
  | .ofNat k => digs 20 k
  | .negSucc k => 45 :: digs 20 (k + 1)
def joinF (sep : List UInt8) : List (List UInt8) → List UInt8
  | [] => []
  | [w] => w
  | w :: r => w ++ sep ++ joinF sep r
def strs : List Value → Option (List ByteArray)
  | [] => some []
  | .string s :: r => (strs r).map (s :: ·)
  | _ => none
theorem digs_eq : ∀ (f n : Nat), n < 10 ^ (f + 1) → digs (f + 1) n = Lib.decDigits n
  | f, n, h => by
    unfold digs Lib.decDigits
    cases hb : Nat.blt n 10 with
    | true => rw [dif_pos (nblt hb)]; rfl
    | false =>
      have h1 : ¬ n < 10 := by have := nble_no hb; omega
      rw [dif_neg h1]; simp only [cond_false]
      cases f with
      | zero => simp at h; omega
      | succ f => rw [digs_eq f (n / 10) (by rw [Nat.pow_succ] at h; omega)]
theorem itoaF_eq {n : Int} (h0 : -1000000000000000000 < n) (h1 : n < 1000000000000000000) : itoaF n = Lib.itoa n := by
  unfold Lib.itoa
  cases n with
  | ofNat k =>
    rw [if_neg (by simp)]; show digs 20 k = _; rw [digs_eq 19 k (by have : (k : Int) < 1000000000000000000 := h1; have : (10 : Nat) ^ (19 + 1) = 100000000000000000000 := (by decide); omega)]
    rfl
  | negSucc k =>
    rw [if_pos (by omega)]; show 45 :: digs 20 (k + 1) = _; rw [digs_eq 19 (k + 1) (by have h2 : -1000000000000000000 < Int.negSucc k := h0; have : (10 : Nat) ^ (19 + 1) = 100000000000000000000 := (by decide); omega)]; rfl
theorem joinF_eq (sep : List UInt8) : ∀ xs : List (List UInt8), joinF sep xs = Lib.join xs sep
  | [] => rfl
  | [w] => by rw [Lib.join_one]; rfl
  | w :: v :: r => by
    rw [Lib.join_cons]; simp only [joinF]; rw [joinF_eq sep (v :: r), Lib.join_cons]; simp [Lib.joinTail]
def orcS (fi fj : FuncId) : FuncId → List Value → Heap → Option (Value × Heap) := fun f xs h =>
  bif Nat.beq f fi then
    match xs with
    | [.int .i64 n] => bif decide (-1000000000000000000 < n) && decide (n < 1000000000000000000) then some (.string ⟨(itoaF n).toArray⟩, h) else none
    | _ => none
  else bif Nat.beq f fj then
    match xs with
    | [.slice (some ⟨b, o, none⟩) n _, .string sep] =>
      match h.get b with
      | some (.row _ cs _ _) =>
        bif Nat.ble (o + n) cs.length && Nat.ble n 1000000 then
          match strs ((cs.drop o).take n) with
          | some ss => let r := joinF sep.data.toList (ss.map (·.data.toList))
            bif Nat.ble r.length 1000000000 then some (.string ⟨r.toArray⟩, h) else none
          | none => none
        else none
      | _ => none
    | _ => none
  else none
variable {B : Nat} {w0 w w' : World} {ρ : Ren} {S : Nat → Prop} {h : Heap}
theorem strs_ok : ∀ (cs cs' : List Value) (ss : List ByteArray), LR ρ S cs cs' → strs cs = some ss → cs' = ss.map .string
  | [], cs', ss, hl, hs => by
    simp only [strs, Option.some.injEq] at hs; subst hs
    exact List.eq_nil_of_length_eq_zero hl.1.symm
  | v :: r, [], ss, hl, _ => by have := hl.1; simp at this
  | v :: r, v' :: r', ss, hl, hs => by
    unfold strs at hs; split at hs
    · rename_i he; cases he
    · rename_i s r0 he; simp only [List.cons.injEq] at he; obtain ⟨rfl, rfl⟩ := he; obtain ⟨ss0, h1, rfl⟩ := Option.map_eq_some_iff.1 hs; have hv : VR ρ S (.string s) v' := hl.2 0 (by simp); have hr : LR ρ S r r' := ⟨by have := hl.1; simpa using this, fun i hi => by have := hl.2 (i + 1) (by simp; omega); simpa using this⟩; rw [hv.string_inv, strs_ok r r' ss0 hr h1]; rfl
    cases hs
theorem orcS_sound {fi fj : FuncId} (hz : w0.drawn = 0) (hi : Enters P fi) (hj : Enters P fj)
    (hI : ∀ (n : Int) (w : World), Below B w0 w → -9223372036854775808 ≤ n → n ≤ 9223372036854775807 → Calls P fi #[.int .i64 n] w fun e w' => e = .returned (.string ⟨(Lib.itoa n).toArray⟩) ∧ Below w.heap.size w w')
    (hJ : ∀ (bk o c : Nat) (xs : List ByteArray) (sep : ByteArray) (w : World), (∀ (j : Nat) x, xs[j]? = some x → w.cell? ⟨bk, o + j, none⟩ = some (.string x)) → bk < w.heap.size → xs.length ≤ 140737488355328 → xs.length ≤ c →
      (Lib.join (xs.map (·.data.toList)) sep.data.toList).length ≤ 140737488355328 →
      Calls P fj #[.slice (some ⟨bk, o, none⟩) xs.length c, .string sep] w fun e w' => e = .returned (.string ⟨(Lib.join (xs.map (·.data.toList)) sep.data.toList).toArray⟩) ∧ Below w.heap.size w w') :
    CallSound P B w0 (orcS fi fj) := by
  intro f xs h v h' hf; unfold orcS at hf
  cases hfi : Nat.beq f fi with
  | true =>
    have := nbeq hfi; subst this; rw [hfi] at hf; simp only [cond_true] at hf; split at hf
    · rename_i n; obtain ⟨hc, hf2⟩ := bif_some hf; obtain ⟨h0, h1⟩ := band hc; have h0 := of_decide_eq_true h0; have h1 := of_decide_eq_true h1; simp only [Option.some.injEq, Prod.mk.injEq] at hf2; obtain ⟨rfl, rfl⟩ := hf2; refine ⟨hi, fun ρ S w args' hr ha nn => ?_⟩; have he : args' = [.int .i64 n] := ha.eq_of_af (by rfl); subst he; have hC : CallsIn Fence.wide nn P f #[.int .i64 n] w _ := callsIn_wide.2 (hI n w hr.below (by omega) (by omega)); refine hC.mono fun e w' hret => ?_; obtain ⟨rfl, hb⟩ := hret; exact ⟨ρ, Moved.grewWorld hr hb (by rw [hz]; exact Nat.zero_le _), by rw [itoaF_eq h0 h1]; exact .lit rfl⟩
    cases hf
  | false =>
    rw [hfi] at hf; simp only [cond_false] at hf; obtain ⟨hfj, hf2⟩ := bif_some hf; have := nbeq hfj; subst this; clear hf; split at hf2
    · rename_i b o n mk sep; split at hf2
      · rename_i e cs own more hg; obtain ⟨hc, hf3⟩ := bif_some hf2; obtain ⟨hle, hn⟩ := band hc; have hle := nble hle; have hn := nble hn; split at hf3
        · rename_i ss hss; obtain ⟨hlen, hf4⟩ := bif_some hf3; have hlen := nble hlen; simp only [Option.some.injEq, Prod.mk.injEq] at hf4; obtain ⟨rfl, rfl⟩ := hf4; refine ⟨hj, fun ρ S w args' hr ha nn => ?_⟩
          match args', ha with
          | [x', s'], ha =>
            have hx : VR ρ S (.slice (some ⟨b, o, none⟩) n mk) x' := ha.2 0 (by simp); have hs : VR ρ S (.string sep) s' := ha.2 1 (by simp); obtain ⟨A, c, rfl, hnc, _, _, hb⟩ := hx.slice_inv; obtain rfl := hs.string_inv; have hb0 : b ≠ 0 := (hr.ids b (hr.objs b _ hg).1).2; obtain ⟨_, rfl, _⟩ := hb hb0; have hobj := (hr.objs b _ hg).2
            have hlt : (ρ b).block < w.heap.size := by
              by_cases hown : ownO (.row e cs own more) = true
              · exact hobj.lt hown
              have := hr.ro b _ hg (by simpa using hown); have := hr.size; omega
            have hlr : LR ρ S ((cs.drop o).take n) ((List.range n).map fun j => (w.cell? ((ρ b).at (o + j))).getD undef) := by
              refine LR.of_get? (by simp; omega) fun i v v' hv hv' => ?_; rw [List.getElem?_take] at hv; split at hv
              · rename_i hin; rw [List.getElem?_drop] at hv; obtain ⟨u, h1, h2⟩ := hobj.cell (i := o + i) (by omega); simp [hin, h1] at hv'; subst hv'
                have : cs.getD (o + i) undef = v := by simp [List.getD, hv]
                rwa [this] at h2
              cases hv
            have heq := strs_ok _ _ ss hlr hss
            have hsl : ss.length = n := by
              have := congrArg List.length heq; simp at this; omega
            have hcells : ∀ (j : Nat) x, ss[j]? = some x → w.cell? ⟨(ρ b).block, (ρ b).off + o + j, none⟩ = some (.string x) := fun j x hjx => by
              have hjn : j < n := by have := (List.getElem?_eq_some_iff.1 hjx).1; omega
              obtain ⟨u, h1, h2⟩ := hobj.cell (i := o + j) (by omega); have h3 := congrArg (·[j]?) heq; simp [hjn, hjx, h1] at h3; subst h3; simpa [Loc.at, Nat.add_assoc] using h1
            rw [joinF_eq] at hlen; have hC : CallsIn Fence.wide nn P f #[.slice (some ⟨(ρ b).block, (ρ b).off + o, none⟩) ss.length c, .string sep] w _ := callsIn_wide.2 (hJ (ρ b).block ((ρ b).off + o) c ss sep w hcells hlt (by omega) (by omega) (by omega)); rw [hsl] at hC; refine hC.mono fun e w' hret => ?_; obtain ⟨rfl, hb⟩ := hret; exact ⟨ρ, Moved.grewWorld hr hb (by rw [hz]; exact Nat.zero_le _), by rw [joinF_eq]; exact .lit rfl⟩
        cases hf3
      cases hf2
    cases hf2
end Go.Fs
namespace Go.Fs
open Go.RowKit (Below)
variable {P : Program}
def orcA (fi fj fa : FuncId) : FuncId → List Value → Heap → Option (Value × Heap) := fun f xs h =>
  bif Nat.beq f fa then
    match xs with
    | [] => some (.bool true, h)
    | _ => none
  else orcS fi fj f xs h
theorem orcA_sound {B : Nat} {w0 : World} {fi fj fa : FuncId} (hz : w0.drawn = 0) (hS : CallSound P B w0 (orcS fi fj)) (ha : Enters P fa)
    (hA : ∀ w, Below B w0 w → Calls P fa #[] w fun | .returned v', w' => v' = .bool true ∧ Below w.heap.size w w' | _, _ => False) : CallSound P B w0 (orcA fi fj fa) := by
  intro f xs h v h' hf; unfold orcA at hf
  cases hb : Nat.beq f fa with
  | true =>
    have := nbeq hb; subst this; rw [hb] at hf; simp only [cond_true] at hf; split at hf
    · simp only [Option.some.injEq, Prod.mk.injEq] at hf; obtain ⟨rfl, rfl⟩ := hf; refine ⟨ha, fun ρ S w args' hr har nn => ?_⟩; have he : args' = [] := List.eq_nil_of_length_eq_zero har.1.symm; subst he; have hC : CallsIn Fence.wide nn P f #[] w _ := callsIn_wide.2 (hA w hr.below); refine hC.mono fun e w' hret => ?_
      cases e with
      | returned v' =>
        obtain ⟨rfl, hb⟩ := hret
        exact ⟨ρ, Moved.grewWorld hr hb (by rw [hz]; exact Nat.zero_le _), .lit rfl⟩
      | panicked c => exact hret.elim
      | outgrown => exact hret.elim
    cases hf
  | false =>
    rw [hb] at hf; exact hS f xs h v h' hf
end Go.Fs
namespace Go.Fs
open Go.RowKit (Below)
open Go.Sort Go.Proofs
variable {P : Program}
variable {B : Nat} {w0 w w' : World} {ρ : Ren} {S : Nat → Prop} {h : Heap}
end Go.Fs
namespace Go.Fs
variable {P : Program} {O : FuncId → List Value → Heap → Option (Value × Heap)} {h h' : Heap} {S : List Nat}
end Go.Fs
namespace Go.Fs
variable {P : Program} {orc : FuncId → List Value → Heap → Option (Value × Heap)} {h h' : Heap} {S S' : List Nat} {σ : Sto}
end Go.Fs
namespace Go.Fs
variable {P : Program} {fl : VL} {σ : Sto} {x y : Operand} {T T' : TypeId} {p q : Int}
def andI (p q : Int) : Int := IntKind.i64.wrap ((BitVec.ofInt IntKind.i64.bits p &&& BitVec.ofInt IntKind.i64.bits q).toNat : Int)
theorem CalmV.andI (hx : evV fl x = some (.v (.int .i64) p)) (hy : evV fl y = some (.v (.int .i64) q)) : CalmV P fl σ (.binOp .and T x y T') (.v (.int .i64) (Fs.andI p q)) :=
  .binI hx hy (u := .int .i64 (Fs.andI p q)) rfl fun h S => RepV.ofInt _ _
end Go.Fs
namespace Go.Proofs
open Go.Fs
def OA := orcA 160 160 14
theorem awake_ok : VF Tryz.prog OA 14 [] (B true) := VF.oracle (fun _ => rfl) fun _ _ => ⟨rfl, rfl⟩
abbrev y25 : Ty := (.sl (.int .i64))
abbrev y154 : Ty := (.sl (.int .i64))
theorem vt3 : ValT Tryz.prog 3 (.int .i64) := valT_of (by kernel_rfl)
theorem vt26 : ValT Tryz.prog 26 (.int .i64) := valT_of (by kernel_rfl)
theorem el25 : ElT Tryz.prog 25 3 (.int .i64) := elT_of (by kernel_rfl)
theorem el154 : ElT Tryz.prog 154 26 (.int .i64) := elT_of (by kernel_rfl)
def whenE (c : Bool) (e : Int) : Int := bif c then e else 0
theorem cWhen_ok {c : Bool} {e : Int} : VF Tryz.prog OA 100 [B c, I e] (I (whenE c e)) := by
  refine VF.enter Tryz.func100 rfl (fun _ _ => rfl) rfl ?_; show VC _ _ _ _ _ [(0, B c), (1, I e)] [] _; refine VC.seq (VC.text ?_); refine VO.c (.assign rfl) ?_; refine VO.go (VC.seq (VC.seq (VC.text ?_))); refine VO.c (.move rfl) (VO.go ?_); refine VC.condB rfl (fun c1 => ?_) (fun c1 => ?_)
  · subst c1; refine VC.seq (VC.text ?_); refine VO.c (.move rfl) (VO.c (.assign rfl) (VO.go ?_)); refine VC.ret ?_; exact VEnd.one rfl evT (pvI (by rfl))
  subst c1; refine VC.skip (VC.seq (VC.text ?_)); refine VO.c (.assign rfl) (VO.go ?_); refine VC.ret ?_; exact VEnd.one rfl evT (pvI (by rfl))
theorem lWhen_ok {c : Bool} {e : Int} : VF Tryz.prog OA 31 [B c, I e] (I (whenE c e)) := by
  refine VF.enter Tryz.func31 rfl (fun _ _ => rfl) rfl ?_; show VC _ _ _ _ _ [(0, B c), (1, I e)] [] _; refine VC.seq (VC.text ?_); refine VO.c (.assign rfl) ?_; refine VO.go (VC.seq (VC.seq (VC.text ?_))); refine VO.c (.move rfl) (VO.go ?_); refine VC.condB rfl (fun c1 => ?_) (fun c1 => ?_)
  · subst c1; refine VC.seq (VC.text ?_); refine VO.c (.move rfl) (VO.c (.assign rfl) (VO.go ?_)); refine VC.ret ?_; exact VEnd.one rfl evT (pvI (by rfl))
  subst c1; refine VC.skip (VC.seq (VC.text ?_)); refine VO.c (.assign rfl) (VO.go ?_); refine VC.ret ?_; exact VEnd.one rfl evT (pvI (by rfl))
theorem rWhen_ok {c : Bool} {e : Int} : VF Tryz.prog OA 94 [B c, I e] (I (whenE c e)) := by
  refine VF.enter Tryz.func94 rfl (fun _ _ => rfl) rfl ?_; show VC _ _ _ _ _ [(0, B c), (1, I e)] [] _; refine VC.seq (VC.text ?_); refine VO.c (.assign rfl) ?_; refine VO.go (VC.seq (VC.seq (VC.text ?_))); refine VO.c (.move rfl) (VO.go ?_); refine VC.condB rfl (fun c1 => ?_) (fun c1 => ?_)
  · subst c1; refine VC.seq (VC.text ?_); refine VO.c (.move rfl) (VO.c (.assign rfl) (VO.go ?_)); refine VC.ret ?_; exact VEnd.one rfl evT (pvI (by rfl))
  subst c1; refine VC.skip (VC.seq (VC.text ?_)); refine VO.c (.assign rfl) (VO.go ?_); refine VC.ret ?_; exact VEnd.one rfl evT (pvI (by rfl))
def rangeE (n lo hi : Int) : Int := if n < lo ∨ hi < n then 3 else 0
theorem rCheckRange_ok {n : Int} {lo : Int} {hi : Int} : VF Tryz.prog OA 93 [I n, I lo, I hi] (I (rangeE n lo hi)) := by
  refine VF.enter Tryz.func93 rfl (fun _ _ => rfl) rfl ?_; show VC _ _ _ _ _ [(0, I n), (1, I lo), (2, I hi)] [] _; refine VC.seq (VC.text ?_); refine VO.c (.assign rfl) ?_; refine VO.go (VC.seq (VC.seq (VC.text ?_))); refine VO.c (.move rfl) (VO.c (.move rfl) (VO.c (.lss) (VO.c (.move rfl) ?_))); refine VO.cg (r := decide (n < lo)) (w := false) [] trivial (fun _ => (.move rfl)) ?_; refine VO.cg (r := decide (n < lo)) (w := false) [] trivial (fun _ => (.move rfl)) ?_; refine VO.cg (r := decide (n < lo)) (w := false) [(11, I n), (12, I hi)] ⟨rfl, rfl, trivial⟩ (fun _ => (.gtr)) ?_; refine VO.c (.or) (VO.go ?_); refine VC.condB rfl (fun c1 => ?_) (fun c1 => ?_)
  · try simp only [Bool.and_eq_true, Bool.or_eq_true, Bool.and_eq_false_iff, Bool.or_eq_false_iff, Bool.not_eq_true', Bool.not_eq_false', decide_eq_true_eq, decide_eq_false_iff_not] at c1
    refine VC.seq (VC.text ?_); refine VO.c (.assign rfl) (VO.go ?_); refine VC.ret ?_; exact VEnd.one rfl evT (pvI (by simp only [rangeE, ← Bool.decide_or, decide_eq_true_eq, decide_eq_false_iff_not, Bool.or_eq_true, Bool.or_eq_false_iff] at *; first | rw [if_pos (by omega)] | rw [if_neg (by omega)]))
  try simp only [Bool.and_eq_true, Bool.or_eq_true, Bool.and_eq_false_iff, Bool.or_eq_false_iff, Bool.not_eq_true', Bool.not_eq_false', decide_eq_true_eq, decide_eq_false_iff_not] at c1
  refine VC.skip (VC.seq (VC.text ?_)); refine VO.c (.assign rfl) (VO.go ?_); refine VC.ret ?_; exact VEnd.one rfl evT (pvI (by simp only [rangeE, ← Bool.decide_or, decide_eq_true_eq, decide_eq_false_iff_not, Bool.or_eq_true, Bool.or_eq_false_iff] at *; first | rw [if_pos (by omega)] | rw [if_neg (by omega)]))
theorem whenE_range {n lo hi : Int} : whenE (decide (n < lo) || decide (hi < n)) 3 = rangeE n lo hi := by
  unfold whenE rangeE; by_cases h1 : n < lo <;> by_cases h2 : hi < n <;> simp [h1, h2]
theorem cWithin_ok {n : Int} {lo : Int} {hi : Int} : VF Tryz.prog OA 102 [I n, I lo, I hi] (I (rangeE n lo hi)) := by
  refine VF.enter Tryz.func102 rfl (fun _ _ => rfl) rfl ?_; show VC _ _ _ _ _ [(0, I n), (1, I lo), (2, I hi)] [] _; refine VC.seq (VC.text ?_); refine VO.c (.assign rfl) ?_; refine VO.go (VC.seq (VC.text ?_)); refine VO.c (.move rfl) (VO.c (.move rfl) (VO.c (.lss) (VO.c (.move rfl) ?_))); refine VO.cg (r := decide (n < lo)) (w := false) [] trivial (fun _ => (.move rfl)) ?_; refine VO.cg (r := decide (n < lo)) (w := false) [] trivial (fun _ => (.move rfl)) ?_; refine VO.cg (r := decide (n < lo)) (w := false) [(11, I n), (12, I hi)] ⟨rfl, rfl, trivial⟩ (fun _ => (.gtr)) ?_; refine VO.c (.or) ?_; refine VO.call rfl rfl (VF.call (cWhen_ok )) ?_; refine VO.c (.assign rfl) (VO.go ?_); refine VC.ret ?_; exact VEnd.one rfl evT (pvI (by exact whenE_range))
def firstE : List Int → Int
  | [] => 0
  | x :: r => if x = 0 then firstE r else x
theorem firstE_drop {xs : List Int} {j : Nat} (hj : j < xs.length) : firstE (xs.drop j) = if xs[j] = 0 then firstE (xs.drop (j + 1)) else xs[j] := by
  rw [List.drop_eq_getElem_cons hj] <;> rfl
theorem firstE_end {xs : List Int} {j : Nat} (hj : xs.length ≤ j) : firstE (xs.drop j) = 0 := by rw [List.drop_eq_nil_of_le hj] <;> rfl
theorem firstE_app {l : List Int} {z : Int} : firstE (l ++ [z]) = if firstE l = 0 then z else firstE l := by
  induction l with
  | nil =>
    show (if z = 0 then 0 else z) = _; rw [if_pos (show firstE [] = 0 from rfl)]; split
    · rename_i h; exact h.symm
    rfl
  | cons x r ih =>
    show (if x = 0 then firstE (r ++ [z]) else x) = if (if x = 0 then firstE r else x) = 0 then z else (if x = 0 then firstE r else x); by_cases hx : x = 0
    · rw [if_pos hx, if_pos hx]; exact ih
    rw [if_neg hx, if_neg hx, if_neg hx]
theorem firstE_zero : ∀ {l : List Int}, firstE l = 0 ↔ ∀ x ∈ l, x = 0
  | [] => ⟨fun _ x hx => (by cases hx), fun _ => rfl⟩
  | x :: r => by
    have ih := firstE_zero (l := r); show (if x = 0 then firstE r else x) = 0 ↔ _; by_cases hx : x = 0
    · rw [if_pos hx, ih]; exact ⟨fun h y hy => (List.mem_cons.1 hy).elim (fun e => e.trans hx) (h y), fun h y hy => h y (List.mem_cons_of_mem _ hy)⟩
    rw [if_neg hx]; exact ⟨fun h => absurd h hx, fun h => absurd (h x List.mem_cons_self) hx⟩
theorem cFirst_ok {l : List Int} (hl : l.length < 1000000) : VF Tryz.prog OA 99 [.v y154 l] (I (firstE l)) := by
  refine VF.enter Tryz.func99 rfl (fun _ _ => rfl) rfl ?_; show VC _ _ _ _ _ [(0, .v y154 l)] [] _; refine VC.seq (VC.text ?_); refine VO.c (.assign rfl) ?_; refine VO.go (VC.seq (VC.seq (VC.text ?_))); refine VO.c (.move rfl) ?_; refine VO.r (.len el154) ?_; refine VO.c (.move rfl) ?_; refine VO.go (VC.block ?_); refine VC.keep [(5, .v y154 l), (6, I ((l.length : Nat) : Int)), (7, I ((0 : Nat) : Int))] ⟨rfl, rfl, rfl, trivial⟩ ?_; refine VC.loop (I := fun kk ff ss => ∃ (j : Nat), kk = l.length - j ∧ ff = [(5, .v y154 l), (6, I ((l.length : Nat) : Int)), (7, I ((j : Nat) : Int))] ∧ ss = [] ∧ (j ≤ l.length) ∧ (firstE l = firstE (l.drop j))) ?_ _ _ _ ⟨0, rfl, rfl, rfl, Nat.zero_le _, (by rfl)⟩; rintro kk ff ss ⟨j, hk0, rfl, rfl, hj, hf⟩; refine VC.seq (VC.text ?_); refine VO.c (.lss) ?_; refine VO.go (VC.seq ?_); refine VC.condD rfl (fun c2 => ?_) (fun c2 => ?_)
  · refine VC.skip (VC.seq (VC.block (VC.seq (VC.text ?_)))); refine VO.c (.ix (j := j) rfl rfl el154 (by omega)) ?_; refine VO.r (.ld vt26) ?_; refine VO.c (.assign rfl) ?_; refine VO.go (VC.seq (VC.text ?_)); refine VO.c (.move rfl) (VO.c (.neq) (VO.go ?_)); refine VC.condD rfl (fun c4 => ?_) (fun c4 => ?_)
    · refine VC.seq (VC.text ?_); refine VO.c (.move rfl) (VO.c (.assign rfl) (VO.go ?_)); refine VC.ret ?_; exact VEnd.one rfl evT (pvI (by rw [hf, firstE_drop (by omega), if_neg c4]))
    refine VC.skip (VC.text ?_); refine VO.c (.add rfl rfl (by omega)) (VO.c (.move rfl) ?_); refine VO.nil ?_; refine ⟨_, [(5, .v y154 l), (6, I ((l.length : Nat) : Int)), (7, I (((j + 1) : Nat) : Int))], ?_, ⟨rfl, rfl, rfl, trivial⟩, (j + 1), rfl, rfl, rfl, (by omega), (by rw [hf, firstE_drop (by omega), if_pos (by simpa using c4)])⟩; omega
  refine VC.exit (VC.seq (VC.text ?_)); refine VO.c (.assign rfl) (VO.go ?_); refine VC.ret ?_; exact VEnd.one rfl evT (pvI (by rw [hf, firstE_end (by omega)]))
theorem rFirst_ok {l : List Int} (hl : l.length < 1000000) : VF Tryz.prog OA 92 [.v y25 l] (I (firstE l)) := by
  refine VF.enter Tryz.func92 rfl (fun _ _ => rfl) rfl ?_; show VC _ _ _ _ _ [(0, .v y25 l)] [] _; refine VC.seq (VC.text ?_); refine VO.c (.assign rfl) ?_; refine VO.go (VC.seq (VC.seq (VC.text ?_))); refine VO.c (.assign rfl) ?_; refine VO.go (VC.block ?_); refine VC.keep [(0, .v y25 l), (3, I ((0 : Nat) : Int))] ⟨rfl, rfl, trivial⟩ ?_; refine VC.loop (I := fun kk ff ss => ∃ (j : Nat), kk = l.length - j ∧ ff = [(0, .v y25 l), (3, I ((j : Nat) : Int))] ∧ ss = [] ∧ (j ≤ l.length) ∧ (firstE l = firstE (l.drop j))) ?_ _ _ _ ⟨0, rfl, rfl, rfl, Nat.zero_le _, (by rfl)⟩; rintro kk ff ss ⟨j, hk0, rfl, rfl, hj, hf⟩; refine VC.seq (VC.seq (VC.text ?_)); refine VO.c (.move rfl) (VO.c (.move rfl) ?_); refine VO.r (.len el25) ?_; refine VO.c (.lss) (VO.go ?_); refine VC.condD rfl (fun c2 => ?_) (fun c2 => ?_)
  · refine VC.skip (VC.seq (VC.block (VC.seq (VC.text ?_)))); refine VO.c (.move rfl) (VO.c (.move rfl) (VO.c (.ix (j := j) rfl rfl el25 (by omega)) ?_)); refine VO.r (.ld vt3) ?_; refine VO.c (.neq) (VO.go ?_); refine VC.condD rfl (fun c4 => ?_) (fun c4 => ?_)
    · refine VC.seq (VC.text ?_); refine VO.c (.move rfl) (VO.c (.move rfl) (VO.c (.ix (j := j) rfl rfl el25 (by omega)) ?_)); refine VO.r (.ld vt3) ?_; refine VO.c (.assign rfl) (VO.go ?_); refine VC.ret ?_; exact VEnd.one rfl evT (pvI (by rw [hf, firstE_drop (by omega), if_neg c4]))
    refine VC.skip (VC.text ?_); refine VO.c (.move rfl) (VO.c (.add rfl rfl (by omega)) (VO.c (.assign rfl) ?_)); refine VO.nil ?_; refine ⟨_, [(0, .v y25 l), (3, I (((j + 1) : Nat) : Int))], ?_, ⟨rfl, rfl, trivial⟩, (j + 1), rfl, rfl, rfl, (by omega), (by rw [hf, firstE_drop (by omega), if_pos (by simpa using c4)])⟩; omega
  refine VC.exit (VC.seq (VC.text ?_)); refine VO.c (.assign rfl) (VO.go ?_); refine VC.ret ?_; exact VEnd.one rfl evT (pvI (by rw [hf, firstE_end (by omega)]))
theorem lFirst_ok {l : List Int} (hl : l.length < 1000000) : VF Tryz.prog OA 29 [.v y25 l] (I (firstE l)) := by
  refine VF.enter Tryz.func29 rfl (fun _ _ => rfl) rfl ?_; show VC _ _ _ _ _ [(0, .v y25 l)] [] _; refine VC.seq (VC.text ?_); refine VO.c (.assign rfl) ?_; refine VO.go (VC.seq (VC.text ?_)); refine VO.c (.move rfl) ?_; refine VO.call rfl rfl (VF.call (rFirst_ok (by first | assumption | omega | simp))) ?_; refine VO.c (.assign rfl) (VO.go ?_); refine VC.ret ?_; exact VEnd.one rfl evT (pvI (by rfl))
end Go.Proofs
namespace Go.Proofs
open Go.Fs
set_option maxHeartbeats 400000
abbrev Gat := List Int × List Int × List (List Int)
theorem getDg {α : Type} {l : List α} {i : Nat} {d : α} (h : i < l.length) : l.getD i d = l[i] := by
  rw [List.getD_eq_getElem?_getD, List.getElem?_eq_getElem h] <;> rfl
def frcE (x : Int) : Int := rangeE x (-10000) 10000
def headG (g : Gat) : Int := firstE [whenE (decide (((g.1.length : Nat) : Int) = 0)) 12, whenE (decide ((8 : Int) < ((g.1.length : Nat) : Int))) 5, whenE (decide (((g.2.1.length : Nat) : Int) ≠ ((g.1.length : Nat) : Int)) || decide (((g.2.2.length : Nat) : Int) ≠ ((g.1.length : Nat) : Int))) 2]
def row4 (n : Nat) (s x : Int) (row : List Int) : List Int := [rangeE s 0 10000, frcE x, whenE (decide (((row.length : Nat) : Int) ≠ ((n : Nat) : Int))) 2, firstE (row.map frcE)]
def row3 (n : Nat) (s x : Int) (row : List Int) : List Int := [rangeE s 0 10000, frcE x, whenE (decide (((row.length : Nat) : Int) ≠ ((n : Nat) : Int))) 2]
def gateE (g : Gat) (i : Nat) : Int := firstE (row4 g.1.length (g.1.getD i 0) (g.2.1.getD i 0) (g.2.2.getD i []) ++ [if (g.2.2.getD i []).getD i 0 ≠ 0 then 1 else 0])
def rowsE (g : Gat) : List Int := (List.range g.1.length).map (gateE g)
def gatesE (g : Gat) : Int := if headG g ≠ 0 then headG g else firstE (rowsE g)
theorem rowsE_len {g : Gat} : (rowsE g).length = g.1.length := by simp [rowsE]
theorem rowsE_at {g : Gat} {i : Nat} (h : i < (rowsE g).length) : (rowsE g)[i] = gateE g i := by simp [rowsE]
theorem whenE_zero {c : Bool} {e : Int} (he : e ≠ 0) : whenE c e = 0 ↔ c = false := by
  cases c with
  | false => exact ⟨fun _ => rfl, fun _ => rfl⟩
  | true => exact ⟨fun h => absurd h he, fun h => by cases h⟩
theorem rangeE_zero {n lo hi : Int} : rangeE n lo hi = 0 ↔ lo ≤ n ∧ n ≤ hi := by
  unfold rangeE; by_cases h : n < lo ∨ hi < n
  · rw [if_pos h]; exact ⟨fun h => absurd h (by decide), fun hh => by omega⟩
  rw [if_neg h]; exact ⟨fun _ => by omega, fun _ => rfl⟩
theorem head_ok {g : Gat} (h : headG g = 0) : (0 < g.1.length ∧ g.1.length ≤ 8) ∧ g.2.1.length = g.1.length ∧ g.2.2.length = g.1.length := by
  have h := firstE_zero.1 h; have h1 := (whenE_zero (by decide)).1 (h _ (List.mem_cons_self)); have h2 := (whenE_zero (by decide)).1 (h _ (List.mem_cons_of_mem _ List.mem_cons_self)); have h3 := (whenE_zero (by decide)).1 (h _ (List.mem_cons_of_mem _ (List.mem_cons_of_mem _ List.mem_cons_self))); obtain ⟨h4, h5⟩ := Bool.or_eq_false_iff.1 h3; have h1 := of_decide_eq_false h1; have h2 := of_decide_eq_false h2; have h4 := of_decide_eq_false h4; have h5 := of_decide_eq_false h5; omega
theorem gateE_ok {g : Gat} {i : Nat} (h : gateE g i = 0) : (0 ≤ g.1.getD i 0 ∧ g.1.getD i 0 ≤ 10000) ∧ (-10000 ≤ g.2.1.getD i 0 ∧ g.2.1.getD i 0 ≤ 10000) ∧ (g.2.2.getD i []).length = g.1.length ∧ (∀ x ∈ g.2.2.getD i [], -10000 ≤ x ∧ x ≤ 10000) ∧ (g.2.2.getD i []).getD i 0 = 0 := by
  unfold gateE at h; rw [firstE_app] at h; by_cases hf : firstE (row4 g.1.length (g.1.getD i 0) (g.2.1.getD i 0) (g.2.2.getD i [])) = 0
  · rw [if_pos hf] at h
    have hz : (g.2.2.getD i []).getD i 0 = 0 := by
      by_cases hz : (g.2.2.getD i []).getD i 0 ≠ 0
      · rw [if_pos hz] at h; cases h
      exact Classical.not_not.1 hz
    have hf := firstE_zero.1 hf; have h1 := rangeE_zero.1 (hf _ List.mem_cons_self); have h2 := rangeE_zero.1 (hf (frcE (g.2.1.getD i 0)) (List.mem_cons_of_mem _ List.mem_cons_self)); have h3 := of_decide_eq_false ((whenE_zero (by decide)).1 (hf _ (List.mem_cons_of_mem _ (List.mem_cons_of_mem _ List.mem_cons_self)))); have h4 := firstE_zero.1 (hf _ (List.mem_cons_of_mem _ (List.mem_cons_of_mem _ (List.mem_cons_of_mem _ List.mem_cons_self)))); exact ⟨h1, h2, by omega, fun x hx => rangeE_zero.1 (h4 _ (List.mem_map_of_mem hx)), hz⟩
  rw [if_neg hf] at h; exact absurd h hf
theorem gates_ok {g : Gat} (h : gatesE g = 0) : headG g = 0 ∧ ∀ i, i < g.1.length → gateE g i = 0 := by
  unfold gatesE at h; by_cases hh : headG g ≠ 0
  · rw [if_pos hh] at h; exact absurd h hh
  rw [if_neg hh] at h; exact ⟨Classical.not_not.1 hh, fun i hi => firstE_zero.1 h _ (List.mem_map_of_mem (List.mem_range.2 hi))⟩
def hasI (set gate : Int) : Bool := decide (Fs.andI (set.fdiv (2 ^ gate.toNat)) 1 = 1)
def hasB (set : Int) (k : Nat) : Bool := hasI set ((k : Nat) : Int)
def sumF (set : Int) (row : List Int) : Nat → Int
  | 0 => 0
  | k + 1 => if hasB set k = true then sumF set row k + row.getD k 0 else sumF set row k
theorem sumF_t {set : Int} {row : List Int} {k : Nat} (h : hasB set k = true) : sumF set row (k + 1) = sumF set row k + row.getD k 0 := if_pos h
theorem sumF_f {set : Int} {row : List Int} {k : Nat} (h : hasB set k = false) : sumF set row (k + 1) = sumF set row k := if_neg (by rw [h]; exact Bool.false_ne_true)
theorem sumF_b {set : Int} {row : List Int} (hr : ∀ x ∈ row, -10000 ≤ x ∧ x ≤ 10000) : ∀ k : Nat, k ≤ row.length → -(10000 * (k : Int)) ≤ sumF set row k ∧ sumF set row k ≤ 10000 * (k : Int)
  | 0, _ => ⟨Int.le_refl _, Int.le_refl _⟩
  | k + 1, h => by
    have ih := sumF_b (set := set) hr k (by omega); have hx := hr _ (List.getElem_mem (show k < row.length by omega))
    cases hb : hasB set k with
    | true => rw [sumF_t hb, getDg (show k < row.length by omega)]; omega
    | false => rw [sumF_f hb]; omega
def forceE (g : Gat) (set : Int) (i : Nat) : Int := g.2.1.getD i 0 + sumF set (g.2.2.getD i []) (g.2.2.getD i []).length
theorem force_b {g : Gat} {set : Int} {i : Nat} (h : gatesE g = 0) (hi : i < g.1.length) : -90000 ≤ forceE g set i ∧ forceE g set i ≤ 90000 := by
  obtain ⟨h1, h2⟩ := gates_ok h; have h3 := head_ok h1; have h4 := gateE_ok (h2 i hi); have := sumF_b (set := set) h4.2.2.2.1 (g.2.2.getD i []).length (Nat.le_refl _); unfold forceE; omega
def overB (g : Gat) (set : Int) (i : Nat) : Bool := hasB set i && decide (g.1.getD i 0 < max (forceE g set i) (-forceE g set i))
def permE (g : Gat) (set : Int) : Nat → Bool
  | 0 => true
  | k + 1 => permE g set k && !overB g set k
theorem perm_no {g : Gat} {set : Int} {k : Nat} (h : overB g set k = true) : ∀ {n : Nat}, k < n → permE g set n = false
  | 0, hk => absurd hk (Nat.not_lt_zero _)
  | n + 1, hk => by
    show (permE g set n && !overB g set n) = false; by_cases e : k = n
    · subst e; rw [h]; simp
    rw [perm_no h (show k < n by omega)] <;> rfl
def setE (g : Gat) (set : Int) : Int := whenE (decide (set < 0) || decide ((1 : Int) * 2 ^ ((g.1.length : Nat) : Int).toNat ≤ set)) 10
end Go.Proofs
namespace Go.Proofs
open Go.Fs Ieee
end Go.Proofs
namespace Go.Proofs
open Go.Fs
set_option maxHeartbeats 400000
abbrev y88 : Ty := (.pair (.sl (.int .i64)) (.pair (.sl (.int .i64)) (.sl (.sl (.int .i64)))))
abbrev y92 : Ty := (.pair (.sl (.int .i64)) (.pair (.sl (.int .i64)) (.sl (.sl (.int .i64)))))
theorem vt25 : ValT Tryz.prog 25 y25 := valT_of (by kernel_rfl)
theorem vt86 : ValT Tryz.prog 86 (.sl (.sl (.int .i64))) := valT_of (by kernel_rfl)
theorem vt88 : ValT Tryz.prog 88 y88 := valT_of (by kernel_rfl)
theorem vt92 : ValT Tryz.prog 92 y92 := valT_of (by kernel_rfl)
theorem el86 : ElT Tryz.prog 86 25 y25 := elT_of (by kernel_rfl)
theorem pow9 {n : Nat} (h : n ≤ 9) : (1 : Int) ≤ 2 ^ (((n : Nat) : Int).toNat) ∧ (2 : Int) ^ (((n : Nat) : Int).toNat) ≤ 512 := by
  rw [Int.toNat_natCast]; have h1 : (2 : Nat) ^ n ≤ 2 ^ 9 := Nat.pow_le_pow_right (by decide) h; have h2 : 1 ≤ (2 : Nat) ^ n := Nat.one_le_two_pow
  have e : ((2 ^ n : Nat) : Int) = (2 : Int) ^ n := by simp
  rw [← e]; omega
theorem rCheckSet_ok {g : (List Int) × (List Int) × (List (List Int))} {set : Int} (hl : g.1.length ≤ 9) : VF Tryz.prog OA 59 [.v y88 g, I set] (I (setE g set)) := by
  refine VF.enter Tryz.func59 rfl (fun _ _ => rfl) rfl ?_; show VC _ _ _ _ _ [(0, .v y88 g), (1, I set)] [] _; refine VC.seq (VC.text ?_); refine VO.new (.box) ?_; refine VO.c (.assign rfl) ?_; refine VO.go (VC.seq (VC.text ?_)); have hp := pow9 hl; refine VO.c (.move rfl) (VO.c (.lss) (VO.c (.move rfl) ?_)); refine VO.cg (r := decide (set < (0 : Int))) (w := false) [] trivial (fun _ => (.move rfl)) ?_; refine VO.cg (r := decide (set < (0 : Int))) (w := false) [] trivial (fun _ => (.fa (.l .o))) ?_; refine VO.rg (r := decide (set < (0 : Int))) (w := false) [(9, .p y25 g.1)] ⟨rfl, trivial⟩ (fun _ => (.ld vt25)) ?_; refine VO.rg (r := decide (set < (0 : Int))) (w := false) [(10, .v y25 g.1)] ⟨rfl, trivial⟩ (fun _ => (.len el25)) ?_; refine VO.cg (r := decide (set < (0 : Int))) (w := false) [(11, I ((g.1.length : Nat) : Int))] ⟨rfl, trivial⟩ (fun hgd => have g1_2 : ¬ (set < (0 : Int)) := (by simpa using hgd); (.shl rfl rfl (by omega) (by omega))) ?_; refine VO.cg (r := decide (set < (0 : Int))) (w := false) [(8, I set), (12, I ((1 : Int) * 2 ^ (((g.1.length : Nat) : Int)).toNat))] ⟨rfl, rfl, trivial⟩ (fun _ => (.geq)) ?_; refine VO.c (.or) ?_; refine VO.call rfl rfl (VF.call (rWhen_ok )) ?_; refine VO.c (.assign rfl) (VO.go ?_); refine VC.ret ?_; exact VEnd.one rfl evT (pvI (by rfl))
theorem cCheckSet_ok {g : (List Int) × (List Int) × (List (List Int))} {set : Int} (hl : g.1.length ≤ 9) : VF Tryz.prog OA 128 [.v y92 g, I set] (I (setE g set)) := by
  refine VF.enter Tryz.func128 rfl (fun _ _ => rfl) rfl ?_; show VC _ _ _ _ _ [(0, .v y92 g), (1, I set)] [] _; refine VC.seq (VC.text ?_); refine VO.new (.box) ?_; refine VO.c (.assign rfl) ?_; refine VO.go (VC.seq (VC.text ?_)); have hp := pow9 hl; refine VO.c (.move rfl) (VO.c (.lss) (VO.c (.move rfl) ?_)); refine VO.cg (r := decide (set < (0 : Int))) (w := false) [] trivial (fun _ => (.move rfl)) ?_; refine VO.cg (r := decide (set < (0 : Int))) (w := false) [] trivial (fun _ => (.fa (.l .o))) ?_; refine VO.rg (r := decide (set < (0 : Int))) (w := false) [(9, .p y25 g.1)] ⟨rfl, trivial⟩ (fun _ => (.ld vt25)) ?_; refine VO.rg (r := decide (set < (0 : Int))) (w := false) [(10, .v y25 g.1)] ⟨rfl, trivial⟩ (fun _ => (.len el25)) ?_; refine VO.cg (r := decide (set < (0 : Int))) (w := false) [(11, I ((g.1.length : Nat) : Int))] ⟨rfl, trivial⟩ (fun hgd => have g1_2 : ¬ (set < (0 : Int)) := (by simpa using hgd); (.shl rfl rfl (by omega) (by omega))) ?_; refine VO.cg (r := decide (set < (0 : Int))) (w := false) [(8, I set), (12, I ((1 : Int) * 2 ^ (((g.1.length : Nat) : Int)).toNat))] ⟨rfl, rfl, trivial⟩ (fun _ => (.geq)) ?_; refine VO.c (.or) ?_; refine VO.call rfl rfl (VF.call (cWhen_ok )) ?_; refine VO.c (.assign rfl) (VO.go ?_); refine VC.ret ?_; exact VEnd.one rfl evT (pvI (by rfl))
theorem cHas_ok {set : Int} {gate : Int} (h0 : 0 ≤ gate ∧ gate ≤ 64) : VF Tryz.prog OA 136 [I set, I gate] (B (hasI set gate)) := by
  refine VF.enter Tryz.func136 rfl (fun _ _ => rfl) rfl ?_; show VC _ _ _ _ _ [(0, I set), (1, I gate)] [] _; refine VC.seq (VC.text ?_); refine VO.c (.assign rfl) ?_; refine VO.go (VC.seq (VC.text ?_)); refine VO.c (.move rfl) (VO.c (.move rfl) (VO.c (.shr rfl rfl (by omega)) (VO.c ((.andI rfl rfl)) ?_))); refine VO.c (.eql) (VO.c (.assign rfl) (VO.go ?_)); refine VC.ret ?_; exact VEnd.one rfl evT (pvE (by rfl))
theorem cForce_ok {g : (List Int) × (List Int) × (List (List Int))} {set : Int} {gate : Int} (hg : gatesE g = 0) (h0 : 0 ≤ gate) (h1 : gate < ((g.1.length : Nat) : Int)) : VF Tryz.prog OA 129 [.v y92 g, I set, I gate] (I (forceE g set gate.toNat)) := by
  refine VF.enter Tryz.func129 rfl (fun _ _ => rfl) rfl ?_; show VC _ _ _ _ _ [(0, .v y92 g), (1, I set), (2, I gate)] [] _; refine VC.seq (VC.text ?_); refine VO.new (.box) ?_; refine VO.c (.assign rfl) ?_; refine VO.go (VC.seq (VC.text ?_)); have hd := head_ok (gates_ok hg).1; have hv := gateE_ok ((gates_ok hg).2 gate.toNat (by omega)); rw [getDg (l := g.2.2) (i := gate.toNat) (by omega), getDg (l := g.2.1) (i := gate.toNat) (by omega)] at hv
  have hf : forceE g set gate.toNat = g.2.1[gate.toNat]'(by omega) + sumF set (g.2.2[gate.toNat]'(by omega)) ((g.2.2[gate.toNat]'(by omega)).length) := by
    unfold forceE; rw [getDg (l := g.2.2) (i := gate.toNat) (by omega), getDg (l := g.2.1) (i := gate.toNat) (by omega)]
  refine VO.c (.fa (.r (.l .o))) ?_; refine VO.r (.ld vt25) ?_; refine VO.c (.move rfl) (VO.c (.ixZ (k := gate) rfl rfl el25 (by omega) (by omega)) ?_); refine VO.r (.ld vt3) ?_; refine VO.c (.assign rfl) ?_; refine VO.go (VC.seq (VC.seq (VC.text ?_))); refine VO.c (.fa (.r (.r .o))) ?_; refine VO.r (.ld vt86) ?_; refine VO.c (.move rfl) (VO.c (.ixZ (k := gate) rfl rfl el86 (by omega) (by omega)) ?_); refine VO.r (.ld vt25) ?_; refine VO.r (.len el25) ?_; refine VO.c (.move rfl) ?_; refine VO.go (VC.block ?_); refine VC.keep [(1, I set), (7, I (g.2.1[gate.toNat] + sumF set (g.2.2[gate.toNat]) 0)), (19, .v y25 (g.2.2[Int.toNat gate])), (20, I (((g.2.2[Int.toNat gate]).length : Nat) : Int)), (21, I ((0 : Nat) : Int))] ⟨rfl, slI rfl (by simp [sumF]), rfl, rfl, rfl, trivial⟩ ?_; refine VC.loop (I := fun kk ff ss => ∃ (j : Nat), kk = (g.2.2[gate.toNat]).length - j ∧ ff = [(1, I set), (7, I (g.2.1[gate.toNat] + sumF set (g.2.2[gate.toNat]) j)), (19, .v y25 (g.2.2[Int.toNat gate])), (20, I (((g.2.2[Int.toNat gate]).length : Nat) : Int)), (21, I ((j : Nat) : Int))] ∧ ss = [] ∧ (j ≤ (g.2.2[gate.toNat]).length)) ?_ _ _ _ ⟨0, rfl, rfl, rfl, (by omega)⟩; rintro kk ff ss ⟨j, hk0, rfl, rfl, hj⟩; refine VC.seq (VC.text ?_); refine VO.c (.lss) ?_; refine VO.go (VC.seq ?_); refine VC.condD rfl (fun c3 => ?_) (fun c3 => ?_)
  · have hjr : j < (g.2.2[gate.toNat]'(by omega)).length := by omega
    have hb := sumF_b (set := set) hv.2.2.2.1 j (by omega); have hx := hv.2.2.2.1 _ (List.getElem_mem hjr); refine VC.skip (VC.seq (VC.block (VC.seq (VC.text ?_)))); refine VO.c (.move rfl) (VO.c (.ix (j := j) rfl rfl el25 (by omega)) ?_); refine VO.r (.ld vt3) ?_; refine VO.c (.assign rfl) (VO.c (.assign rfl) ?_); refine VO.go (VC.seq (VC.text ?_)); refine VO.c (.move rfl) (VO.c (.move rfl) ?_); refine VO.call rfl rfl (VF.call (cHas_ok (by first | assumption | omega | simp))) ?_; refine VO.go ?_; refine VC.condB rfl (fun c5 => ?_) (fun c5 => ?_)
    · refine VC.text ?_; refine VO.c (.move rfl) (VO.c (.move rfl) (VO.c (.add rfl rfl (by omega)) (VO.c (.assign rfl) ?_))); refine VO.nil (VC.text ?_); refine VO.c (.add rfl rfl (by omega)) (VO.c (.move rfl) ?_); refine VO.nil ?_; refine ⟨_, [(1, I set), (7, I (g.2.1[gate.toNat] + sumF set (g.2.2[gate.toNat]) (j + 1))), (19, .v y25 (g.2.2[Int.toNat gate])), (20, I (((g.2.2[Int.toNat gate]).length : Nat) : Int)), (21, I (((j + 1) : Nat) : Int))], ?_, ⟨rfl, slI rfl (by first | (rw [sumF_t (show hasB set j = true from c5), getDg hjr]; omega) | (rw [sumF_f (show hasB set j = false from c5)])), rfl, rfl, rfl, trivial⟩, (j + 1), rfl, rfl, rfl, (by omega)⟩; omega
    refine VC.skip (VC.text ?_); refine VO.c (.add rfl rfl (by omega)) (VO.c (.move rfl) ?_); refine VO.nil ?_; refine ⟨_, [(1, I set), (7, I (g.2.1[gate.toNat] + sumF set (g.2.2[gate.toNat]) (j + 1))), (19, .v y25 (g.2.2[Int.toNat gate])), (20, I (((g.2.2[Int.toNat gate]).length : Nat) : Int)), (21, I (((j + 1) : Nat) : Int))], ?_, ⟨rfl, slI rfl (by first | (rw [sumF_t (show hasB set j = true from c5), getDg hjr]; omega) | (rw [sumF_f (show hasB set j = false from c5)])), rfl, rfl, rfl, trivial⟩, (j + 1), rfl, rfl, rfl, (by omega)⟩; omega
  refine VC.exit (VC.seq (VC.text ?_)); refine VO.c (.move rfl) (VO.c (.assign rfl) (VO.go ?_)); refine VC.ret ?_; exact VEnd.one rfl evT (pvI (by rw [hf, show j = (g.2.2[gate.toNat]'(by omega)).length by omega]))
theorem rForce_ok {g : (List Int) × (List Int) × (List (List Int))} {set : Int} {gate : Int} (hg : gatesE g = 0) (h0 : 0 ≤ gate) (h1 : gate < ((g.1.length : Nat) : Int)) : VF Tryz.prog OA 60 [.v y88 g, I set, I gate] (I (forceE g set gate.toNat)) := by
  refine VF.enter Tryz.func60 rfl (fun _ _ => rfl) rfl ?_; show VC _ _ _ _ _ [(0, .v y88 g), (1, I set), (2, I gate)] [] _; refine VC.seq (VC.text ?_); refine VO.new (.box) ?_; refine VO.c (.assign rfl) ?_; refine VO.go (VC.seq (VC.text ?_)); have hd := head_ok (gates_ok hg).1; have hv := gateE_ok ((gates_ok hg).2 gate.toNat (by omega)); rw [getDg (l := g.2.2) (i := gate.toNat) (by omega), getDg (l := g.2.1) (i := gate.toNat) (by omega)] at hv
  have hf : forceE g set gate.toNat = g.2.1[gate.toNat]'(by omega) + sumF set (g.2.2[gate.toNat]'(by omega)) ((g.2.2[gate.toNat]'(by omega)).length) := by
    unfold forceE; rw [getDg (l := g.2.2) (i := gate.toNat) (by omega), getDg (l := g.2.1) (i := gate.toNat) (by omega)]
  refine VO.c (.fa (.r (.l .o))) ?_; refine VO.r (.ld vt25) ?_; refine VO.c (.move rfl) (VO.c (.ixZ (k := gate) rfl rfl el25 (by omega) (by omega)) ?_); refine VO.r (.ld vt3) ?_; refine VO.c (.assign rfl) ?_; refine VO.go (VC.seq (VC.seq (VC.text ?_))); refine VO.c (.assign rfl) ?_; refine VO.go (VC.block ?_); refine VC.keep [(1, I set), (2, I gate), (3, .p y88 g), (7, I (g.2.1[gate.toNat] + sumF set (g.2.2[gate.toNat]) 0)), (8, I ((0 : Nat) : Int))] ⟨rfl, rfl, rfl, slI rfl (by simp [sumF]), rfl, trivial⟩ ?_; refine VC.loop (I := fun kk ff ss => ∃ (j : Nat), kk = g.2.1.length - j ∧ ff = [(1, I set), (2, I gate), (3, .p y88 g), (7, I (g.2.1[gate.toNat] + sumF set (g.2.2[gate.toNat]) j)), (8, I ((j : Nat) : Int))] ∧ ss = [] ∧ (j ≤ g.2.1.length)) ?_ _ _ _ ⟨0, rfl, rfl, rfl, Nat.zero_le _⟩; rintro kk ff ss ⟨j, hk0, rfl, rfl, hj⟩; refine VC.seq (VC.seq (VC.text ?_)); refine VO.c (.move rfl) (VO.c (.fa (.r (.l .o))) ?_); refine VO.r (.ld vt25) ?_; refine VO.r (.len el25) ?_; refine VO.c (.lss) (VO.go ?_); refine VC.condD rfl (fun c3 => ?_) (fun c3 => ?_)
  · have hjr : j < (g.2.2[gate.toNat]'(by omega)).length := by omega
    have hb := sumF_b (set := set) hv.2.2.2.1 j (by omega); have hx := hv.2.2.2.1 _ (List.getElem_mem hjr); refine VC.skip (VC.seq (VC.block (VC.seq (VC.text ?_)))); refine VO.c (.move rfl) (VO.c (.move rfl) (VO.c (.shr rfl rfl (by omega)) (VO.c ((.andI rfl rfl)) ?_))); refine VO.c (.eql) (VO.go ?_); refine VC.condD rfl (fun c5 => ?_) (fun c5 => ?_)
    · refine VC.text ?_; refine VO.c (.move rfl) (VO.c (.fa (.r (.r .o))) ?_); refine VO.r (.ld vt86) ?_; refine VO.c (.move rfl) (VO.c (.ixZ (k := gate) rfl rfl el86 (by omega) (by omega)) ?_); refine VO.r (.ld vt25) ?_; refine VO.c (.move rfl) (VO.c (.ix (j := j) rfl rfl el25 (by omega)) ?_); refine VO.r (.ld vt3) ?_; refine VO.c (.add rfl rfl (by omega)) (VO.c (.assign rfl) ?_); refine VO.nil (VC.text ?_); refine VO.c (.move rfl) (VO.c (.add rfl rfl (by omega)) (VO.c (.assign rfl) ?_)); refine VO.nil ?_; refine ⟨_, [(1, I set), (2, I gate), (3, .p y88 g), (7, I (g.2.1[gate.toNat] + sumF set (g.2.2[gate.toNat]) (j + 1))), (8, I (((j + 1) : Nat) : Int))], ?_, ⟨rfl, rfl, rfl, slI rfl (by first | (rw [sumF_t (show hasB set j = true from decide_eq_true c5), getDg hjr]; omega) | (rw [sumF_f (show hasB set j = false from decide_eq_false c5)])), rfl, trivial⟩, (j + 1), rfl, rfl, rfl, (by omega)⟩; omega
    refine VC.skip (VC.text ?_); refine VO.c (.move rfl) (VO.c (.add rfl rfl (by omega)) (VO.c (.assign rfl) ?_)); refine VO.nil ?_; refine ⟨_, [(1, I set), (2, I gate), (3, .p y88 g), (7, I (g.2.1[gate.toNat] + sumF set (g.2.2[gate.toNat]) (j + 1))), (8, I (((j + 1) : Nat) : Int))], ?_, ⟨rfl, rfl, rfl, slI rfl (by first | (rw [sumF_t (show hasB set j = true from decide_eq_true c5), getDg hjr]; omega) | (rw [sumF_f (show hasB set j = false from decide_eq_false c5)])), rfl, trivial⟩, (j + 1), rfl, rfl, rfl, (by omega)⟩; omega
  refine VC.exit (VC.seq (VC.text ?_)); refine VO.c (.move rfl) (VO.c (.assign rfl) (VO.go ?_)); refine VC.ret ?_; exact VEnd.one rfl evT (pvI (by rw [hf, show j = (g.2.2[gate.toNat]'(by omega)).length by omega]))
theorem perm_step {g : Gat} {set : Int} {k : Nat} (h : overB g set k = false) : permE g set (k + 1) = permE g set k := by
  show (permE g set k && !overB g set k) = _; rw [h]; simp
theorem over_t {g : Gat} {set : Int} {k : Nat} {x : Int} (hx : g.1.getD k 0 = x) (h : hasI set ((k : Nat) : Int) = true ∧ x < max (forceE g set k) (-forceE g set k)) : overB g set k = true := by
  unfold overB hasB; rw [hx, h.1, decide_eq_true h.2] <;> rfl
theorem over_f {g : Gat} {set : Int} {k : Nat} {x : Int} (hx : g.1.getD k 0 = x) (h : hasI set ((k : Nat) : Int) = false ∨ ¬ x < max (forceE g set k) (-forceE g set k)) : overB g set k = false := by
  unfold overB hasB; rw [hx]; rcases h with h | h
  · rw [h] <;> rfl
  rw [decide_eq_false h]; simp
theorem cPerm_ok {g : (List Int) × (List Int) × (List (List Int))} {set : Int} (hg : gatesE g = 0) : VF Tryz.prog OA 130 [.v y92 g, I set] (B (permE g set g.1.length)) := by
  refine VF.enter Tryz.func130 rfl (fun _ _ => rfl) rfl ?_; show VC _ _ _ _ _ [(0, .v y92 g), (1, I set)] [] _; refine VC.seq (VC.text ?_); have hd := head_ok (gates_ok hg).1; refine VO.new (.box) ?_; refine VO.c (.assign rfl) ?_; refine VO.go (VC.seq (VC.seq (VC.text ?_))); refine VO.c (.fa (.l .o)) ?_; refine VO.r (.ld vt25) ?_; refine VO.r (.len el25) ?_; refine VO.c (.move rfl) ?_; refine VO.go (VC.block ?_); refine VC.keep [(1, I set), (2, .p y92 g), (9, .v y25 g.1), (10, I ((g.1.length : Nat) : Int)), (11, I ((0 : Nat) : Int))] ⟨rfl, rfl, rfl, rfl, rfl, trivial⟩ ?_; refine VC.loop (I := fun kk ff ss => ∃ (j : Nat), kk = g.1.length - j ∧ ff = [(1, I set), (2, .p y92 g), (9, .v y25 g.1), (10, I ((g.1.length : Nat) : Int)), (11, I ((j : Nat) : Int))] ∧ ss = [] ∧ (j ≤ g.1.length) ∧ (permE g set j = true)) ?_ _ _ _ ⟨0, rfl, rfl, rfl, Nat.zero_le _, (by rfl)⟩; rintro kk ff ss ⟨j, hk0, rfl, rfl, hj, hp⟩; refine VC.seq (VC.text ?_); refine VO.c (.lss) ?_; refine VO.go (VC.seq ?_); refine VC.condD rfl (fun c2 => ?_) (fun c2 => ?_)
  · have hjl : j < g.1.length := by omega
    have hfb := force_b (set := set) hg hjl; refine VC.skip (VC.seq (VC.block (VC.seq (VC.text ?_)))); refine VO.c (.move rfl) (VO.c (.ix (j := j) rfl rfl el25 (by omega)) ?_); refine VO.r (.ld vt3) ?_; refine VO.c (.assign rfl) (VO.c (.assign rfl) ?_); refine VO.go (VC.seq (VC.text ?_)); refine VO.r (.ld vt92) ?_; refine VO.c (.move rfl) (VO.c (.move rfl) ?_); refine VO.call rfl rfl (VF.call (cForce_ok hg (by omega) (by omega))) ?_; refine VO.c (.assign rfl) ?_; refine VO.go (VC.seq (VC.text ?_)); refine VO.c (.move rfl) (VO.c (.move rfl) ?_); refine VO.call rfl rfl (VF.call (cHas_ok (by first | assumption | omega | simp))) ?_; refine VO.c (.move rfl) ?_; refine VO.cg (r := hasI set ((j : Nat) : Int)) (w := true) [] trivial (fun _ => (.move rfl)) ?_; refine VO.cg (r := hasI set ((j : Nat) : Int)) (w := true) [] trivial (fun _ => (.move rfl)) ?_; refine VO.cg (r := hasI set ((j : Nat) : Int)) (w := true) [(25, I (forceE g set j))] ⟨rfl, trivial⟩ (fun hgd => have g5_3 : hasI set ((j : Nat) : Int) = true := (by simpa using hgd); (.neg rfl (by omega))) ?_; refine VO.rg (r := hasI set ((j : Nat) : Int)) (w := true) [(24, I (forceE g set j)), (26, I (-(forceE g set j)))] ⟨rfl, rfl, trivial⟩ (fun _ => (.max)) ?_; refine VO.cg (r := hasI set ((j : Nat) : Int)) (w := true) [] trivial (fun _ => (.move rfl)) ?_; refine VO.cg (r := hasI set ((j : Nat) : Int)) (w := true) [(27, I (max (forceE g set j) (-(forceE g set j)))), (28, I (g.1[j]))] ⟨rfl, rfl, trivial⟩ (fun _ => (.gtr)) ?_; refine VO.c (.and) (VO.go ?_); refine VC.condB rfl (fun c5 => ?_) (fun c5 => ?_)
    · try simp only [Bool.and_eq_true, Bool.or_eq_true, Bool.and_eq_false_iff, Bool.or_eq_false_iff, Bool.not_eq_true', Bool.not_eq_false', decide_eq_true_eq, decide_eq_false_iff_not] at c5
      refine VC.seq (VC.text ?_); refine VO.c (.assign rfl) (VO.go ?_); refine VC.ret ?_; exact VEnd.one rfl evT (pvE (by rw [perm_no (k := j) (over_t (getDg hjl) c5) hjl]))
    try simp only [Bool.and_eq_true, Bool.or_eq_true, Bool.and_eq_false_iff, Bool.or_eq_false_iff, Bool.not_eq_true', Bool.not_eq_false', decide_eq_true_eq, decide_eq_false_iff_not] at c5
    refine VC.skip (VC.text ?_); refine VO.c (.add rfl rfl (by omega)) (VO.c (.move rfl) ?_); refine VO.nil ?_; refine ⟨_, [(1, I set), (2, .p y92 g), (9, .v y25 g.1), (10, I ((g.1.length : Nat) : Int)), (11, I (((j + 1) : Nat) : Int))], ?_, ⟨rfl, rfl, rfl, rfl, rfl, trivial⟩, (j + 1), rfl, rfl, rfl, (by omega), (by rw [perm_step (over_f (getDg hjl) c5)]; exact hp)⟩; omega
  refine VC.exit (VC.seq (VC.text ?_)); refine VO.c (.assign rfl) (VO.go ?_); refine VC.ret ?_; exact VEnd.one rfl evT (pvE (by rw [show g.1.length = j by omega, hp]))
theorem rPerm_ok {g : (List Int) × (List Int) × (List (List Int))} {set : Int} (hg : gatesE g = 0) : VF Tryz.prog OA 61 [.v y88 g, I set] (B (permE g set g.1.length)) := by
  refine VF.enter Tryz.func61 rfl (fun _ _ => rfl) rfl ?_; show VC _ _ _ _ _ [(0, .v y88 g), (1, I set)] [] _; refine VC.seq (VC.text ?_); have hd := head_ok (gates_ok hg).1; refine VO.new (.box) ?_; refine VO.c (.assign rfl) ?_; refine VO.go (VC.seq (VC.seq (VC.text ?_))); refine VO.c (.assign rfl) ?_; refine VO.go (VC.block ?_); refine VC.keep [(1, I set), (2, .p y88 g), (5, I ((0 : Nat) : Int))] ⟨rfl, rfl, rfl, trivial⟩ ?_; refine VC.loop (I := fun kk ff ss => ∃ (j : Nat), kk = g.2.1.length - j ∧ ff = [(1, I set), (2, .p y88 g), (5, I ((j : Nat) : Int))] ∧ ss = [] ∧ (j ≤ g.2.1.length) ∧ (permE g set j = true)) ?_ _ _ _ ⟨0, rfl, rfl, rfl, Nat.zero_le _, (by rfl)⟩; rintro kk ff ss ⟨j, hk0, rfl, rfl, hj, hp⟩; refine VC.seq (VC.seq (VC.text ?_)); refine VO.c (.move rfl) (VO.c (.fa (.r (.l .o))) ?_); refine VO.r (.ld vt25) ?_; refine VO.r (.len el25) ?_; refine VO.c (.lss) (VO.go ?_); refine VC.condD rfl (fun c2 => ?_) (fun c2 => ?_)
  · have hjl : j < g.1.length := by omega
    have hfb := force_b (set := set) hg hjl; refine VC.skip (VC.seq (VC.block (VC.seq (VC.text ?_)))); refine VO.r (.ld vt88) ?_; refine VO.c (.move rfl) (VO.c (.move rfl) ?_); refine VO.call rfl rfl (VF.call (rForce_ok hg (by omega) (by omega))) ?_; refine VO.c (.assign rfl) ?_; refine VO.go (VC.seq (VC.text ?_)); refine VO.c (.move rfl) (VO.c (.move rfl) (VO.c (.shr rfl rfl (by omega)) (VO.c ((.andI rfl rfl)) ?_))); refine VO.c (.eql) (VO.c (.move rfl) ?_); refine VO.cg (r := decide ((Fs.andI (set.fdiv (2 ^ (((j : Nat) : Int)).toNat)) (1 : Int)) = (1 : Int))) (w := true) [] trivial (fun _ => (.move rfl)) ?_; refine VO.cg (r := decide ((Fs.andI (set.fdiv (2 ^ (((j : Nat) : Int)).toNat)) (1 : Int)) = (1 : Int))) (w := true) [] trivial (fun _ => (.move rfl)) ?_; refine VO.cg (r := decide ((Fs.andI (set.fdiv (2 ^ (((j : Nat) : Int)).toNat)) (1 : Int)) = (1 : Int))) (w := true) [(25, I (forceE g set j))] ⟨rfl, trivial⟩ (fun hgd => have g5_5 : (Fs.andI (set.fdiv (2 ^ (((j : Nat) : Int)).toNat)) (1 : Int)) = (1 : Int) := (by simpa using hgd); (.sub rfl rfl (by omega))) ?_; refine VO.rg (r := decide ((Fs.andI (set.fdiv (2 ^ (((j : Nat) : Int)).toNat)) (1 : Int)) = (1 : Int))) (w := true) [(24, I (forceE g set j)), (26, I ((0 : Int) - forceE g set j))] ⟨rfl, rfl, trivial⟩ (fun _ => (.max)) ?_; refine VO.cg (r := decide ((Fs.andI (set.fdiv (2 ^ (((j : Nat) : Int)).toNat)) (1 : Int)) = (1 : Int))) (w := true) [] trivial (fun _ => (.fa (.l .o))) ?_; refine VO.rg (r := decide ((Fs.andI (set.fdiv (2 ^ (((j : Nat) : Int)).toNat)) (1 : Int)) = (1 : Int))) (w := true) [(28, .p y25 g.1)] ⟨rfl, trivial⟩ (fun _ => (.ld vt25)) ?_; refine VO.cg (r := decide ((Fs.andI (set.fdiv (2 ^ (((j : Nat) : Int)).toNat)) (1 : Int)) = (1 : Int))) (w := true) [] trivial (fun _ => (.move rfl)) ?_; refine VO.cg (r := decide ((Fs.andI (set.fdiv (2 ^ (((j : Nat) : Int)).toNat)) (1 : Int)) = (1 : Int))) (w := true) [(29, .v y25 g.1), (30, I ((j : Nat) : Int))] ⟨rfl, rfl, trivial⟩ (fun hgd => have g5_5 : (Fs.andI (set.fdiv (2 ^ (((j : Nat) : Int)).toNat)) (1 : Int)) = (1 : Int) := (by simpa using hgd); (.ixD (j := j) rfl rfl 0 el25 (by omega))) ?_; refine VO.rg (r := decide ((Fs.andI (set.fdiv (2 ^ (((j : Nat) : Int)).toNat)) (1 : Int)) = (1 : Int))) (w := true) [(31, .p (.int .i64) (g.1.getD j 0))] ⟨rfl, trivial⟩ (fun _ => (.ld vt3)) ?_; refine VO.cg (r := decide ((Fs.andI (set.fdiv (2 ^ (((j : Nat) : Int)).toNat)) (1 : Int)) = (1 : Int))) (w := true) [(27, I (max (forceE g set j) ((0 : Int) - forceE g set j))), (32, I (g.1.getD j 0))] ⟨rfl, rfl, trivial⟩ (fun _ => (.gtr)) ?_; refine VO.c (.and) (VO.go ?_); refine VC.condB rfl (fun c5 => ?_) (fun c5 => ?_)
    · try simp only [Bool.and_eq_true, Bool.or_eq_true, Bool.and_eq_false_iff, Bool.or_eq_false_iff, Bool.not_eq_true', Bool.not_eq_false', decide_eq_true_eq, decide_eq_false_iff_not] at c5
      refine VC.seq (VC.text ?_); refine VO.c (.assign rfl) (VO.go ?_); refine VC.ret ?_; exact VEnd.one rfl evT (pvE (by rw [perm_no (k := j) (over_t (getDg hjl) ⟨decide_eq_true c5.1, by have h := c5.2; rw [getDg hjl, Int.zero_sub] at h; exact h⟩) hjl]))
    try simp only [Bool.and_eq_true, Bool.or_eq_true, Bool.and_eq_false_iff, Bool.or_eq_false_iff, Bool.not_eq_true', Bool.not_eq_false', decide_eq_true_eq, decide_eq_false_iff_not] at c5
    refine VC.skip (VC.text ?_); refine VO.c (.move rfl) (VO.c (.add rfl rfl (by omega)) (VO.c (.assign rfl) ?_)); refine VO.nil ?_; refine ⟨_, [(1, I set), (2, .p y88 g), (5, I (((j + 1) : Nat) : Int))], ?_, ⟨rfl, rfl, rfl, trivial⟩, (j + 1), rfl, rfl, rfl, (by omega), (by rw [perm_step (over_f (getDg hjl) (c5.imp (fun h => decide_eq_false h) fun h => by rw [getDg hjl, Int.zero_sub] at h; exact h))]; exact hp)⟩; omega
  refine VC.exit (VC.seq (VC.text ?_)); refine VO.c (.assign rfl) (VO.go ?_); refine VC.ret ?_; exact VEnd.one rfl evT (pvE (by rw [show g.1.length = j by omega, hp]))
end Go.Proofs
namespace Go.Proofs
open Go.Fs
set_option maxHeartbeats 1000000
abbrev y86 : Ty := (.sl (.sl (.int .i64)))
theorem rangeE_ne {n lo hi : Int} (h : rangeE n lo hi ≠ 0) : rangeE n lo hi = 3 := by
  unfold rangeE at h ⊢; by_cases hh : n < lo ∨ hi < n
  · rw [if_pos hh]
  rw [if_neg hh] at h; exact absurd rfl h
def gateX (n : Nat) (s x : Int) (row : List Int) (i : Nat) : Int := firstE (row4 n s x row ++ [if row.getD i 0 ≠ 0 then 1 else 0])
theorem row4_eq {n : Nat} {s x : Int} {row : List Int} : row4 n s x row = row3 n s x row ++ [firstE (row.map frcE)] := rfl
theorem gate_a {n : Nat} {s x : Int} {row : List Int} {i : Nat} (h : firstE (row3 n s x row) ≠ 0) : gateX n s x row i = firstE (row3 n s x row) := by
  unfold gateX; rw [firstE_app, row4_eq, firstE_app, if_neg h, if_neg h]
theorem gate_a4 {n : Nat} {s x : Int} {row : List Int} {i : Nat} (h : firstE (row4 n s x row) ≠ 0) : gateX n s x row i = firstE (row4 n s x row) := by
  unfold gateX; rw [firstE_app, if_neg h]
theorem gate_b {n : Nat} {s x : Int} {row : List Int} {i : Nat} (h : firstE (row3 n s x row) = 0) (h2 : firstE (row.map frcE) ≠ 0) : gateX n s x row i = firstE (row.map frcE) := by
  unfold gateX; rw [firstE_app, row4_eq, firstE_app, if_pos h, if_neg h2]
theorem gate_c {n : Nat} {s x : Int} {row : List Int} {i : Nat} (h : firstE (row4 n s x row) = 0) : gateX n s x row i = if row.getD i 0 ≠ 0 then 1 else 0 := by
  unfold gateX; rw [firstE_app, if_pos h]
theorem row4_0 {n : Nat} {s x : Int} {row : List Int} (h : firstE (row3 n s x row) = 0) (h2 : firstE (row.map frcE) = 0) : firstE (row4 n s x row) = 0 := by
  rw [row4_eq, firstE_app, if_pos h, h2]
theorem row3_len {n : Nat} {s x : Int} {row : List Int} (h : firstE (row3 n s x row) = 0) : row.length = n := by
  have h3 := of_decide_eq_false ((whenE_zero (by decide)).1 (firstE_zero.1 h _ (List.mem_cons_of_mem _ (List.mem_cons_of_mem _ List.mem_cons_self)))); omega
theorem row4_3 {n : Nat} {s x : Int} {row : List Int} (h : firstE (row4 n s x row) = 0) : firstE (row3 n s x row) = 0 := by
  rw [row4_eq, firstE_app] at h; by_cases h2 : firstE (row3 n s x row) = 0
  · exact h2
  rw [if_neg h2] at h; exact absurd h h2
theorem gateE_x {g : Gat} {i : Nat} (h1 : i < g.1.length) (h2 : i < g.2.1.length) (h3 : i < g.2.2.length) : gateE g i = gateX g.1.length g.1[i] g.2.1[i] g.2.2[i] i := by
  unfold gateE gateX; rw [getDg h1, getDg h2, getDg h3]
theorem head_t {g : Gat} (h : ((g.2.1.length : Nat) : Int) ≠ ((g.1.length : Nat) : Int)) : firstE [whenE (decide (((g.1.length : Nat) : Int) = 0)) 12, whenE (decide ((8 : Int) < ((g.1.length : Nat) : Int))) 5, whenE true 2] = headG g := by
  unfold headG; rw [decide_eq_true h] <;> rfl
theorem head_f {g : Gat} (h : ¬ ((g.2.1.length : Nat) : Int) ≠ ((g.1.length : Nat) : Int)) : firstE [whenE (decide (((g.1.length : Nat) : Int) = 0)) 12, whenE (decide ((8 : Int) < ((g.1.length : Nat) : Int))) 5, whenE (decide (((g.2.2.length : Nat) : Int) ≠ ((g.1.length : Nat) : Int))) 2] = headG g := by
  unfold headG; rw [decide_eq_false h] <;> rfl
theorem gates_r {g : Gat} {i : Nat} (hh : headG g = 0) (hw : firstE (rowsE g) = firstE ((rowsE g).drop i)) (hi : i < g.1.length) (hz : gateE g i ≠ 0) : gatesE g = gateE g i := by
  have hi2 : i < (rowsE g).length := by rw [rowsE_len]; exact hi
  rw [gatesE, if_neg (fun h => h hh), hw, firstE_drop hi2, rowsE_at hi2, if_neg hz]
theorem gates_n {g : Gat} {i : Nat} (hw : firstE (rowsE g) = firstE ((rowsE g).drop i)) (hi : i < g.1.length) (hz : gateE g i = 0) : firstE (rowsE g) = firstE ((rowsE g).drop (i + 1)) := by
  have hi2 : i < (rowsE g).length := by rw [rowsE_len]; exact hi
  rw [hw, firstE_drop hi2, rowsE_at hi2, if_pos hz]
theorem rGates_ok {g : (List Int) × (List Int) × (List (List Int))} (h0 : g.1.length < 1000) : VF Tryz.prog OA 58 [.v y88 g] (I (gatesE g)) := by
  refine VF.enter Tryz.func58 rfl (fun _ _ => rfl) rfl ?_; show VC _ _ _ _ _ [(0, .v y88 g)] [] _; refine VC.seq (VC.text ?_); refine VO.new (.box) ?_; refine VO.c (.assign rfl) ?_; refine VO.go (VC.seq (VC.text ?_)); refine VO.c (.fa (.l .o)) ?_; refine VO.r (.ld vt25) ?_; refine VO.r (.len el25) ?_; refine VO.c (.assign rfl) ?_; refine VO.go (VC.seq (VC.seq ?_)); refine VC.join [(1, .p y88 g), (3, I ((g.1.length : Nat) : Int)), (4, I (headG g))] [] ?_ ?_
  · skip
    refine VC.drawn ?_; refine VD.c (.move rfl) (VD.c (.eql) ?_); refine VD.call rfl rfl (VF.call (rWhen_ok )) ?_; refine VD.c (.move rfl) (VD.c (.gtr) ?_); refine VD.call rfl rfl (VF.call (rWhen_ok )) ?_; refine VD.nw [] (VD.c (.fa (.r (.l .o))) ?_); refine VD.r [] (.ld vt25) (.inl rfl) ?_; refine VD.r [] (.len el25) (.inl rfl) ?_; refine VD.c (.move rfl) (VD.c (.neq) (VD.c (.move rfl) ?_)); refine VD.splitD (x := 22) rfl (fun g2_11 => ?_) (fun g2_11 => ?_)
    · refine VD.nw [] (VD.skip (VD.skip (VD.skip ?_))); refine VD.skip (VD.skip (VD.c (.pickT rfl rfl) ?_)); refine VD.call rfl rfl (VF.call (rWhen_ok )) ?_; refine VD.nw [] ?_; refine VD.new (.lit [whenE (decide (((g.1.length : Nat) : Int) = (0 : Int))) (12 : Int), whenE (decide ((8 : Int) < ((g.1.length : Nat) : Int))) (5 : Int), whenE true (2 : Int)] el25) ?_; refine VD.callO rfl rfl (VF.call (rFirst_ok (by simp))) ?_; refine VD.c (.assign rfl) ?_; refine VD.nil ?_; exact ⟨⟨rfl, rfl, slI rfl (by first | exact head_t g2_11 | exact head_f g2_11), trivial⟩, rfl⟩
    refine VD.nw [] (VD.c (.fa (.r (.r .o))) ?_); refine VD.r [] (.ld vt86) (.inl rfl) ?_; refine VD.r [] (.len el86) (.inl rfl) ?_; refine VD.c (.move rfl) (VD.c (.neq) (VD.c (.pickF rfl rfl) ?_)); refine VD.call rfl rfl (VF.call (rWhen_ok )) ?_; refine VD.nw [] ?_; refine VD.new (.lit [whenE (decide (((g.1.length : Nat) : Int) = (0 : Int))) (12 : Int), whenE (decide ((8 : Int) < ((g.1.length : Nat) : Int))) (5 : Int), whenE (decide (((g.2.2.length : Nat) : Int) ≠ ((g.1.length : Nat) : Int))) (2 : Int)] el25) ?_; refine VD.callO rfl rfl (VF.call (rFirst_ok (by simp))) ?_; refine VD.c (.assign rfl) ?_; refine VD.nil ?_; exact ⟨⟨rfl, rfl, slI rfl (by first | exact head_t g2_11 | exact head_f g2_11), trivial⟩, rfl⟩
  refine VC.seq (VC.text ?_); refine VO.c (.move rfl) (VO.c (.neq) (VO.go ?_)); refine VC.condD rfl (fun c3 => ?_) (fun c3 => ?_)
  · refine VC.seq (VC.text ?_); refine VO.c (.move rfl) (VO.c (.assign rfl) (VO.go ?_)); refine VC.ret ?_; exact VEnd.one rfl evT (pvI (by rw [gatesE, if_pos c3]))
  have hh : headG g = 0 := Classical.not_not.1 c3; have hd := head_ok hh; refine VC.skip (VC.seq (VC.seq (VC.text ?_))); refine VO.c (.assign rfl) ?_; refine VO.go (VC.block ?_); refine VC.keep [(1, .p y88 g), (3, I ((g.1.length : Nat) : Int)), (5, I ((0 : Nat) : Int))] ⟨rfl, rfl, rfl, trivial⟩ ?_; refine VC.loop (I := fun kk ff ss => ∃ (i : Nat), kk = g.1.length - i ∧ ff = [(1, .p y88 g), (3, I ((g.1.length : Nat) : Int)), (5, I ((i : Nat) : Int))] ∧ ss = [] ∧ (i ≤ g.1.length) ∧ (firstE (rowsE g) = firstE ((rowsE g).drop i))) ?_ _ _ _ ⟨0, rfl, rfl, rfl, Nat.zero_le _, (by rfl)⟩; rintro kk ff ss ⟨i, hk0, rfl, rfl, hi, hw⟩; refine VC.seq (VC.seq (VC.text ?_)); refine VO.c (.move rfl) (VO.c (.move rfl) (VO.c (.lss) (VO.go ?_))); refine VC.condD rfl (fun c6 => ?_) (fun c6 => ?_)
  · have hil : i < g.1.length := by omega
    have hgx := gateE_x (g := g) hil (by omega) (by omega); refine VC.skip (VC.seq (VC.block (VC.seq (VC.seq (VC.drawn ?_))))); refine VD.c (.fa (.l .o)) ?_; refine VD.r [] (.ld vt25) (.inl rfl) ?_; refine VD.c (.move rfl) (VD.c (.ix (j := i) rfl rfl el25 (by omega)) ?_); refine VD.r [] (.ld vt3) (.inl rfl) ?_; refine VD.call rfl rfl (VF.call (rCheckRange_ok )) ?_; refine VD.nw [] (VD.c (.fa (.r (.l .o))) ?_); refine VD.r [] (.ld vt25) (.inl rfl) ?_; refine VD.c (.move rfl) (VD.c (.ix (j := i) rfl rfl el25 (by omega)) ?_); refine VD.r [] (.ld vt3) (.inl rfl) ?_; refine VD.call rfl rfl (VF.call (rCheckRange_ok )) ?_; refine VD.c (.fa (.r (.r .o))) (VD.nw [] ?_); refine VD.r [] (.ld vt86) (.inl rfl) ?_; refine VD.c (.move rfl) (VD.c (.ix (j := i) rfl rfl el86 (by omega)) ?_); refine VD.r [] (.ld vt25) (.inl rfl) ?_; refine VD.r [] (.len el25) (.inl rfl) ?_; refine VD.c (.move rfl) (VD.c (.neq) (VD.nw [] ?_)); refine VD.call rfl rfl (VF.call (rWhen_ok )) ?_; refine VD.new (.lit [rangeE (g.1[i]) (0 : Int) (10000 : Int), rangeE (g.2.1[i]) (-10000 : Int) (10000 : Int), whenE (decide ((((g.2.2[i]).length : Nat) : Int) ≠ ((g.1.length : Nat) : Int))) (2 : Int)] el25) ?_; refine VD.callO rfl rfl (VF.call (rFirst_ok (by simp))) ?_; refine VD.c (.assign rfl) ?_; refine VD.go (VC.seq (VC.text ?_)); refine VO.c (.move rfl) (VO.c (.neq) (VO.go ?_)); refine VC.condD rfl (fun c9 => ?_) (fun c9 => ?_)
    · have c9 : firstE (row3 g.1.length g.1[i] (g.2.1[i]'(by omega)) (g.2.2[i]'(by omega))) ≠ 0 := c9; refine VC.seq (VC.text ?_); refine VO.c (.move rfl) (VO.c (.assign rfl) (VO.go ?_)); refine VC.ret ?_; exact VEnd.one rfl evT (pvI (by rw [gates_r hh hw hil (by rw [hgx, gate_a c9]; exact c9), hgx, gate_a c9] <;> rfl))
    have h3 : firstE (row3 g.1.length g.1[i] (g.2.1[i]'(by omega)) (g.2.2[i]'(by omega))) = 0 := Classical.not_not.1 c9; have hrl := row3_len h3; refine VC.skip (VC.seq (VC.seq (VC.text ?_))); refine VO.c (.assign rfl) ?_; refine VO.go (VC.block ?_); refine VC.keep [(1, .p y88 g), (3, I ((g.1.length : Nat) : Int)), (5, I ((i : Nat) : Int)), (7, I ((0 : Nat) : Int))] ⟨rfl, rfl, rfl, rfl, trivial⟩ ?_; refine VC.loop (I := fun kk ff ss => ∃ (k : Nat), kk = g.1.length - k ∧ ff = [(1, .p y88 g), (3, I ((g.1.length : Nat) : Int)), (5, I ((i : Nat) : Int)), (7, I ((k : Nat) : Int))] ∧ ss = [] ∧ (k ≤ g.1.length) ∧ (firstE ((g.2.2[i]'(by omega)).map frcE) = firstE (((g.2.2[i]'(by omega)).map frcE).drop k))) ?_ _ _ _ ⟨0, rfl, rfl, rfl, Nat.zero_le _, (by rfl)⟩; rintro kk ff ss ⟨k, hk2, rfl, rfl, hk, hf⟩; refine VC.seq (VC.seq (VC.text ?_)); refine VO.c (.move rfl) (VO.c (.move rfl) (VO.c (.lss) (VO.go ?_))); refine VC.condD rfl (fun c12 => ?_) (fun c12 => ?_)
    · refine VC.skip (VC.seq (VC.block (VC.seq (VC.text ?_)))); refine VO.c (.fa (.r (.r .o))) ?_; refine VO.r (.ld vt86) ?_; refine VO.c (.move rfl) (VO.c (.ix (j := i) rfl rfl el86 (by omega)) ?_); refine VO.r (.ld vt25) ?_; refine VO.c (.move rfl) (VO.c (.ix (j := k) rfl rfl el25 (by omega)) ?_); refine VO.r (.ld vt3) ?_; refine VO.call rfl rfl (VF.call (rCheckRange_ok )) ?_; refine VO.c (.neq) (VO.go ?_); refine VC.condD rfl (fun c14 => ?_) (fun c14 => ?_)
      · have hfe : firstE ((g.2.2[i]'(by omega)).map frcE) = 3 := by rw [hf, firstE_drop (by simp; omega), List.getElem_map, frcE, if_neg c14]; exact rangeE_ne c14
        refine VC.seq (VC.text ?_); refine VO.c (.assign rfl) (VO.go ?_); refine VC.ret ?_; exact VEnd.one rfl evT (pvI (by rw [gates_r hh hw hil (by rw [hgx, gate_b h3 (by rw [hfe]; decide), hfe]; decide), hgx, gate_b h3 (by rw [hfe]; decide), hfe]))
      refine VC.skip (VC.text ?_); refine VO.c (.move rfl) (VO.c (.add rfl rfl (by omega)) (VO.c (.assign rfl) ?_)); refine VO.nil ?_; refine ⟨_, [(1, .p y88 g), (3, I ((g.1.length : Nat) : Int)), (5, I ((i : Nat) : Int)), (7, I (((k + 1) : Nat) : Int))], ?_, ⟨rfl, rfl, rfl, rfl, trivial⟩, (k + 1), rfl, rfl, rfl, (by omega), (by rw [hf, firstE_drop (by simp; omega), List.getElem_map, frcE, if_pos (Classical.not_not.1 c14)])⟩; omega
    have hrz : firstE ((g.2.2[i]'(by omega)).map frcE) = 0 := by rw [hf, firstE_end (by simp; omega)]
    refine VC.exit (VC.seq (VC.text ?_)); refine VO.c (.fa (.r (.r .o))) ?_; refine VO.r (.ld vt86) ?_; refine VO.c (.move rfl) (VO.c (.ix (j := i) rfl rfl el86 (by omega)) ?_); refine VO.r (.ld vt25) ?_; refine VO.c (.move rfl) (VO.c (.ix (j := i) rfl rfl el25 (by omega)) ?_); refine VO.r (.ld vt3) ?_; refine VO.c (.neq) (VO.go ?_); refine VC.condD rfl (fun c16 => ?_) (fun c16 => ?_)
    · refine VC.seq (VC.text ?_); refine VO.c (.assign rfl) (VO.go ?_); refine VC.ret ?_; exact VEnd.one rfl evT (pvI (by rw [gates_r hh hw hil (by rw [hgx, gate_c (row4_0 h3 hrz), getDg (by omega), if_pos c16]; decide), hgx, gate_c (row4_0 h3 hrz), getDg (by omega), if_pos c16]))
    refine VC.skip (VC.text ?_); refine VO.c (.move rfl) (VO.c (.add rfl rfl (by omega)) (VO.c (.assign rfl) ?_)); refine VO.nil ?_; refine ⟨_, [(1, .p y88 g), (3, I ((g.1.length : Nat) : Int)), (5, I (((i + 1) : Nat) : Int))], ?_, ⟨rfl, rfl, rfl, trivial⟩, (i + 1), rfl, rfl, rfl, (by omega), (by exact gates_n hw hil (by rw [hgx, gate_c (row4_0 h3 hrz), getDg (by omega), if_neg c16]))⟩; omega
  refine VC.exit (VC.seq (VC.text ?_)); refine VO.c (.assign rfl) (VO.go ?_); refine VC.ret ?_; exact VEnd.one rfl evT (pvI (by rw [gatesE, if_neg (fun h => h hh), hw, firstE_end (by rw [rowsE_len]; omega)]))
theorem cFrc_ok {n : Int} : VF Tryz.prog OA 131 [I n] (I (frcE n)) := by
  refine VF.enter Tryz.func131 rfl (fun _ _ => rfl) rfl ?_; show VC _ _ _ _ _ [(0, I n)] [] _; refine VC.seq (VC.text ?_); refine VO.c (.assign rfl) ?_; refine VO.go (VC.seq (VC.text ?_)); refine VO.c (.move rfl) ?_; refine VO.call rfl rfl (VF.call (cWithin_ok )) ?_; refine VO.c (.assign rfl) (VO.go ?_); refine VC.ret ?_; exact VEnd.one rfl evT (pvI (by rfl))
theorem cMapIE_ok {F : Int → Int} {l : List Int} {f : PV} (hl : l.length < 100000) (hf : ∀ x ∈ l, VCall Tryz.prog OA f [I x] (.v (.int .i64) (F x))) : VF Tryz.prog OA 110 [.v y25 l, f] (.v y154 (l.map F)) := by
  refine VF.enter Tryz.func110 rfl (fun _ _ => rfl) rfl ?_; show VC _ _ _ _ _ [(0, .v y25 l), (1, f)] [] _; refine VC.seq (VC.text ?_); refine VO.c (.assign rfl) ?_; refine VO.go (VC.seq (VC.text ?_)); refine VO.c (.assign rfl) ?_; refine VO.go (VC.seq (VC.seq (VC.text ?_))); refine VO.c (.move rfl) ?_; refine VO.r (.len el25) ?_; refine VO.c (.move rfl) ?_; refine VO.go (VC.block ?_); refine VC.cell0 26 (.int .i64) ?_; refine VC.keep [(1, f), (5, .raw (.slice none 0 0)), (8, .v y25 l), (9, I ((l.length : Nat) : Int)), (10, I ((0 : Nat) : Int))] ⟨rfl, rfl, rfl, rfl, rfl, trivial⟩ ?_; refine VC.loop (I := fun kk ff ss => ∃ (j : Nat) (out : Value), kk = l.length - j ∧ ff = [(1, f), (5, .raw out), (8, .v y25 l), (9, I ((l.length : Nat) : Int)), (10, I ((j : Nat) : Int))] ∧ ss = [(out, .row 26 (.int .i64) ((l.take j).map F))] ∧ (j ≤ l.length)) ?_ _ _ _ ⟨0, (.slice none 0 0), rfl, rfl, rfl, Nat.zero_le _⟩; rintro kk ff ss ⟨j, out, hk0, rfl, rfl, hj⟩; refine VC.seq (VC.text ?_); refine VO.c (.lss) ?_; refine VO.go (VC.seq ?_); refine VC.condD rfl (fun c3 => ?_) (fun c3 => ?_)
  · refine VC.skip (VC.seq (VC.block (VC.seq (VC.text ?_)))); refine VO.c (.ix (j := j) rfl rfl el25 (by omega)) ?_; refine VO.r (.ld vt3) ?_; refine VO.c (.assign rfl) ?_; refine VO.go (VC.text ?_); refine VO.c (.move rfl) (VO.c (.move rfl) (VO.c (.move rfl) ?_)); refine VO.call rfl rfl ((hf _ (List.getElem_mem _)) ) ?_; refine VO.new (.lit [F (l[j])] el154) ?_; refine VO.app rfl rfl el154 el154 (by simp; omega) ?_; intro ww1; refine VO.c (.assign rfl) ?_; refine VO.nil (VC.text ?_); refine VO.c (.add rfl rfl (by omega)) (VO.c (.move rfl) ?_); refine VO.nil ?_; refine ⟨_, [(1, f), (5, .raw ww1), (8, .v y25 l), (9, I ((l.length : Nat) : Int)), (10, I (((j + 1) : Nat) : Int))], ?_, ⟨rfl, rfl, rfl, rfl, rfl, trivial⟩, (j + 1), ww1, rfl, rfl, (by rw [List.take_succ_eq_append_getElem (by omega), List.map_append] <;> rfl), (by omega)⟩; omega
  refine VC.exit (VC.seq (VC.text ?_)); refine VO.c (.move rfl) (VO.c (.assign rfl) (VO.go ?_)); refine VC.ret ?_; exact VEnd.one rfl (evC (.row m0)) (pvE (by rw [List.take_of_length_le (by omega)]))
theorem cGates_ok {g : (List Int) × (List Int) × (List (List Int))} (h0 : g.1.length < 1000) (hr : ∀ row ∈ g.2.2, row.length < 1000) : VF Tryz.prog OA 62 [.v y92 g] (I (gatesE g)) := by
  refine VF.enter Tryz.func62 rfl (fun _ _ => rfl) rfl ?_; show VC _ _ _ _ _ [(0, .v y92 g)] [] _; refine VC.seq (VC.text ?_); refine VO.new (.box) ?_; refine VO.c (.assign rfl) ?_; refine VO.go (VC.seq (VC.text ?_)); refine VO.c (.fa (.l .o)) ?_; refine VO.r (.ld vt25) ?_; refine VO.r (.len el25) ?_; refine VO.c (.assign rfl) ?_; refine VO.go (VC.seq (VC.seq ?_)); refine VC.join [(1, .p y92 g), (3, I ((g.1.length : Nat) : Int)), (4, I (headG g))] [] ?_ ?_
  · skip
    refine VC.drawn ?_; refine VD.c (.move rfl) (VD.c (.eql) ?_); refine VD.call rfl rfl (VF.call (cWhen_ok )) ?_; refine VD.c (.move rfl) (VD.c (.gtr) ?_); refine VD.call rfl rfl (VF.call (cWhen_ok )) ?_; refine VD.nw [] (VD.c (.fa (.r (.l .o))) ?_); refine VD.r [] (.ld vt25) (.inl rfl) ?_; refine VD.r [] (.len el25) (.inl rfl) ?_; refine VD.c (.move rfl) (VD.c (.neq) (VD.c (.move rfl) ?_)); refine VD.splitD (x := 22) rfl (fun g2_11 => ?_) (fun g2_11 => ?_)
    · refine VD.nw [] (VD.skip (VD.skip (VD.skip ?_))); refine VD.skip (VD.skip (VD.c (.pickT rfl rfl) ?_)); refine VD.call rfl rfl (VF.call (cWhen_ok )) ?_; refine VD.nw [] ?_; refine VD.new (.lit [whenE (decide (((g.1.length : Nat) : Int) = (0 : Int))) (12 : Int), whenE (decide ((8 : Int) < ((g.1.length : Nat) : Int))) (5 : Int), whenE true (2 : Int)] el154) ?_; refine VD.callO rfl rfl (VF.call (cFirst_ok (by simp))) ?_; refine VD.c (.assign rfl) ?_; refine VD.nil ?_; exact ⟨⟨rfl, rfl, slI rfl (by first | exact head_t g2_11 | exact head_f g2_11), trivial⟩, rfl⟩
    refine VD.nw [] (VD.c (.fa (.r (.r .o))) ?_); refine VD.r [] (.ld vt86) (.inl rfl) ?_; refine VD.r [] (.len el86) (.inl rfl) ?_; refine VD.c (.move rfl) (VD.c (.neq) (VD.c (.pickF rfl rfl) ?_)); refine VD.call rfl rfl (VF.call (cWhen_ok )) ?_; refine VD.nw [] ?_; refine VD.new (.lit [whenE (decide (((g.1.length : Nat) : Int) = (0 : Int))) (12 : Int), whenE (decide ((8 : Int) < ((g.1.length : Nat) : Int))) (5 : Int), whenE (decide (((g.2.2.length : Nat) : Int) ≠ ((g.1.length : Nat) : Int))) (2 : Int)] el154) ?_; refine VD.callO rfl rfl (VF.call (cFirst_ok (by simp))) ?_; refine VD.c (.assign rfl) ?_; refine VD.nil ?_; exact ⟨⟨rfl, rfl, slI rfl (by first | exact head_t g2_11 | exact head_f g2_11), trivial⟩, rfl⟩
  refine VC.seq (VC.text ?_); refine VO.c (.move rfl) (VO.c (.neq) (VO.go ?_)); refine VC.condD rfl (fun c3 => ?_) (fun c3 => ?_)
  · refine VC.seq (VC.text ?_); refine VO.c (.move rfl) (VO.c (.assign rfl) (VO.go ?_)); refine VC.ret ?_; exact VEnd.one rfl evT (pvI (by rw [gatesE, if_pos c3]))
  have hh : headG g = 0 := Classical.not_not.1 c3; have hd := head_ok hh; refine VC.skip (VC.seq (VC.seq (VC.text ?_))); refine VO.c (.fa (.r (.r .o))) ?_; refine VO.r (.ld vt86) ?_; refine VO.r (.len el86) ?_; refine VO.c (.move rfl) ?_; refine VO.go (VC.block ?_); refine VC.keep [(1, .p y92 g), (3, I ((g.1.length : Nat) : Int)), (36, .v y86 g.2.2), (37, I ((g.2.2.length : Nat) : Int)), (38, I ((0 : Nat) : Int))] ⟨rfl, rfl, rfl, rfl, rfl, trivial⟩ ?_; refine VC.loop (I := fun kk ff ss => ∃ (i : Nat), kk = g.2.2.length - i ∧ ff = [(1, .p y92 g), (3, I ((g.1.length : Nat) : Int)), (36, .v y86 g.2.2), (37, I ((g.2.2.length : Nat) : Int)), (38, I ((i : Nat) : Int))] ∧ ss = [] ∧ (i ≤ g.2.2.length) ∧ (firstE (rowsE g) = firstE ((rowsE g).drop i))) ?_ _ _ _ ⟨0, rfl, rfl, rfl, Nat.zero_le _, (by rfl)⟩; rintro kk ff ss ⟨i, hk0, rfl, rfl, hi, hw⟩; refine VC.seq (VC.text ?_); refine VO.c (.lss) ?_; refine VO.go (VC.seq ?_); refine VC.condD rfl (fun c6 => ?_) (fun c6 => ?_)
  · have hil : i < g.1.length := by omega
    have hgx := gateE_x (g := g) hil (by omega) (by omega); have hrr := hr _ (List.getElem_mem (show i < g.2.2.length by omega)); refine VC.skip (VC.seq (VC.block (VC.seq (VC.text ?_)))); refine VO.c (.move rfl) (VO.c (.ix (j := i) rfl rfl el86 (by omega)) ?_); refine VO.r (.ld vt25) ?_; refine VO.c (.assign rfl) (VO.c (.assign rfl) ?_); refine VO.go (VC.seq (VC.seq (VC.drawn ?_))); refine VD.c (.fa (.l .o)) ?_; refine VD.r [] (.ld vt25) (.inl rfl) ?_; refine VD.c (.move rfl) (VD.c (.ix (j := i) rfl rfl el25 (by omega)) ?_); refine VD.r [] (.ld vt3) (.inl rfl) ?_; refine VD.call rfl rfl (VF.call (cWithin_ok )) ?_; refine VD.nw [] (VD.c (.fa (.r (.l .o))) ?_); refine VD.r [] (.ld vt25) (.inl rfl) ?_; refine VD.c (.move rfl) (VD.c (.ix (j := i) rfl rfl el25 (by omega)) ?_); refine VD.r [] (.ld vt3) (.inl rfl) ?_; refine VD.call rfl rfl (VF.call (cFrc_ok )) ?_; refine VD.c (.move rfl) (VD.nw [] ?_); refine VD.r [] (.len el25) (.inl rfl) ?_; refine VD.c (.move rfl) (VD.c (.neq) ?_); refine VD.call rfl rfl (VF.call (cWhen_ok )) ?_; refine VD.c (.move rfl) ?_; refine VD.call rfl rfl (VF.call (cMapIE_ok (F := frcE) (by omega) (fun _ _ => VF.call cFrc_ok))) ?_; refine VD.callO rfl rfl (VF.call (cFirst_ok (by simp; omega))) ?_; refine VD.nw [61] ?_; refine VD.new (.lit [rangeE (g.1[i]) (0 : Int) (10000 : Int), frcE (g.2.1[i]), whenE (decide ((((g.2.2[i]).length : Nat) : Int) ≠ ((g.1.length : Nat) : Int))) (2 : Int), firstE ((g.2.2[i]).map frcE)] el154) ?_; refine VD.callO rfl rfl (VF.call (cFirst_ok (by simp))) ?_; refine VD.c (.assign rfl) ?_; refine VD.go (VC.seq (VC.text ?_)); refine VO.c (.move rfl) (VO.c (.neq) (VO.go ?_)); refine VC.condD rfl (fun c9 => ?_) (fun c9 => ?_)
    · have c9 : firstE (row4 g.1.length g.1[i] (g.2.1[i]'(by omega)) (g.2.2[i]'(by omega))) ≠ 0 := c9; refine VC.seq ?_; refine VC.keep [(1, .p y92 g), (3, I ((g.1.length : Nat) : Int)), (5, I ((i : Nat) : Int)), (6, .v y25 (g.2.2[i])), (7, I (firstE [rangeE (g.1[i]) (0 : Int) (10000 : Int), frcE (g.2.1[i]), whenE (decide ((((g.2.2[i]).length : Nat) : Int) ≠ ((g.1.length : Nat) : Int))) (2 : Int), firstE ((g.2.2[i]).map frcE)])), (36, .v y86 g.2.2), (37, I ((g.2.2.length : Nat) : Int)), (38, I ((i : Nat) : Int))] ⟨rfl, rfl, rfl, rfl, rfl, rfl, rfl, rfl, trivial⟩ ?_; refine VC.text ?_; refine VO.c (.move rfl) (VO.c (.assign rfl) (VO.go ?_)); refine VC.ret ?_; exact VEnd.one rfl evT (pvI (by rw [gates_r hh hw hil (by rw [hgx, gate_a4 c9]; exact c9), hgx, gate_a4 c9] <;> rfl))
    have h4 : firstE (row4 g.1.length g.1[i] (g.2.1[i]'(by omega)) (g.2.2[i]'(by omega))) = 0 := Classical.not_not.1 c9; have hrl := row3_len (row4_3 h4); refine VC.skip (VC.seq ?_); refine VC.keep [(1, .p y92 g), (3, I ((g.1.length : Nat) : Int)), (5, I ((i : Nat) : Int)), (6, .v y25 (g.2.2[i])), (36, .v y86 g.2.2), (37, I ((g.2.2.length : Nat) : Int)), (38, I ((i : Nat) : Int))] ⟨rfl, rfl, rfl, rfl, rfl, rfl, rfl, trivial⟩ ?_; refine VC.text ?_; refine VO.c (.move rfl) (VO.c (.move rfl) (VO.c (.ix (j := i) rfl rfl el25 (by omega)) ?_)); refine VO.r (.ld vt3) ?_; refine VO.c (.neq) (VO.go ?_); refine VC.condD rfl (fun c11 => ?_) (fun c11 => ?_)
    · refine VC.seq (VC.text ?_); refine VO.c (.assign rfl) (VO.go ?_); refine VC.ret ?_; exact VEnd.one rfl evT (pvI (by rw [gates_r hh hw hil (by rw [hgx, gate_c h4, getDg (by omega), if_pos c11]; decide), hgx, gate_c h4, getDg (by omega), if_pos c11]))
    refine VC.skip (VC.text ?_); refine VO.c (.add rfl rfl (by omega)) (VO.c (.move rfl) ?_); refine VO.nil ?_; refine ⟨_, [(1, .p y92 g), (3, I ((g.1.length : Nat) : Int)), (36, .v y86 g.2.2), (37, I ((g.2.2.length : Nat) : Int)), (38, I (((i + 1) : Nat) : Int))], ?_, ⟨rfl, rfl, rfl, rfl, rfl, trivial⟩, (i + 1), rfl, rfl, rfl, (by omega), (by exact gates_n hw hil (by rw [hgx, gate_c h4, getDg (by omega), if_neg c11]))⟩; omega
  refine VC.exit (VC.seq (VC.text ?_)); refine VO.c (.assign rfl) (VO.go ?_); refine VC.ret ?_; exact VEnd.one rfl evT (pvI (by rw [gatesE, if_neg (fun h => h hh), hw, firstE_end (by rw [rowsE_len]; omega)]))
end Go.Proofs
namespace Go.Fs
variable {P : Program} {h : Heap} {S : List Nat} {σ : Sto} {t : Tr} {fl : VL} {x : Operand} {T e : TypeId} {τ : Ty}
end Go.Fs
namespace Go.Fs
variable {P : Program} {σ : Sto} {fl : VL} {x y : Operand} {T T' : TypeId} {p q : Bool}
theorem equal_bool (hT : P.underlying T = some .bool) : runPure P (Op.equal T (.bool p) (.bool q)) = some (p == q) := by
  unfold Op.equal; rw [show Op.maxDepth = 9999 + 1 from rfl, Op.equalIn]; simp only [runPure_bind, runPure_underlying hT, Option.bind_some, runPure_pure]
theorem CalmV.beql (hT : P.underlying T = some .bool := by kernel_rfl) (hx : evV fl x = some (.v .bool p) := by rfl) (hy : evV fl y = some (.v .bool q) := by rfl) : CalmV P fl σ (.binOp .eql T x y T') (.v .bool (p == q)) :=
  .bin hx hy fun h S a c ha hc => by
    obtain rfl := RepV.bool ha; obtain rfl := RepV.bool hc; refine ⟨.bool (p == q), RepV.ofBool _, rfl, ?_⟩
    have h1 : runPure P (Op.equal T (.bool p) (.bool q) >>= fun b => pure (Value.bool b)) = some (.bool (p == q)) := by
      rw [runPure_bind, equal_bool hT]; rfl
    unfold purely; show (runPure P (Op.equal T (.bool p) (.bool q) >>= fun b => pure (Value.bool b))).bind _ = _; rw [h1]; rfl
end Go.Fs
namespace Go.Fs
variable {P : Program} {orc : FuncId → List Value → Heap → Option (Value × Heap)} {σ : Sto} {fl : VL} {ops : Array Oper} {n : Nat} {l : List Oper} {K : VL → Sto → Prop} {d : Tmp} {ty : TypeId} {pos : String} {after : Array Edge} {g : Option (Nat × Bool)} {x : Operand} {T e : TypeId} {τ : Ty}
end Go.Fs
namespace Go.Fs
variable {P : Program} {fl : VL} {e : TypeId} {τ : Ty}
end Go.Fs
namespace Go.Fs
open Go.RowKit (Below)
variable {P : Program} {H : Type} {enc : TypeId × Value → H} {w : World} {base : Nat} {sp : Nat → Bool} {held : Bool}
def fsB (P : Program) (ty : TypeId → Ty → Bool) : List Field → Nat → Ty → Bool
  | [f], off, .pair a .unit => Nat.beq f.offset off && Nat.beq (P.cellsOf f.type) a.size && ty f.type a
  | [f], off, τ => Nat.beq f.offset off && Nat.beq (P.cellsOf f.type) τ.size && ty f.type τ
  | f :: fs, off, .pair a b => Nat.beq f.offset off && Nat.beq (P.cellsOf f.type) a.size && ty f.type a && fsB P ty fs (off + a.size) b
  | _, _, _ => false
def arrFs (P : Program) (m : Nat) (e : TypeId) : List Field := (List.range m).map fun i => { name := "", type := e, offset := i * P.cellsOf e, embedded := false, tag := "", pkgPath := "", byteOffset := 0 }
def tyB (P : Program) : Nat → TypeId → Ty → Bool
  | 0, _, _ => false
  | n + 1, t, τ =>
    match P.underlying t, τ with
    | some (.int k), .int k' => decide (k = k')
    | some .bool, .bool => true
    | some .string, .str => true
    | some (.float k), .flt k' => decide (k = k')
    | some (.slice te), .sl e => Nat.beq (P.cellsOf te) e.size && Nat.blt 0 e.size && tyB P n te e
    | some (.struct fs), .pair a b => Nat.beq (P.cellsOf t) (Ty.pair a b).size && fsB P (tyB P n) fs.toList 0 (.pair a b)
    | some (.array m e), .pair a b => Nat.beq (P.cellsOf t) (Ty.pair a b).size && fsB P (tyB P n) (arrFs P m e) 0 (.pair a b)
    | _, _ => false
def Wf : (τ : Ty) → τ.den → Prop
  | .int k, n => (Lit.int k n).wf = true
  | .bool, _ => True
  | .str, s => s.size ≤ maxLen
  | .flt k, n => (Lit.float k n).wf = true
  | .sl e, xs => List.length xs ≤ maxLen ∧ ∀ x ∈ (xs : List e.den), Wf e x
  | .pair a b, x => Wf a x.1 ∧ Wf b x.2
  | .unit, _ => True
  | .mp _ _, _ => True
  | .fn, _ => True
  | .hnd, _ => True
structure Got (P : Program) (w : World) (ρ : Ren) (S : Nat → Prop) (h : Heap) (ρ' : Ren) (S' : Nat → Prop) (h' : Heap) : Prop where
  hr : HR P ρ' S' w.heap.size (wz w) h' w
  agree : ∀ b, S b → S' b ∧ ρ' b = ρ b
  aft : After h h'
theorem Got.refl {ρ : Ren} {S : Nat → Prop} {h : Heap} (hr : HR P ρ S w.heap.size (wz w) h w) : Got P w ρ S h ρ S h := ⟨hr, fun _ hb => ⟨hb, rfl⟩, After.refl h⟩
theorem Got.trans {ρ ρ1 ρ2 : Ren} {S S1 S2 : Nat → Prop} {h h1 h2 : Heap} (a : Got P w ρ S h ρ1 S1 h1) (b : Got P w ρ1 S1 h1 ρ2 S2 h2) : Got P w ρ S h ρ2 S2 h2 :=
  ⟨b.hr, fun i hi => let ⟨h3, h4⟩ := a.agree i hi; let ⟨h5, h6⟩ := b.agree i h3; ⟨h5, h6.trans h4⟩, a.aft.trans b.aft⟩
theorem Got.ok {ρ ρ1 : Ren} {S S1 : Nat → Prop} {h h1 : Heap} (a : Got P w ρ S h ρ1 S1 h1) : HOk h1 := fun b o hg => (a.hr.ids b (a.hr.objs b o hg).1).1
theorem Got.row {ρ : Ren} {S : Nat → Prop} {h : Heap} (hr : HR P ρ S w.heap.size (wz w) h w) {te : TypeId} {cs : List Value} {a : Addr} (ha : a.block < w.heap.size) (hc : ∀ i, i < cs.length → ∃ v, w.cell? ⟨a.block, a.off + i, none⟩ = some v ∧ VR ρ S (cs.getD i undef) v) :
    Got P w ρ S h (fun b => if b = h.next then (.clean a.block a.off 0 (P.cellsOf te)) else ρ b) (fun b => S b ∨ b = h.next) (h.push (.row te cs false false)) := by
  have hag : ∀ b, S b → (S b ∨ b = h.next) ∧ (fun b => if b = h.next then (Loc.clean a.block a.off 0 (P.cellsOf te)) else ρ b) b = ρ b := fun b hb => by
    have := (hr.ids b hb).1; exact ⟨.inl hb, by simp only; rw [if_neg (by omega)]⟩
  have hold : ∀ i o, (h.push (.row te cs false false)).get i = some o → (i = h.next ∧ o = .row te cs false false) ∨ (i ≠ h.next ∧ h.get i = some o) := fun i o hg => by
    rw [Heap.get_push] at hg; by_cases hi : i = h.next
    · rw [if_pos hi] at hg; exact .inl ⟨hi, (Option.some.inj hg).symm⟩
    rw [if_neg hi] at hg; exact .inr ⟨hi, hg⟩
  refine ⟨⟨fun i o hg => ?_, fun i j oi oj hi hj oi1 oj1 he => ?_, fun i o hg ho => ?_, fun i o hg ho => ?_, fun b hb => ?_, Nat.succ_pos _, z_below (Below.refl _ _), Nat.zero_le _, Nat.le_refl _⟩, hag, After.push h _⟩
  · rcases hold i o hg with ⟨rfl, rfl⟩ | ⟨hi, hg'⟩
    · refine ⟨.inr rfl, ?_⟩; simp only [if_true]; refine ⟨rfl, fun i hi => ?_, fun hx => by cases hx⟩; obtain ⟨v, h1, h2⟩ := hc i hi; exact ⟨v, h1, h2.mono hag⟩
    obtain ⟨h1, h2⟩ := hr.objs i o hg'; refine ⟨.inl h1, ?_⟩; simp only [if_neg hi]; exact h2.mono hag
  · rcases hold i oi hi with ⟨rfl, rfl⟩ | ⟨hi', hgi⟩
    · cases oi1
    rcases hold j oj hj with ⟨rfl, rfl⟩ | ⟨hj', hgj⟩
    · cases oj1
    simp only [if_neg hi', if_neg hj'] at he; exact hr.inj i j oi oj hgi hgj oi1 oj1 he
  · rcases hold i o hg with ⟨rfl, rfl⟩ | ⟨hi, hg'⟩
    · cases ho
    simp only [if_neg hi]; exact hr.base i o hg' ho
  · rcases hold i o hg with ⟨rfl, rfl⟩ | ⟨hi, hg'⟩
    · simp only [if_true]; exact ha
    simp only [if_neg hi]; exact hr.ro i o hg' ho
  have hn : (h.push (.row te cs false false)).next = h.next + 1 := rfl; rw [hn]; rcases hb with hb | rfl
  · have := hr.ids b hb; exact ⟨by omega, this.2⟩
  have := hr.pos; exact ⟨by omega, by omega⟩
theorem trod_float {fuel : Nat} {t : TypeId} {cs : List Value} {x : DataW H × List MemPlace} {k : FloatKind} (ht : P.underlying t = some (.float k)) (h : DataW.trod enc P w base sp held fuel t cs = some x) : ∃ n, cs = [.float k n] ∧ (Lit.float k n).wf = true := by
  cases fuel with
  | zero => simp [DataW.trod] at h
  | succ n =>
    unfold DataW.trod at h; rw [ht] at h; split at h <;> simp_all
theorem mapM_all {α β : Type} (f : α → Option β) : ∀ (l : List α) (r : List β), l.mapM f = some r → l.length = r.length ∧ ∀ i (hi : i < l.length) (hr : i < r.length), f l[i] = some r[i]
  | [], r, h => by
    simp only [List.mapM_nil] at h; obtain rfl := Option.some.inj h
    exact ⟨rfl, fun i hi => absurd hi (by simp)⟩
  | a :: l, r, h => by
    rw [List.mapM_cons] at h
    cases hf : f a with
    | none => rw [hf] at h; cases h
    | some b =>
      rw [hf] at h
      cases hl : l.mapM f with
      | none => rw [hl] at h; cases h
      | some bs =>
        rw [hl] at h; obtain rfl := Option.some.inj h; obtain ⟨h1, h2⟩ := mapM_all f l bs hl; refine ⟨by simp [h1], fun i hi hr => ?_⟩
        cases i with
        | zero => exact hf
        | succ i => exact h2 i (by simpa using hi) (by simpa using hr)
theorem cells_some {a : Addr} {n : Nat} {cs : List Value} (h : w.cells? base a n = some cs) : cs.length = n ∧ ∀ i, i < n → w.cell? (a.add i) = some (cs.getD i undef) := by
  unfold World.cells? at h; split at h
  · obtain ⟨h1, h2⟩ := mapM_all _ _ _ h; rw [List.length_range] at h1; refine ⟨h1.symm, fun i hi => ?_⟩; have := h2 i (by simpa using hi) (by omega); rw [List.getElem_range] at this; rw [this]; simp [List.getD, show i < cs.length by omega]
  cases h
theorem cell_some {a : Addr} {v : Value} (h : w.cell? a = some v) : a.spot = none ∧ a.block < w.heap.size := by
  unfold World.cell? at h; split at h
  · rename_i c _ _ hb; refine ⟨?_, (Array.getElem?_eq_some_iff.1 hb).1⟩
    cases hs : a.spot with
    | none => rfl
    | some s => rw [hs] at h; cases h
  cases h
def Tells (P : Program) (w : World) (τ : Ty) (cs : List Value) : Prop := ∀ (ρ : Ren) (S : Nat → Prop) (h : Heap), HR P ρ S w.heap.size (wz w) h w →
  ∃ ρ' S' h' cs' x, Got P w ρ S h ρ' S' h' ∧ LR ρ' S' cs' cs ∧ RepC h' [] τ cs' x ∧ Wf τ x
theorem LR.one {ρ : Ren} {S : Nat → Prop} {v v' : Value} (h : VR ρ S v v') : LR ρ S [v] [v'] := LR.cons h LR.nil
theorem tells_elems {e : Ty} (a : Addr) (len : Nat) (hcs : ∀ i, i < len → ∃ cs, (∀ j, j < e.size → w.cell? (a.add (i * e.size + j)) = some (cs.getD j undef)) ∧ cs.length = e.size ∧ Tells P w e cs) :
    ∀ (ρ : Ren) (S : Nat → Prop) (h : Heap), HR P ρ S w.heap.size (wz w) h w → ∃ ρ' S' h' rs xs, Got P w ρ S h ρ' S' h' ∧ rs.length = len * e.size ∧ List.length xs = len ∧ (∀ i, i < len * e.size → ∃ v, w.cell? (a.add i) = some v ∧ VR ρ' S' (rs.getD i undef) v) ∧
      Elems h' [] e rs xs ∧ ∀ x ∈ (xs : List e.den), Wf e x := by
  induction len with
  | zero =>
    intro ρ S h hr
    exact ⟨ρ, S, h, [], [], Got.refl hr, by simp, rfl, fun i hi => by omega, Elems.nil, fun x hx => by cases hx⟩
  | succ n ih =>
    intro ρ S h hr; obtain ⟨ρ1, S1, h1, rs, xs, g1, l1, l2, c1, e1, w1⟩ := ih (fun i hi => hcs i (by omega)) ρ S h hr; obtain ⟨cs, k1, k2, k3⟩ := hcs n (by omega); obtain ⟨ρ2, S2, h2, cs', x, g2, lr, rc, wf⟩ := k3 ρ1 S1 h1 g1.hr; have hN : Goes h1 [] h2 [] := g2.aft.nx g1.ok; have hl : cs'.length = e.size := rc.len
    have hel : Elems h2 [] e cs' [x] := by
      refine ⟨by simpa using hl, fun i hi => ?_⟩
      obtain rfl : i = 0 := by simpa using hi
      simp only [Nat.zero_mul, List.drop_zero, List.getElem_cons_zero]; rw [List.take_of_length_le (by omega)]; exact rc
    refine ⟨ρ2, S2, h2, rs ++ cs', xs ++ [x], g1.trans g2, by rw [List.length_append, l1, hl, Nat.add_mul]; omega, by simp [l2], fun i hi => ?_, (e1.nx hN).append hel, fun y hy => ?_⟩
    · rw [Nat.add_mul, Nat.one_mul] at hi; by_cases hin : i < n * e.size
      · obtain ⟨v, hv1, hv2⟩ := c1 i hin; refine ⟨v, hv1, ?_⟩; rw [List.getD_eq_getElem?_getD, List.getElem?_append_left (by omega), ← List.getD_eq_getElem?_getD]; exact hv2.mono g2.agree
      have hj : i - n * e.size < e.size := by omega
      refine ⟨cs.getD (i - n * e.size) undef, ?_, ?_⟩
      · have := k1 (i - n * e.size) hj
        rwa [show n * e.size + (i - n * e.size) = i by omega] at this
      rw [List.getD_eq_getElem?_getD, List.getElem?_append_right (by omega), l1, ← List.getD_eq_getElem?_getD]; exact lr.getD _
    rcases List.mem_append.1 hy with hy | hy
    · exact w1 y hy
    obtain rfl := List.mem_singleton.1 hy; exact wf
theorem Addr.add_spot {a : Addr} (h : a.spot = none) (n : Nat) : a.add n = ⟨a.block, a.off + n, none⟩ := by
  obtain ⟨b, o, s⟩ := a; simp only at h; subst h; unfold Addr.add; by_cases hn : n = 0
  · subst hn; simp
  simp [hn]
theorem tells_fields {n : Nat} (ih : ∀ (t : TypeId) (τ : Ty), tyB P n t τ = true → ∀ (fuel : Nat) (cs : List Value) (x : DataW H × List MemPlace), DataW.trod enc P w base sp held fuel t cs = some x → Tells P w τ cs) :
    ∀ (fs : List Field) (off : Nat) (τ : Ty) (cs : List Value) (m : Nat), fsB P (tyB P n) fs off τ = true → cs.length = off + τ.size → (∀ f ∈ fs, ∃ x, DataW.trod enc P w base sp held m f.type ((cs.drop f.offset).take (P.cellsOf f.type)) = some x) → Tells P w τ (cs.drop off) := by
  have one : ∀ (f : Field) (off : Nat) (τ : Ty) (cs : List Value) (m : Nat), f.offset = off → P.cellsOf f.type = τ.size → tyB P n f.type τ = true → off + τ.size ≤ cs.length → (∃ x, DataW.trod enc P w base sp held m f.type ((cs.drop f.offset).take (P.cellsOf f.type)) = some x) → Tells P w τ ((cs.drop off).take τ.size) := by
    intro f off τ cs m h1 h2 h3 h4 ⟨x, hx⟩; rw [h1, h2] at hx; exact ih f.type τ h3 m _ x hx
  intro fs
  induction fs with
  | nil => intro off τ cs m hb; cases hb
  | cons f fs ihf =>
    intro off τ cs m hb hl hall; have hf := hall f List.mem_cons_self
    cases fs with
    | nil =>
      by_cases hs : ∃ a, τ = .pair a .unit
      · obtain ⟨a, rfl⟩ := hs; have hb' : (Nat.beq f.offset off && Nat.beq (P.cellsOf f.type) a.size && tyB P n f.type a) = true := hb; obtain ⟨hb', h3⟩ := band hb'; obtain ⟨h1, h2⟩ := band hb'
        have hs : (Ty.pair a .unit).size = a.size := by simp [Ty.size]
        rw [hs] at hl; have := one f off a cs m (nbeq h1) (nbeq h2) h3 (by omega) hf; intro ρ S h hr; obtain ⟨ρ', S', h', cs', x, g, lr, rc, wf⟩ := this ρ S h hr; have e1 : (cs.drop off).take a.size = cs.drop off := List.take_of_length_le (by rw [List.length_drop]; omega); rw [e1] at lr; have hcl := rc.len; exact ⟨ρ', S', h', cs', (x, ()), g, lr, ⟨by rw [List.take_of_length_le (by omega)]; exact rc, by rw [List.drop_eq_nil_of_le (by omega)]; rfl⟩, wf, trivial⟩
      have hb' : (Nat.beq f.offset off && Nat.beq (P.cellsOf f.type) τ.size && tyB P n f.type τ) = true := by
        cases τ with
        | pair a b =>
          cases b with
          | unit => exact absurd ⟨a, rfl⟩ hs
          | _ => exact hb
        | _ => exact hb
      obtain ⟨hb', h3⟩ := band hb'; obtain ⟨h1, h2⟩ := band hb'; have := one f off τ cs m (nbeq h1) (nbeq h2) h3 (by omega) hf; have e1 : (cs.drop off).take τ.size = cs.drop off := List.take_of_length_le (by rw [List.length_drop]; omega)
      rwa [e1] at this
    | cons g fs =>
      cases τ with
      | pair a b =>
        have hb' : (Nat.beq f.offset off && Nat.beq (P.cellsOf f.type) a.size && tyB P n f.type a && fsB P (tyB P n) (g :: fs) (off + a.size) b) = true := hb; obtain ⟨hb', h4⟩ := band hb'; obtain ⟨hb', h3⟩ := band hb'; obtain ⟨h1, h2⟩ := band hb'; have hs : (Ty.pair a b).size = a.size + b.size := rfl; rw [hs] at hl; have ha := one f off a cs m (nbeq h1) (nbeq h2) h3 (by omega) hf; have hrest := ihf (off + a.size) b cs m h4 (by omega) (fun g hg => hall g (List.mem_cons_of_mem _ hg)); intro ρ S h hr; obtain ⟨ρ1, S1, h1', cs1, x1, g1, lr1, rc1, wf1⟩ := ha ρ S h hr; obtain ⟨ρ2, S2, h2', cs2, x2, g2, lr2, rc2, wf2⟩ := hrest ρ1 S1 h1' g1.hr; have hN : Goes h1' [] h2' [] := g2.aft.nx g1.ok; have hc1 := rc1.len; refine ⟨ρ2, S2, h2', cs1 ++ cs2, (x1, x2), g1.trans g2, ?_, ⟨?_, ?_⟩, wf1, wf2⟩
        · have := (lr1.mono g2.agree).append lr2
          rwa [show (cs.drop off).take a.size ++ cs.drop (off + a.size) = cs.drop off from by rw [← List.drop_drop, List.take_append_drop]] at this
        · rw [List.take_left' hc1]; exact rc1.nx hN
        rw [List.drop_left' hc1]; exact rc2
      | _ => cases hb
theorem tells : ∀ (n : Nat) (t : TypeId) (τ : Ty), tyB P n t τ = true → ∀ (fuel : Nat) (cs : List Value) (x : DataW H × List MemPlace), DataW.trod enc P w base sp held fuel t cs = some x → Tells P w τ cs := by
  intro n
  induction n with
  | zero => intro t τ h; cases h
  | succ n ih =>
    intro t τ hb fuel cs x hx; unfold tyB at hb; split at hb
    · rename_i k k' hu; obtain rfl : k = k' := of_decide_eq_true hb; obtain ⟨m, rfl, _, hwf⟩ := DataW.trod_int hu hx; exact fun ρ S h hr => ⟨ρ, S, h, _, m, Got.refl hr, LR.one (.lit rfl), rfl, hwf⟩
    · rename_i hu; obtain ⟨b, rfl, _⟩ := DataW.trod_bool hu hx; exact fun ρ S h hr => ⟨ρ, S, h, _, b, Got.refl hr, LR.one (.lit rfl), rfl, trivial⟩
    · rename_i hu; obtain ⟨s, rfl, _, hs⟩ := DataW.trod_string hu hx; exact fun ρ S h hr => ⟨ρ, S, h, _, s, Got.refl hr, LR.one (.lit rfl), rfl, hs⟩
    · rename_i k k' hu; obtain rfl : k = k' := of_decide_eq_true hb; obtain ⟨m, rfl, hwf⟩ := trod_float hu hx; exact fun ρ S h hr => ⟨ρ, S, h, _, m, Got.refl hr, LR.one (.lit rfl), rfl, hwf⟩
    · rename_i te e hu; obtain ⟨hb, h3⟩ := band hb; obtain ⟨h1, h2⟩ := band hb; have hce := nbeq h1; have hpos := nblt h2; rcases DataW.trod_slice hu hx with ⟨rfl, _⟩ | ⟨a, len, cap, elems, rest, m, _, rfl, _, hba, hlc, hcap, hlen, hel, _⟩
      · exact fun ρ S h hr => ⟨ρ, S, h, [.slice none 0 0], [], Got.refl hr, LR.one (.lit rfl), ⟨_, rfl, .inl ⟨rfl, rfl⟩⟩, Nat.zero_le _, fun x hx => by cases hx⟩
      by_cases h0 : len = 0
      · subst h0; exact fun ρ S h hr => ⟨ρ, S, h, [.slice (some ⟨0, 0, none⟩) 0 2], [], Got.refl hr, LR.one (.slice 0 0 0 2 cap a (Nat.zero_le _) (fun h => by cases h) (fun _ => rfl) (fun h => absurd rfl h)), ⟨_, rfl, .inr ⟨0, 0, 2, rfl, .inl rfl⟩⟩, Nat.zero_le _, fun x hx => by cases hx⟩
      have hcs : ∀ i, i < len → ∃ cs, (∀ j, j < e.size → w.cell? (a.add (i * e.size + j)) = some (cs.getD j undef)) ∧ cs.length = e.size ∧ Tells P w e cs := by
        intro i hi; have := hel i hi; rw [List.getElem?_eq_getElem (by omega)] at this; rw [hce] at this
        cases hc : w.cells? base (a.add (i * e.size)) e.size with
        | none => rw [hc] at this; cases this
        | some cs =>
          rw [hc] at this; obtain ⟨k1, k2⟩ := cells_some hc; refine ⟨cs, fun j hj => ?_, k1, ih te e h3 m cs _ this⟩; rw [← k2 j hj]; congr 1; obtain ⟨b, o, s⟩ := a; unfold Addr.add; by_cases hx1 : i * e.size = 0
          · simp [hx1]
          by_cases hx2 : j = 0
          · subst hx2; simp [hx1]
          simp [hx1, hx2, Nat.add_assoc]
      have hfirst : a.spot = none ∧ a.block < w.heap.size := by
        obtain ⟨cs, k1, _⟩ := hcs 0 (by omega); have := k1 0 hpos; rw [Nat.zero_mul, Nat.zero_add] at this; have h4 := cell_some this; simpa [Addr.add] using h4
      intro ρ S h hr; obtain ⟨ρ1, S1, h1', rs, xs, g1, l1, l2, c1, e1, w1⟩ := tells_elems (P := P) a len hcs ρ S h hr
      have hrow := Got.row (te := te) g1.hr (cs := rs) (a := a) hfirst.2 (fun i hi => by
        have := c1 i (by omega)
        rwa [Addr.add_spot hfirst.1] at this)
      have hsl : SlV (h1'.push (.row te rs false false)) [] e (.slice (some ⟨h1'.next, 0, none⟩) (List.length xs) 2) xs := (e1.nx (hrow.aft.nx g1.ok)).slv (by rw [Heap.get_push, if_pos rfl]) (by simp); refine ⟨_, _, _, [.slice (some ⟨h1'.next, 0, none⟩) (List.length xs) 2], xs, g1.trans hrow, ?_, ⟨_, rfl, hsl⟩, by omega, w1⟩; rw [l2]; refine LR.one (.slice h1'.next 0 len 2 cap a hlc (fun h => by cases h) (fun h5 => by have := g1.hr.pos; omega) fun _ => ⟨.inr rfl, ?_, fun h => by cases h⟩); simp only [if_true, Loc.at, Nat.add_zero]; obtain ⟨b, o, s⟩ := a; simp only at hfirst; rw [hfirst.1]
    · rename_i fs a b hu; obtain ⟨h1, h2⟩ := band hb; obtain ⟨xs, m, _, _, hl, hsz, hall⟩ := DataW.trod_struct hu hx
      have hcl : cs.length = (Ty.pair a b).size := by rw [hl, nbeq h1]
      have := tells_fields ih fs.toList 0 (.pair a b) cs m h2 (by omega) (fun f hf => by
        obtain ⟨i, hi, rfl⟩ := List.getElem_of_mem hf
        have hi' : i < fs.size := by simpa using hi
        have := hall i fs[i] (by simp [hi']); rw [List.getElem?_eq_getElem (by omega)] at this
        exact ⟨_, by simpa using this⟩)
      simpa using this
    · rename_i m e a b hu; obtain ⟨h1, h2⟩ := band hb; obtain ⟨xs, m', _, _, hl, hsz, hall⟩ := DataW.trod_array hu hx
      have hcl : cs.length = (Ty.pair a b).size := by rw [hl, nbeq h1]
      have := tells_fields ih (arrFs P m e) 0 (.pair a b) cs m' h2 (by omega) (fun f hf => by
        obtain ⟨i, hi, rfl⟩ := List.mem_map.1 hf; have hi' : i < m := List.mem_range.1 hi; have := hall i hi'; rw [List.getElem?_eq_getElem (by omega)] at this
        exact ⟨_, this⟩)
      simpa using this
    cases hb
theorem okWide_agg {n : Nat} {r : Reach} {b0 : Nat} {t : TypeId} {τ : Ty} {v : Value} (hb : tyB P n t τ = true) (hval : Value.okWide P w r b0 t v) : isAggV v = τ.agg := by
  cases n with
  | zero => cases hb
  | succ n =>
    unfold tyB at hb; unfold Value.okWide at hval; split at hb
    · rename_i k k' hu; rw [hu] at hval; simp only [Cell.okWide, hu, Cell.ok] at hval; cases v <;> simp_all [isAggV, Ty.agg]
    · rename_i hu; rw [hu] at hval; simp only [Cell.okWide, hu, Cell.ok] at hval; cases v <;> simp_all [isAggV, Ty.agg]
    · rename_i hu; rw [hu] at hval; simp only [Cell.okWide, hu, Cell.ok] at hval; cases v <;> simp_all [isAggV, Ty.agg]
    · rename_i k k' hu; rw [hu] at hval; simp only [Cell.okWide, hu, Cell.ok] at hval; cases v <;> simp_all [isAggV, Ty.agg]
    · rename_i te e hu; rw [hu] at hval; simp only [Cell.okWide, hu, Cell.ok] at hval; cases v <;> simp_all [isAggV, Ty.agg]
    · rename_i fs a b hu; rw [hu] at hval; obtain ⟨cs, rfl, _⟩ := hval; rfl
    · rename_i m e a b hu; rw [hu] at hval; obtain ⟨cs, rfl, _⟩ := hval; rfl
    cases hb
theorem tell_arg {ρ : Ren} {S : Nat → Prop} {h : Heap} (hr : HR P ρ S w.heap.size (wz w) h w) {n : Nat} {r : Reach} {b0 : Nat} {t : TypeId} {τ : Ty} {v : Value} {d : DataW H} {ps : List MemPlace} (hb : tyB P n t τ = true) (hval : Value.okWide P w r b0 t v) (hd : DataW.Trod enc P w base sp held t v d ps) :
    ∃ ρ' S' h' v' x, Got P w ρ S h ρ' S' h' ∧ VR ρ' S' v' v ∧ RepV h' [] τ v' x ∧ Wf τ x := by
  have hag := okWide_agg hb hval; obtain ⟨fuel, hf⟩ := hd; obtain ⟨ρ', S', h', cs', x, g, lr, rc, wf⟩ := tells n t τ hb fuel _ _ hf ρ S h hr
  cases hτ : τ.agg with
  | true =>
    rw [hτ] at hag
    cases v with
    | agg cs =>
      refine ⟨ρ', S', h', .agg cs'.toArray, x, g, VR.agg' (by simpa [Value.cells] using lr), ⟨hτ.symm, by simpa [Value.cells] using rc⟩, wf⟩
    | _ => cases hag
  | false =>
    rw [hτ] at hag; rw [cells_one hag] at lr; obtain ⟨u, rfl, hu⟩ := rc.one hτ; have := lr.2 0 (by simp); exact ⟨ρ', S', h', u, x, g, by simpa using this, hu, wf⟩
theorem hr_empty (hw : 0 ≤ w.heap.size) : HR P (fun _ => Loc.clean 0 0 0 0) (fun _ => False) w.heap.size (wz w) ⟨1, 1, []⟩ w where
  objs := fun i o h => by cases h
  inj := fun i j oi oj h => by cases h
  base := fun i o h => by cases h
  ro := fun i o h => by cases h
  ids := fun b hb => hb.elim
  pos := Nat.one_pos
  below := z_below (Below.refl _ _)
  drawn := Nat.zero_le _
  size := Nat.le_refl _
section
open Go.WideElems Go.ChangeShapes
theorem trodAll_below (hl : laidOutB P = true) {W W' : World} (hb : Below W.heap.size W W') : ∀ {ts : List TypeId} {vs : List Value} {ds : List (DataW H)} {ps : List MemPlace}, (ts.all fun t => P.readableRec t && decide (t < P.types.size)) = true →
    DataW.TrodAll enc P W 0 (fun _ => true) true ts vs ds ps → (∀ x ∈ ps, x.block < W.heap.size) → DataW.TrodAll enc P W' 0 (fun b => decide (b < W.heap.size)) true ts vs ds ps
  | [], [], [], _, _, h, _ => h
  | [], _ :: _, _, _, _, h, _ => h.elim
  | [], [], _ :: _, _, _, h, _ => h.elim
  | _ :: _, [], _, _, _, h, _ => h.elim
  | _ :: _, _ :: _, [], _, _, h, _ => h.elim
  | t :: ts, v :: vs, d :: ds, ps, ha, h, hp => by
    obtain ⟨p, q, h1, h2, rfl⟩ := h; simp only [List.all_cons, Bool.and_eq_true, decide_eq_true_eq] at ha; exact ⟨p, q, Go.RowKit.Below.trod hl ha.1.1 ha.1.2 h1 hb (fun x hx => hp x (List.mem_append_left _ hx)), trodAll_below hl hb (by simpa using ha.2) h2 (fun x hx => hp x (List.mem_append_right _ hx)), rfl⟩
theorem law_post {f : Func} {s : ChangeSpec} {tb : TypeId} (hl : laidOutB P = true) (hrd : (f.params.toList.all fun t => P.readableRec t && decide (t < P.types.size)) = true) (hres : f.resultTypes = #[tb]) (htb : P.underlying tb = some .bool) (hvars : s.vars = []) {W W' : World} {args : Array Value} {ds gs : List (DataW H)}
    {before : List MemPlace} (hW : DataW.Whole enc P f.params.toList s.vars false W args.toList ds gs before) (hr : (s.fn H (ds ++ gs)).results = [.lit (.bool true)]) (ha : (s.fn H (ds ++ gs)).args = ds) (hv : (s.fn H (ds ++ gs)).vars = []) (hb : Below W.heap.size W W') :
    s.post enc P f false true false false W args (.bool true) W' := by
  have hlt := hW.lt; have hW' := hW; obtain ⟨p, q, hA, hV, rfl, _, _⟩ := hW; rw [hvars] at hV; have hV' : gs = [] ∧ q = [] := trodVars_none hV; obtain ⟨rfl, rfl⟩ := hV'; refine ⟨ds, [], p ++ [], [], p, [], hW', ?_, ?_, ?_, hb.frame _, fun h => by cases h⟩
  · rw [hr, hres]; exact trodAll_mk1 (Go.RowKit.shut_bool htb _)
  · rw [ha]; exact trodAll_below hl hb hrd hA fun x hx => hlt x (List.mem_append_left _ hx)
  rw [hvars, hv]; exact rfl
end
theorem law_calls3 (hP : ProgOk P) {orc : FuncId → List Value → Heap → Option (Value × Heap)} {W : World} (horc : CallSound P W.heap.size (wz W) orc) {f : FuncId} (hen : Enters P f) {fn : Func} {n : Nat} {t0 t1 t2 : TypeId} {τ0 τ1 τ2 : Ty} (hp : fn.params = #[t0, t1, t2]) (hb0 : tyB P n t0 τ0 = true) (hb1 : tyB P n t1 τ1 = true) (hb2 : tyB P n t2 τ2 = true)
    (hE : ∀ (h : Heap) (v0 v1 v2 : Value) (x0 : τ0.den) (x1 : τ1.den) (x2 : τ2.den), HOk h → RepV h [] τ0 v0 x0 → RepV h [] τ1 v1 x1 → RepV h [] τ2 v2 x2 → Wf τ0 x0 → Wf τ1 x1 → Wf τ2 x2 → EvF P orc f [v0, v1, v2] h fun r h' => r = .bool true ∧ h' = h)
    {args : Array Value} {ds : List (DataW H)} {ps : List MemPlace} (hval : ∀ (j : Nat) t v, fn.params[j]? = some t → args[j]? = some v → Value.okWide P W .any base t v) (hA : DataW.TrodAll enc P W 0 sp held fn.params.toList args.toList ds ps) :
    Calls P f args W fun | .returned v', w' => v' = .bool true ∧ Below W.heap.size W w' | _, _ => False := by
  rw [hp] at hA hval; obtain ⟨v0, vs0, d0, ds0, p0, q0, ha, rfl, rfl, k0, r0⟩ := Go.ChangeShapes.trodAll_cons hA; obtain ⟨v1, vs1, d1, ds1, p1, q1, rfl, rfl, rfl, k1, r1⟩ := Go.ChangeShapes.trodAll_cons r0; obtain ⟨v2, vs2, d2, ds2, p2, q2, rfl, rfl, rfl, k2, r2⟩ := Go.ChangeShapes.trodAll_cons r1; obtain ⟨rfl, rfl, rfl⟩ := Go.ChangeShapes.trodAll_nil r2
  obtain rfl : args = #[v0, v1, v2] := by cases args; simp_all
  obtain ⟨ρ0, S0, h0, u0, x0, g0, c0, e0, w0⟩ := tell_arg (hr_empty (P := P) (w := W) (Nat.zero_le _)) hb0 (hval 0 t0 v0 rfl rfl) k0; obtain ⟨ρ1, S1, h1, u1, x1, g1, c1, e1, w1⟩ := tell_arg g0.hr hb1 (hval 1 t1 v1 rfl rfl) k1; obtain ⟨ρ2, S2, h2, u2, x2, g2, c2, e2, w2⟩ := tell_arg g1.hr hb2 (hval 2 t2 v2 rfl rfl) k2; have hR := hE h2 u0 u1 u2 x0 x1 x2 g2.ok ((e0.nx (g1.aft.nx g0.ok)).nx (g2.aft.nx g1.ok)) (e1.nx (g2.aft.nx g1.ok)) e2 w0 w1 w2; refine (fs_open (args' := [v0, v1, v2]) hP horc hen g2.hr (LR.cons ((c0.mono g1.agree).mono g2.agree) (LR.cons (c1.mono g2.agree) (LR.one c2))) (EvF.mono hR fun v h' h => h.1) rfl).mono fun e w' he => ?_
  cases e with
  | returned v => exact ⟨he.1, below_z he.2⟩
  | panicked c => exact he
  | outgrown => exact he
end Go.Fs
namespace Go.Proofs
open Go.Fs
set_option maxHeartbeats 1000000
theorem zt92 : ZerT Tryz.prog 92 y92 := zerT_of (z := .agg #[.slice none 0 0, .slice none 0 0, .slice none 0 0]) (by kernel_rfl) rfl rfl
theorem bt92 : BldT Tryz.prog 92 y92 [(0, 1), (1, 1), (2, 1)] := bldT_of zt92 rfl (by kernel_rfl)
theorem wfL {e : Ty} {xs : List e.den} (h : Wf (.sl e) xs) : xs.length ≤ 9223372036854775807 := Nat.le_trans h.1 (by decide)
def gtE (g : Gat) (gate : Int) : Int := whenE (decide (gate < 0) || decide (((g.1.length : Nat) : Int) ≤ gate)) 10
theorem gtE_t {g : Gat} {gate x : Int} (h : gate < 0) : firstE [gatesE g, x, whenE true 10] = firstE [gatesE g, x, gtE g gate] := by
  unfold gtE; rw [decide_eq_true h] <;> rfl
theorem gtE_f {g : Gat} {gate x : Int} (h : ¬ gate < 0) : firstE [gatesE g, x, whenE (decide (((g.1.length : Nat) : Int) ≤ gate)) 10] = firstE [gatesE g, x, gtE g gate] := by
  unfold gtE; rw [decide_eq_false h] <;> rfl
theorem cForceF_ok {g : (List Int) × (List Int) × (List (List Int))} {set : Int} {gate : Int} (h0 : g.1.length ≤ 9) (hr : ∀ row ∈ g.2.2, row.length < 1000) : VF Tryz.prog OA 55 [.v y92 g, I set, I gate] (.tup [I (if firstE [gatesE g, setE g set, gtE g gate] = 0 then forceE g set gate.toNat else 0), I (firstE [gatesE g, setE g set, gtE g gate])]) := by
  refine VF.enter Tryz.func55 rfl (fun _ _ => rfl) rfl ?_; show VC _ _ _ _ _ [(0, .v y92 g), (1, I set), (2, I gate)] [] _; refine VC.seq (VC.text ?_); refine VO.new (.box) ?_; refine VO.c (.assign rfl) (VO.c (.assign rfl) ?_); refine VO.go (VC.seq (VC.seq ?_)); refine VC.join [(1, I set), (2, I gate), (3, .p y92 g), (8, I (firstE [gatesE g, setE g set, gtE g gate]))] [] ?_ ?_
  · skip
    refine VC.drawn ?_; refine VD.r [] (.ld vt92) (.inl rfl) ?_; refine VD.call rfl rfl (VF.call (cGates_ok (by first | assumption | omega | simp) (by first | assumption | omega | simp))) ?_; refine VD.r [] (.ld vt92) (.inl rfl) ?_; refine VD.c (.move rfl) ?_; refine VD.call rfl rfl (VF.call (cCheckSet_ok (by first | assumption | omega | simp))) ?_; refine VD.c (.move rfl) (VD.nw [] (VD.c (.lss) (VD.c (.move rfl) ?_))); refine VD.splitD (x := 16) rfl (fun g1_7 => ?_) (fun g1_7 => ?_)
    · refine VD.skip (VD.skip (VD.skip (VD.skip ?_))); refine VD.nw [] (VD.skip (VD.c (.pickT rfl rfl) ?_)); refine VD.call rfl rfl (VF.call (cWhen_ok )) ?_; refine VD.new (.lit [gatesE g, setE g set, whenE true (10 : Int)] el154) ?_; refine VD.callO rfl rfl (VF.call (cFirst_ok (by simp))) ?_; refine VD.c (.assign rfl) ?_; refine VD.nil ?_; exact ⟨⟨rfl, rfl, rfl, slI rfl (by first | exact gtE_t g1_7 | exact gtE_f g1_7), trivial⟩, rfl⟩
    refine VD.c (.move rfl) (VD.c (.fa (.l .o)) ?_); refine VD.r [] (.ld vt25) (.inl rfl) ?_; refine VD.r [] (.len el25) (.inl rfl) ?_; refine VD.nw [] (VD.c (.geq) (VD.c (.pickF rfl rfl) ?_)); refine VD.call rfl rfl (VF.call (cWhen_ok )) ?_; refine VD.new (.lit [gatesE g, setE g set, whenE (decide (((g.1.length : Nat) : Int) ≤ gate)) (10 : Int)] el154) ?_; refine VD.callO rfl rfl (VF.call (cFirst_ok (by simp))) ?_; refine VD.c (.assign rfl) ?_; refine VD.nil ?_; exact ⟨⟨rfl, rfl, rfl, slI rfl (by first | exact gtE_t g1_7 | exact gtE_f g1_7), trivial⟩, rfl⟩
  refine VC.seq (VC.text ?_); refine VO.c (.move rfl) (VO.c (.neq) (VO.go ?_)); refine VC.condD rfl (fun c2 => ?_) (fun c2 => ?_)
  · refine VC.seq (VC.text ?_); refine VO.c (.move rfl) (VO.c (.assign rfl) (VO.c (.assign rfl) (VO.go ?_))); refine VC.ret ?_; exact VEnd.two rfl evT evT (pvI (by rw [if_neg c2])) (pvI (by rfl))
  have hz := firstE_zero.1 (Classical.not_not.1 c2); have hg : gatesE g = 0 := hz _ List.mem_cons_self; have hgt := (whenE_zero (c := decide (gate < 0) || decide (((g.1.length : Nat) : Int) ≤ gate)) (e := 10) (by decide)).1 (hz _ (List.mem_cons_of_mem _ (List.mem_cons_of_mem _ List.mem_cons_self)))
  try simp only [Bool.and_eq_true, Bool.or_eq_true, Bool.and_eq_false_iff, Bool.or_eq_false_iff, Bool.not_eq_true', Bool.not_eq_false', decide_eq_true_eq, decide_eq_false_iff_not] at hgt
  refine VC.skip (VC.seq (VC.text ?_)); refine VO.r (.ld vt92) ?_; refine VO.c (.move rfl) (VO.c (.move rfl) ?_); refine VO.call rfl rfl (VF.call (cForce_ok hg (by omega) (by omega))) ?_; refine VO.c (.assign rfl) (VO.c (.assign rfl) (VO.go ?_)); refine VC.ret ?_; exact VEnd.two rfl evT evT (pvI (by rw [if_pos (Classical.not_not.1 c2)])) (pvI (by exact (Classical.not_not.1 c2).symm))
theorem cPermF_ok {g : (List Int) × (List Int) × (List (List Int))} {set : Int} (h0 : g.1.length ≤ 9) (hr : ∀ row ∈ g.2.2, row.length < 1000) : VF Tryz.prog OA 57 [.v y92 g, I set] (.tup [B (if firstE [gatesE g, setE g set] = 0 then permE g set g.1.length else false), I (firstE [gatesE g, setE g set])]) := by
  refine VF.enter Tryz.func57 rfl (fun _ _ => rfl) rfl ?_; show VC _ _ _ _ _ [(0, .v y92 g), (1, I set)] [] _; refine VC.seq (VC.text ?_); refine VO.new (.box) ?_; refine VO.c (.assign rfl) (VO.c (.assign rfl) ?_); refine VO.go (VC.seq (VC.seq (VC.drawn ?_))); refine VD.r [] (.ld vt92) (.inl rfl) ?_; refine VD.call rfl rfl (VF.call (cGates_ok (by first | assumption | omega | simp) (by first | assumption | omega | simp))) ?_; refine VD.r [] (.ld vt92) (.inl rfl) ?_; refine VD.c (.move rfl) ?_; refine VD.call rfl rfl (VF.call (cCheckSet_ok (by first | assumption | omega | simp))) ?_; refine VD.new (.lit [gatesE g, setE g set] el154) ?_; refine VD.nw [12] ?_; refine VD.callO rfl rfl (VF.call (cFirst_ok (by first | assumption | omega | simp))) ?_; refine VD.c (.assign rfl) ?_; refine VD.go (VC.seq (VC.text ?_)); refine VO.c (.move rfl) (VO.c (.neq) (VO.go ?_)); refine VC.condD rfl (fun c2 => ?_) (fun c2 => ?_)
  · refine VC.seq (VC.text ?_); refine VO.c (.move rfl) (VO.c (.assign rfl) (VO.c (.assign rfl) (VO.go ?_))); refine VC.ret ?_; exact VEnd.two rfl evT evT (pvE (by rw [if_neg c2])) (pvI (by rfl))
  have hz := firstE_zero.1 (Classical.not_not.1 c2); have hg : gatesE g = 0 := hz _ List.mem_cons_self; refine VC.skip (VC.seq (VC.text ?_)); refine VO.r (.ld vt92) ?_; refine VO.c (.move rfl) ?_; refine VO.call rfl rfl (VF.call (cPerm_ok hg)) ?_; refine VO.c (.assign rfl) (VO.c (.assign rfl) (VO.go ?_)); refine VC.ret ?_; exact VEnd.two rfl evT evT (pvE (by rw [if_pos (Classical.not_not.1 c2)])) (pvI (by exact (Classical.not_not.1 c2).symm))
theorem lInts_ok {l : List Int} (hl : l.length < 1000000) : VF Tryz.prog OA 36 [.v y25 l] (.v y25 l) := by
  refine VF.enter Tryz.func36 rfl (fun _ _ => rfl) rfl ?_; show VC _ _ _ _ _ [(0, .v y25 l)] [] _; refine VC.seq (VC.text ?_); refine VO.c (.assign rfl) ?_; refine VO.go (VC.seq (VC.text ?_)); refine VO.cell (.lit0 el25) ?_; intro ww1; refine VO.c (.move rfl) ?_; refine VO.app rfl rfl el25 el25 (by simp; omega) ?_; intro ww2; refine VO.c (.assign rfl) (VO.go ?_); refine VC.ret ?_; exact VEnd.one rfl (evC (.row m0)) (pvE (by rfl))
theorem lGates_ok {g : (List Int) × (List Int) × (List (List Int))} (h1 : g.1.length < 100000) (h2 : g.2.1.length < 100000) (h3 : g.2.2.length < 100000) (hr : ∀ row ∈ g.2.2, row.length < 1000) : VF Tryz.prog OA 56 [.v y88 g] (.v y92 g) := by
  refine VF.enter Tryz.func56 rfl (fun _ _ => rfl) rfl ?_; show VC _ _ _ _ _ [(0, .v y88 g)] [] _; refine VC.seq (VC.text ?_); refine VO.new (.box) ?_; refine VO.cell (.alloc zt92) ?_; intro ww3; refine VO.go (VC.seq (VC.drawn ?_)); refine VD.c (.fa (.l .o)) ?_; refine VD.r [] (.ld vt25) (.inl rfl) ?_; refine VD.call rfl rfl (VF.call (lInts_ok (by first | assumption | omega | simp))) ?_; refine VD.c (.fa (.r (.l .o))) ?_; refine VD.r [] (.ld vt25) (.inl rfl) ?_; refine VD.call rfl rfl (VF.call (lInts_ok (by first | assumption | omega | simp))) ?_; refine VD.nw [11, 8] (VD.c (.buildA (cs := [.v y25 g.1, .v y25 g.2.1, nilV]) bt92 rfl) ?_); refine VD.cell (.alloc zt92) ?_; intro ww4; refine VD.mk0 (MakeV.setF (k := 0) vt92 (.aggs rfl rfl) (Nat.le_of_ble_eq_true rfl) (.inr ⟨rfl, rfl⟩) rfl rfl) ?_; rintro _ _ tl5 ⟨rfl, rfl⟩; refine VD.go (VC.seq (VC.seq (VC.text ?_))); refine VO.c (.fa (.r (.r .o))) ?_; refine VO.r (.ld vt86) ?_; refine VO.r (.len el86) ?_; refine VO.c (.move rfl) ?_; refine VO.go (VC.block ?_); refine VC.cell0 25 y25 ?_; refine VC.keep [(2, .raw ww3), (3, .raw ww4), (14, .v y86 g.2.2), (15, I ((g.2.2.length : Nat) : Int)), (16, I ((0 : Nat) : Int))] ⟨rfl, rfl, rfl, rfl, rfl, trivial⟩ ?_; refine VC.loop (I := fun kk ff ss => ∃ (i : Nat) (w : Value), kk = g.2.2.length - i ∧ ff = [(2, .raw ww3), (3, .raw ww4), (14, .v y86 g.2.2), (15, I ((g.2.2.length : Nat) : Int)), (16, I ((i : Nat) : Int))] ∧ ss = [(w, .row 25 y25 (g.2.2.take i)), (ww4, .var [.v y25 g.1, .v y25 g.2.1, .raw w]), (ww3, .var [.v y25 [], .v y25 [], .v y86 []])] ∧ (i ≤ g.2.2.length)) ?_ _ _ _ ⟨0, (.slice none 0 0), rfl, rfl, rfl, Nat.zero_le _⟩; rintro kk ff ss ⟨i, w, hk0, rfl, rfl, hi⟩; refine VC.seq (VC.text ?_); refine VO.c (.lss) ?_; refine VO.go (VC.seq ?_); refine VC.condD rfl (fun c3 => ?_) (fun c3 => ?_)
  · have hrr := hr _ (List.getElem_mem (show i < g.2.2.length by omega)); refine VC.skip (VC.seq (VC.block (VC.seq (VC.text ?_)))); refine VO.c (.ix (j := i) rfl rfl el86 (by omega)) ?_; refine VO.r (.ld vt25) ?_; refine VO.c (.assign rfl) ?_; refine VO.go (VC.drawn ?_); refine VD.co (.faO (k := 2) m1) ?_; refine VD.r [(w, .row 25 y25 (g.2.2.take i)), (ww4, .var [.v y25 g.1, .v y25 g.2.1, .raw w]), (ww3, .var [.v y25 [], .v y25 [], .v y86 []])] (.ldF (k := 2) m1 vt86) (.inr ⟨rfl, rfl⟩) ?_; refine VD.c (.move rfl) ?_; refine VD.call rfl rfl (VF.call (lInts_ok (by omega))) ?_; refine VD.new (.lit [(g.2.2[i])] el86) ?_; refine VD.mk (MakeV.app el86 el86 rfl rfl (by simp; omega)) ?_; rintro _ _ tl6 ⟨ww6, rfl, rfl⟩; refine VD.nw [25, 24, 23] ?_; refine VD.co (.faO (k := 2) m1) ?_; refine VD.perm swap1 ?_; refine VD.one m1 fun ho7 => ?_; refine VD.mk0 (MakeV.setF (k := 2) vt86 (.raw rfl (agg_one ho7) ho7) (Nat.le_of_ble_eq_true rfl) (.inl rfl) rfl rfl) ?_; rintro _ _ tl8 ⟨rfl, rfl⟩; refine VD.nil ?_; refine VC.text ?_; refine VO.c (.add rfl rfl (by omega)) (VO.c (.move rfl) ?_); refine VO.perm swap2 ?_; refine VO.perm swap1 ?_; refine VO.perm swap2 ?_; refine VO.nil ?_; refine ⟨_, [(2, .raw ww3), (3, .raw ww4), (14, .v y86 g.2.2), (15, I ((g.2.2.length : Nat) : Int)), (16, I (((i + 1) : Nat) : Int))], ?_, ⟨rfl, rfl, rfl, rfl, rfl, trivial⟩, (i + 1), ww6, rfl, rfl, (by rw [List.take_succ_eq_append_getElem (by omega)] <;> rfl), (by omega)⟩; omega
  refine VC.exit (VC.seq ?_); refine VC.perm swap1 ?_; refine VC.perm swap1 ?_; refine VC.shutL [(w, .row 25 y25 (g.2.2.take i)), (ww4, .var [.v y25 g.1, .v y25 g.2.1, .raw w])] [(3, .p y92 (g.1, g.2.1, (g.2.2.take i)))] rfl (.cons rfl (.var m1 (.cons .same (.cons .same (.cons (.row m0) .nil)))) .nil) ?_; refine VC.text ?_; refine VO.r (.ld vt92) ?_; refine VO.setV (cs' := [.v y25 g.1, .v y25 g.2.1, .v y86 (g.2.2.take i)]) vt92 .v ?_; refine VO.go ?_; refine VC.ret ?_; exact VEnd.one rfl (.cell (x := (g.1, g.2.1, (g.2.2.take i))) rfl m0 vt92 .refl) (pvE (by rw [List.take_of_length_le (by omega)]))
def numB (have_ e bad want : Int) : Bool := if bad ≠ 0 then decide (have_ = 0) && decide (e = bad) else decide (e = 0) && decide (have_ = want)
theorem lNum_ok {a : Int} {e : Int} {bad : Int} {want : Int} : VF Tryz.prog OA 63 [I a, I e, I bad, I want] (B (numB a e bad want)) := by
  refine VF.enter Tryz.func63 rfl (fun _ _ => rfl) rfl ?_; show VC _ _ _ _ _ [(0, I a), (1, I e), (2, I bad), (3, I want)] [] _; refine VC.seq (VC.text ?_); refine VO.c (.assign rfl) ?_; refine VO.go (VC.seq (VC.seq (VC.text ?_))); refine VO.c (.move rfl) (VO.c (.neq) (VO.go ?_)); refine VC.condD rfl (fun c1 => ?_) (fun c1 => ?_)
  · refine VC.seq (VC.text ?_); refine VO.c (.move rfl) (VO.c (.eql) (VO.c (.move rfl) ?_)); refine VO.cg (r := decide (a = (0 : Int))) (w := true) [] trivial (fun _ => (.move rfl)) ?_; refine VO.cg (r := decide (a = (0 : Int))) (w := true) [] trivial (fun _ => (.move rfl)) ?_; refine VO.cg (r := decide (a = (0 : Int))) (w := true) [(14, I e), (15, I bad)] ⟨rfl, rfl, trivial⟩ (fun _ => (.eql)) ?_; refine VO.c (.and) (VO.c (.assign rfl) (VO.go ?_)); refine VC.ret ?_; exact VEnd.one rfl evT (pvE (by rw [numB, if_pos c1]))
  refine VC.skip (VC.seq (VC.text ?_)); refine VO.c (.move rfl) (VO.c (.eql) (VO.c (.move rfl) ?_)); refine VO.cg (r := decide (e = (0 : Int))) (w := true) [] trivial (fun _ => (.move rfl)) ?_; refine VO.cg (r := decide (e = (0 : Int))) (w := true) [] trivial (fun _ => (.move rfl)) ?_; refine VO.cg (r := decide (e = (0 : Int))) (w := true) [(21, I a), (22, I want)] ⟨rfl, rfl, trivial⟩ (fun _ => (.eql)) ?_; refine VO.c (.and) (VO.c (.assign rfl) (VO.go ?_)); refine VC.ret ?_; exact VEnd.one rfl evT (pvE (by rw [numB, if_neg c1]))
def shortG (g : Gat) : Bool := decide ((∀ row ∈ g.2.2, row.length ≤ 9) ∧ g.1.length ≤ 9 ∧ g.2.1.length ≤ 9 ∧ g.2.2.length ≤ 9)
theorem shortG_f {g : Gat} {i : Nat} (hi : i < g.2.2.length) (h : (9 : Int) < ((g.2.2[i].length : Nat) : Int)) : false = shortG g := (decide_eq_false fun hh => by have := hh.1 _ (List.getElem_mem hi); omega).symm
theorem rShortG_ok {g : (List Int) × (List Int) × (List (List Int))} (hl : g.2.2.length ≤ 9223372036854775807) : VF Tryz.prog OA 54 [.v y88 g] (B (shortG g)) := by
  refine VF.enter Tryz.func54 rfl (fun _ _ => rfl) rfl ?_; show VC _ _ _ _ _ [(0, .v y88 g)] [] _; refine VC.seq (VC.text ?_); refine VO.new (.box) ?_; refine VO.c (.assign rfl) ?_; refine VO.go (VC.seq (VC.seq (VC.text ?_))); refine VO.c (.assign rfl) ?_; refine VO.go (VC.block ?_); refine VC.keep [(1, .p y88 g), (3, I ((0 : Nat) : Int))] ⟨rfl, rfl, trivial⟩ ?_; refine VC.loop (I := fun kk ff ss => ∃ (i : Nat), kk = g.2.2.length - i ∧ ff = [(1, .p y88 g), (3, I ((i : Nat) : Int))] ∧ ss = [] ∧ (i ≤ g.2.2.length) ∧ (∀ j (hj : j < g.2.2.length), j < i → g.2.2[j].length ≤ 9)) ?_ _ _ _ ⟨0, rfl, rfl, rfl, Nat.zero_le _, (by intro j hj h; omega)⟩; rintro kk ff ss ⟨i, hk0, rfl, rfl, hi, hn⟩; refine VC.seq (VC.seq (VC.text ?_)); refine VO.c (.move rfl) (VO.c (.fa (.r (.r .o))) ?_); refine VO.r (.ld vt86) ?_; refine VO.r (.len el86) ?_; refine VO.c (.lss) (VO.go ?_); refine VC.condD rfl (fun c2 => ?_) (fun c2 => ?_)
  · refine VC.skip (VC.seq (VC.block (VC.seq (VC.text ?_)))); refine VO.c (.fa (.r (.r .o))) ?_; refine VO.r (.ld vt86) ?_; refine VO.c (.move rfl) (VO.c (.ix (j := i) rfl rfl el86 (by omega)) ?_); refine VO.r (.ld vt25) ?_; refine VO.r (.len el25) ?_; refine VO.c (.gtr) (VO.go ?_); refine VC.condD rfl (fun c4 => ?_) (fun c4 => ?_)
    · refine VC.seq (VC.text ?_); refine VO.c (.assign rfl) (VO.go ?_); refine VC.ret ?_; exact VEnd.one rfl evT (pvE (by exact shortG_f (by omega) c4))
    refine VC.skip (VC.text ?_); refine VO.c (.move rfl) (VO.c (.add rfl rfl (by omega)) (VO.c (.assign rfl) ?_)); refine VO.nil ?_; refine ⟨_, [(1, .p y88 g), (3, I (((i + 1) : Nat) : Int))], ?_, ⟨rfl, rfl, trivial⟩, (i + 1), rfl, rfl, rfl, (by omega), (by intro j hj h; rcases Nat.lt_succ_iff_lt_or_eq.1 h with h | h; exact hn j hj h; subst h; omega)⟩; omega
  refine VC.exit (VC.seq (VC.text ?_)); refine VO.c (.fa (.l .o)) ?_; refine VO.r (.ld vt25) ?_; refine VO.r (.len el25) ?_; refine VO.c (.leq) (VO.c (.move rfl) ?_); refine VO.cg (r := decide (((g.1.length : Nat) : Int) ≤ (9 : Int))) (w := true) [] trivial (fun _ => (.fa (.r (.l .o)))) ?_; refine VO.rg (r := decide (((g.1.length : Nat) : Int) ≤ (9 : Int))) (w := true) [(23, .p y25 g.2.1)] ⟨rfl, trivial⟩ (fun _ => (.ld vt25)) ?_; refine VO.rg (r := decide (((g.1.length : Nat) : Int) ≤ (9 : Int))) (w := true) [(24, .v y25 g.2.1)] ⟨rfl, trivial⟩ (fun _ => (.len el25)) ?_; refine VO.cg (r := decide (((g.1.length : Nat) : Int) ≤ (9 : Int))) (w := true) [(25, I ((g.2.1.length : Nat) : Int))] ⟨rfl, trivial⟩ (fun _ => (.leq)) ?_; refine VO.c (.and) (VO.c (.move rfl) ?_); refine VO.cg (r := ((decide (((g.1.length : Nat) : Int) ≤ (9 : Int))) && (decide (((g.2.1.length : Nat) : Int) ≤ (9 : Int))))) (w := true) [] trivial (fun _ => (.fa (.r (.r (k := 0) .o)))) ?_; refine VO.rg (r := ((decide (((g.1.length : Nat) : Int) ≤ (9 : Int))) && (decide (((g.2.1.length : Nat) : Int) ≤ (9 : Int))))) (w := true) [(29, .p y86 g.2.2)] ⟨rfl, trivial⟩ (fun _ => (.ld vt86)) ?_; refine VO.rg (r := ((decide (((g.1.length : Nat) : Int) ≤ (9 : Int))) && (decide (((g.2.1.length : Nat) : Int) ≤ (9 : Int))))) (w := true) [(30, .v y86 g.2.2)] ⟨rfl, trivial⟩ (fun _ => (.len el86)) ?_; refine VO.cg (r := ((decide (((g.1.length : Nat) : Int) ≤ (9 : Int))) && (decide (((g.2.1.length : Nat) : Int) ≤ (9 : Int))))) (w := true) [(31, I ((g.2.2.length : Nat) : Int))] ⟨rfl, trivial⟩ (fun _ => (.leq)) ?_; refine VO.c (.and) (VO.c (.assign rfl) (VO.go ?_)); refine VC.ret ?_; exact VEnd.one rfl evT (pvE (by rw [shortG, ← Bool.decide_and, ← Bool.decide_and]; refine decide_eq_decide.2 ⟨fun hh => ⟨fun row hrow => ?_, by omega, by omega, by omega⟩, fun hh => by omega⟩; obtain ⟨j, hj, rfl⟩ := List.getElem_of_mem hrow; exact hn j hj (by omega)))
end Go.Proofs
namespace Go.Proofs
open Go.Fs
set_option maxHeartbeats 1000000
theorem num_self {e x : Int} : numB (if e = 0 then x else 0) e e (if e = 0 then x else 0) = true := by
  unfold numB; by_cases h : e = 0 <;> simp [h]
theorem shortG_t {g : Gat} (h : shortG g = true) : (∀ row ∈ g.2.2, row.length ≤ 9) ∧ g.1.length ≤ 9 ∧ g.2.1.length ≤ 9 ∧ g.2.2.length ≤ 9 := of_decide_eq_true h
theorem one_t {g : Gat} {set gate : Int} (h : gatesE g = 0) : firstE [setE g set, whenE (decide (gate < 0) || decide (((g.2.1.length : Nat) : Int) ≤ gate)) 10] = firstE [gatesE g, setE g set, gtE g gate] := by
  rw [h, (head_ok (gates_ok h).1).2.1] <;> rfl
theorem one_f {g : Gat} {l : List Int} (h : ¬ gatesE g = 0) : gatesE g = firstE (gatesE g :: l) := (if_neg h).symm
theorem two_t {g : Gat} {set : Int} (h : gatesE g = 0) : setE g set = firstE [gatesE g, setE g set] := by
  rw [h]; show _ = firstE [setE g set]; by_cases h2 : setE g set = 0
  · rw [h2] <;> rfl
  exact (if_neg h2).symm
theorem lawForces_ok {g : (List Int) × (List Int) × (List (List Int))} {set : Int} {gate : Int} (hl : g.2.2.length ≤ 9223372036854775807) : VF Tryz.prog OA 9 [.v y88 g, I set, I gate] (B true) := by
  refine VF.enter Tryz.func9 rfl (fun _ _ => rfl) rfl ?_; show VC _ _ _ _ _ [(0, .v y88 g), (1, I set), (2, I gate)] [] _; refine VC.seq (VC.text ?_); refine VO.new (.box) ?_; refine VO.c (.assign rfl) ?_; refine VO.go (VC.seq (VC.seq (VC.text ?_))); refine VO.call rfl rfl (VF.call (awake_ok )) ?_; refine VO.c (.not) (VO.c (.move rfl) ?_); refine VO.r (.ld vt88) ?_; refine VO.call rfl rfl (VF.call (rShortG_ok hl)) ?_; refine VO.c (.not) (VO.c (.pickF rfl rfl) (VO.go ?_)); refine VC.condB rfl (fun c1 => ?_) (fun c1 => ?_)
  · try simp only [Bool.and_eq_true, Bool.or_eq_true, Bool.and_eq_false_iff, Bool.or_eq_false_iff, Bool.not_eq_true', Bool.not_eq_false', decide_eq_true_eq, decide_eq_false_iff_not] at c1
    refine VC.seq (VC.text ?_); refine VO.call rfl rfl (VF.call (awake_ok )) ?_; refine VO.c (.assign rfl) (VO.go ?_); refine VC.ret ?_; exact VEnd.one rfl evT (pvE (by rfl))
  try simp only [Bool.and_eq_true, Bool.or_eq_true, Bool.and_eq_false_iff, Bool.or_eq_false_iff, Bool.not_eq_true', Bool.not_eq_false', decide_eq_true_eq, decide_eq_false_iff_not] at c1
  have hs := shortG_t (by simpa using c1); have h9 := hs.2.1; have h9b := hs.2.2.1; have h9c := hs.2.2.2
  have hr : ∀ row ∈ g.2.2, row.length < 1000 := fun row h => by have := hs.1 row h; omega
  refine VC.skip (VC.seq (VC.text ?_)); refine VO.r (.ld vt88) ?_; refine VO.call rfl rfl (VF.call (lGates_ok (by omega) (by omega) (by omega) hr)) ?_; refine VO.c (.move rfl) (VO.c (.move rfl) ?_); refine VO.call rfl rfl (VF.call (cForceF_ok h9 hr)) ?_; refine VO.c (.move rfl) (VO.c (.extract) (VO.c (.extract) (VO.c (.assign rfl) ?_))); refine VO.c (.assign rfl) ?_; refine VO.go (VC.seq (VC.text ?_)); refine VO.r (.ld vt88) ?_; refine VO.call rfl rfl (VF.call (lGates_ok (by omega) (by omega) (by omega) hr)) ?_; refine VO.c (.move rfl) ?_; refine VO.call rfl rfl (VF.call (cPermF_ok h9 hr)) ?_; refine VO.c (.move rfl) (VO.c (.extract) (VO.c (.extract) (VO.c (.assign rfl) ?_))); refine VO.c (.assign rfl) ?_; refine VO.go (VC.seq (VC.text ?_)); refine VO.r (.ld vt88) ?_; refine VO.call rfl rfl (VF.call (rGates_ok (by omega))) ?_; refine VO.c (.assign rfl) ?_; refine VO.go (VC.seq ?_); refine VC.keep [(1, I set), (2, I gate), (3, .p y88 g), (7, I (if firstE [gatesE g, setE g set, gtE g gate] = 0 then forceE g set gate.toNat else 0)), (8, I (firstE [gatesE g, setE g set, gtE g gate])), (9, B (if firstE [gatesE g, setE g set] = 0 then permE g set g.1.length else false)), (10, I (firstE [gatesE g, setE g set])), (11, I (gatesE g))] ⟨rfl, rfl, rfl, rfl, rfl, rfl, rfl, rfl, trivial⟩ ?_; refine VC.text ?_; refine VO.c (.move rfl) (VO.c (.move rfl) (VO.c (.assign rfl) (VO.c (.assign rfl) ?_))); refine VO.go (VC.seq (VC.text ?_)); refine VO.c (.assign rfl) ?_; refine VO.go (VC.seq (VC.text ?_)); refine VO.c (.assign rfl) ?_; refine VO.go (VC.seq (VC.seq (VC.text ?_))); refine VO.c (.move rfl) (VO.c (.eql) (VO.go ?_)); refine VC.join [(1, I set), (2, I gate), (3, .p y88 g), (7, I (if firstE [gatesE g, setE g set, gtE g gate] = 0 then forceE g set gate.toNat else 0)), (8, I (firstE [gatesE g, setE g set, gtE g gate])), (9, B (if firstE [gatesE g, setE g set] = 0 then permE g set g.1.length else false)), (10, I (firstE [gatesE g, setE g set])), (11, I (gatesE g)), (12, I (firstE [gatesE g, setE g set, gtE g gate])), (13, I (firstE [gatesE g, setE g set])), (14, I (0 : Int)), (15, B false)] [] ?_ ?_; refine VC.condD rfl (fun c9 => ?_) (fun c9 => ?_)
  · refine VC.seq (VC.text ?_); refine VO.r (.ld vt88) ?_; refine VO.c (.move rfl) ?_; refine VO.call rfl rfl (VF.call (rCheckSet_ok h9)) ?_; refine VO.c (.assign rfl) ?_; refine VO.go (VC.text ?_); refine VO.c (.move rfl) (VO.c (.move rfl) (VO.c (.lss) (VO.c (.move rfl) ?_))); refine VO.cg (r := decide (gate < (0 : Int))) (w := false) [] trivial (fun _ => (.move rfl)) ?_; refine VO.cg (r := decide (gate < (0 : Int))) (w := false) [] trivial (fun _ => (.fa (.r (.l .o)))) ?_; refine VO.rg (r := decide (gate < (0 : Int))) (w := false) [(53, .p y25 g.2.1)] ⟨rfl, trivial⟩ (fun _ => (.ld vt25)) ?_; refine VO.rg (r := decide (gate < (0 : Int))) (w := false) [(54, .v y25 g.2.1)] ⟨rfl, trivial⟩ (fun _ => (.len el25)) ?_; refine VO.cg (r := decide (gate < (0 : Int))) (w := false) [(52, I gate), (55, I ((g.2.1.length : Nat) : Int))] ⟨rfl, rfl, trivial⟩ (fun _ => (.geq)) ?_; refine VO.c (.or) ?_; refine VO.call rfl rfl (VF.call (lWhen_ok )) ?_; refine VO.new (.lit [setE g set, whenE ((decide (gate < (0 : Int))) || (decide (((g.2.1.length : Nat) : Int) ≤ gate))) (10 : Int)] el25) ?_; refine VO.call rfl rfl (VF.call (lFirst_ok (by simp))) ?_; refine VO.c (.assign rfl) ?_; refine VO.nil ?_; exact ⟨⟨rfl, rfl, rfl, rfl, rfl, rfl, rfl, rfl, slI rfl (by first | exact one_t c9 | exact one_f c9), slI rfl (by first | exact two_t c9 | exact one_f c9), rfl, rfl, trivial⟩, rfl⟩
  · refine VC.skip ?_; exact ⟨⟨rfl, rfl, rfl, rfl, rfl, rfl, rfl, rfl, slI rfl (by first | exact one_t c9 | exact one_f c9), slI rfl (by first | exact two_t c9 | exact one_f c9), rfl, rfl, trivial⟩, rfl⟩
  refine VC.seq (VC.seq (VC.text ?_)); refine VO.c (.move rfl) (VO.c (.eql) (VO.go ?_)); refine VC.join [(1, I set), (3, .p y88 g), (7, I (if firstE [gatesE g, setE g set, gtE g gate] = 0 then forceE g set gate.toNat else 0)), (8, I (firstE [gatesE g, setE g set, gtE g gate])), (9, B (if firstE [gatesE g, setE g set] = 0 then permE g set g.1.length else false)), (10, I (firstE [gatesE g, setE g set])), (11, I (gatesE g)), (12, I (firstE [gatesE g, setE g set, gtE g gate])), (13, I (firstE [gatesE g, setE g set])), (14, I (if firstE [gatesE g, setE g set, gtE g gate] = 0 then forceE g set gate.toNat else 0)), (15, B false)] [] ?_ ?_; refine VC.condD rfl (fun c12 => ?_) (fun c12 => ?_)
  · have hz := firstE_zero.1 c12; have hg : gatesE g = 0 := hz _ List.mem_cons_self; have hgt := (whenE_zero (c := decide (gate < 0) || decide (((g.1.length : Nat) : Int) ≤ gate)) (e := 10) (by decide)).1 (hz _ (List.mem_cons_of_mem _ (List.mem_cons_of_mem _ List.mem_cons_self)))
    try simp only [Bool.and_eq_true, Bool.or_eq_true, Bool.and_eq_false_iff, Bool.or_eq_false_iff, Bool.not_eq_true', Bool.not_eq_false', decide_eq_true_eq, decide_eq_false_iff_not] at hgt
    refine VC.text ?_; refine VO.r (.ld vt88) ?_; refine VO.c (.move rfl) (VO.c (.move rfl) ?_); refine VO.call rfl rfl (VF.call (rForce_ok hg (by omega) (by omega))) ?_; refine VO.c (.assign rfl) ?_; refine VO.nil ?_; exact ⟨⟨rfl, rfl, rfl, rfl, rfl, rfl, rfl, rfl, rfl, slI rfl (by first | (rw [if_pos c12]; done) | (rw [if_neg c12]; done)), rfl, trivial⟩, rfl⟩
  · refine VC.skip ?_; exact ⟨⟨rfl, rfl, rfl, rfl, rfl, rfl, rfl, rfl, rfl, slI rfl (by first | (rw [if_pos c12]; done) | (rw [if_neg c12]; done)), rfl, trivial⟩, rfl⟩
  refine VC.seq (VC.seq (VC.text ?_)); refine VO.c (.move rfl) (VO.c (.eql) (VO.go ?_)); refine VC.join [(3, .p y88 g), (7, I (if firstE [gatesE g, setE g set, gtE g gate] = 0 then forceE g set gate.toNat else 0)), (8, I (firstE [gatesE g, setE g set, gtE g gate])), (9, B (if firstE [gatesE g, setE g set] = 0 then permE g set g.1.length else false)), (10, I (firstE [gatesE g, setE g set])), (11, I (gatesE g)), (12, I (firstE [gatesE g, setE g set, gtE g gate])), (13, I (firstE [gatesE g, setE g set])), (14, I (if firstE [gatesE g, setE g set, gtE g gate] = 0 then forceE g set gate.toNat else 0)), (15, B (if firstE [gatesE g, setE g set] = 0 then permE g set g.1.length else false))] [] ?_ ?_; refine VC.condD rfl (fun c14 => ?_) (fun c14 => ?_)
  · have hg : gatesE g = 0 := firstE_zero.1 c14 _ List.mem_cons_self; refine VC.text ?_; refine VO.r (.ld vt88) ?_; refine VO.c (.move rfl) ?_; refine VO.call rfl rfl (VF.call (rPerm_ok hg)) ?_; refine VO.c (.assign rfl) ?_; refine VO.nil ?_; exact ⟨⟨rfl, rfl, rfl, rfl, rfl, rfl, rfl, rfl, rfl, slE rfl (by first | (rw [if_pos c14]; done) | (rw [if_neg c14]; done)), trivial⟩, rfl⟩
  · refine VC.skip ?_; exact ⟨⟨rfl, rfl, rfl, rfl, rfl, rfl, rfl, rfl, rfl, slE rfl (by first | (rw [if_pos c14]; done) | (rw [if_neg c14]; done)), trivial⟩, rfl⟩
  refine VC.seq (VC.text ?_); refine VO.r (.ld vt88) ?_; refine VO.call rfl rfl (VF.call (lGates_ok (by omega) (by omega) (by omega) hr)) ?_; refine VO.call rfl rfl (VF.call (cGates_ok (by omega) hr)) ?_; refine VO.c (.move rfl) (VO.c (.eql) (VO.c (.move rfl) ?_)); refine VO.cg (r := decide (gatesE g = gatesE g)) (w := true) [] trivial (fun _ => (.move rfl)) ?_; refine VO.cg (r := decide (gatesE g = gatesE g)) (w := true) [] trivial (fun _ => (.move rfl)) ?_; refine VO.cg (r := decide (gatesE g = gatesE g)) (w := true) [] trivial (fun _ => (.move rfl)) ?_; refine VO.cg (r := decide (gatesE g = gatesE g)) (w := true) [] trivial (fun _ => (.move rfl)) ?_; refine VO.callg (r0 := decide (gatesE g = gatesE g)) (w := true) [(78, I (if firstE [gatesE g, setE g set, gtE g gate] = 0 then forceE g set gate.toNat else 0)), (79, I (firstE [gatesE g, setE g set, gtE g gate])), (80, I (firstE [gatesE g, setE g set, gtE g gate])), (81, I (if firstE [gatesE g, setE g set, gtE g gate] = 0 then forceE g set gate.toNat else 0))] ⟨rfl, rfl, rfl, rfl, trivial⟩ rfl rfl .same .refl rfl (fun _ => VF.call (lNum_ok )) ?_; refine VO.c (.and) (VO.c (.move rfl) ?_); refine VO.cg (r := ((decide (gatesE g = gatesE g)) && (numB (if firstE [gatesE g, setE g set, gtE g gate] = 0 then forceE g set gate.toNat else 0) (firstE [gatesE g, setE g set, gtE g gate]) (firstE [gatesE g, setE g set, gtE g gate]) (if firstE [gatesE g, setE g set, gtE g gate] = 0 then forceE g set gate.toNat else 0)))) (w := true) [] trivial (fun _ => (.move rfl)) ?_; refine VO.cg (r := ((decide (gatesE g = gatesE g)) && (numB (if firstE [gatesE g, setE g set, gtE g gate] = 0 then forceE g set gate.toNat else 0) (firstE [gatesE g, setE g set, gtE g gate]) (firstE [gatesE g, setE g set, gtE g gate]) (if firstE [gatesE g, setE g set, gtE g gate] = 0 then forceE g set gate.toNat else 0)))) (w := true) [] trivial (fun _ => (.move rfl)) ?_; refine VO.cg (r := ((decide (gatesE g = gatesE g)) && (numB (if firstE [gatesE g, setE g set, gtE g gate] = 0 then forceE g set gate.toNat else 0) (firstE [gatesE g, setE g set, gtE g gate]) (firstE [gatesE g, setE g set, gtE g gate]) (if firstE [gatesE g, setE g set, gtE g gate] = 0 then forceE g set gate.toNat else 0)))) (w := true) [(85, B (if firstE [gatesE g, setE g set] = 0 then permE g set g.1.length else false)), (86, B (if firstE [gatesE g, setE g set] = 0 then permE g set g.1.length else false))] ⟨rfl, rfl, trivial⟩ (fun _ => (.beql)) ?_; refine VO.c (.and) (VO.c (.move rfl) ?_); refine VO.cg (r := (((decide (gatesE g = gatesE g)) && (numB (if firstE [gatesE g, setE g set, gtE g gate] = 0 then forceE g set gate.toNat else 0) (firstE [gatesE g, setE g set, gtE g gate]) (firstE [gatesE g, setE g set, gtE g gate]) (if firstE [gatesE g, setE g set, gtE g gate] = 0 then forceE g set gate.toNat else 0))) && ((if firstE [gatesE g, setE g set] = 0 then permE g set g.1.length else false) == (if firstE [gatesE g, setE g set] = 0 then permE g set g.1.length else false)))) (w := true) [] trivial (fun _ => (.move rfl)) ?_; refine VO.cg (r := (((decide (gatesE g = gatesE g)) && (numB (if firstE [gatesE g, setE g set, gtE g gate] = 0 then forceE g set gate.toNat else 0) (firstE [gatesE g, setE g set, gtE g gate]) (firstE [gatesE g, setE g set, gtE g gate]) (if firstE [gatesE g, setE g set, gtE g gate] = 0 then forceE g set gate.toNat else 0))) && ((if firstE [gatesE g, setE g set] = 0 then permE g set g.1.length else false) == (if firstE [gatesE g, setE g set] = 0 then permE g set g.1.length else false)))) (w := true) [] trivial (fun _ => (.move rfl)) ?_; refine VO.cg (r := (((decide (gatesE g = gatesE g)) && (numB (if firstE [gatesE g, setE g set, gtE g gate] = 0 then forceE g set gate.toNat else 0) (firstE [gatesE g, setE g set, gtE g gate]) (firstE [gatesE g, setE g set, gtE g gate]) (if firstE [gatesE g, setE g set, gtE g gate] = 0 then forceE g set gate.toNat else 0))) && ((if firstE [gatesE g, setE g set] = 0 then permE g set g.1.length else false) == (if firstE [gatesE g, setE g set] = 0 then permE g set g.1.length else false)))) (w := true) [(90, I (firstE [gatesE g, setE g set])), (91, I (firstE [gatesE g, setE g set]))] ⟨rfl, rfl, trivial⟩ (fun _ => (.eql)) ?_; refine VO.c (.and) (VO.c (.assign rfl) (VO.go ?_)); refine VC.ret ?_; exact VEnd.one rfl evT (pvE (by simp [num_self]))
end Go.Proofs
namespace Go.Fs
open Go.RowKit (Below)
variable {P : Program}
def orcB (fi fj fc : FuncId) (T : TypeId) : FuncId → List Value → Heap → Option (Value × Heap) := fun f xs h =>
  bif Nat.beq f fc then
    match xs with
    | [.pointer (some ⟨b, 0, none⟩)] =>
      match h.get b with
      | some (.row e [p, v] true false) =>
        bif Nat.beq e T then
          match p with
          | .pointer none => some (.tuple #[], h.set b (.row e [.pointer (some ⟨b, 0, none⟩), v] true false))
          | .pointer (some ⟨b', 0, none⟩) => bif Nat.beq b' b then some (.tuple #[], h) else none
          | _ => none
        else none
      | _ => none
    | _ => none
  else orcS fi fj f xs h
theorem orcB_sound {B : Nat} {w0 : World} {fi fj fc : FuncId} {T : TypeId} (hz : w0.drawn = 0) (hS : CallSound P B w0 (orcS fi fj)) (hc : Enters P fc)
    (hF : ∀ (b : Nat) (w : World), w.cell? ⟨b, 0, none⟩ = some (.pointer none) → w.shape? b = some (T, 2) → w.frozen? ⟨b, 0, none⟩ = false →
      Calls P fc #[.pointer (some ⟨b, 0, none⟩)] w fun e w' => e = .returned (.tuple #[]) ∧ w' = w.setCell ⟨b, 0, none⟩ (.pointer (some ⟨b, 0, none⟩)))
    (hU : ∀ (b : Nat) (w : World), w.cell? ⟨b, 0, none⟩ = some (.pointer (some ⟨b, 0, none⟩)) → Calls P fc #[.pointer (some ⟨b, 0, none⟩)] w fun e w' => e = .returned (.tuple #[]) ∧ w' = w) :
    CallSound P B w0 (orcB fi fj fc T) := by
  intro f xs h v h' hf; unfold orcB at hf
  cases hb : Nat.beq f fc with
  | false =>
    rw [hb] at hf
    exact hS f xs h v h' hf
  | true =>
    have := nbeq hb; subst this; rw [hb] at hf; simp only [cond_true] at hf; split at hf
    · rename_i b; split at hf
      · rename_i e p u hg; obtain ⟨he, hf2⟩ := bif_some hf; obtain rfl := nbeq he; refine ⟨hc, fun ρ S w args' hr ha nn => ?_⟩; obtain ⟨hsb, cur, k1, k2, k3, k4, k5, k6, k7⟩ := hr.objs b _ hg; have hcl : cur.length = 2 := (k6 rfl).symm
        match cur, hcl with
        | [p', u'], _ =>
        have hp : VR ρ S p p' := k7 0 (by simp); have hu : VR ρ S u u' := k7 1 (by simp)
        have hat : (ρ b).at 0 = ⟨(ρ b).block, 0, none⟩ := by unfold Loc.at; rw [k2]
        have harg : args' = [.pointer (some ⟨(ρ b).block, 0, none⟩)] := by
          have h1 := ha.1
          match args', h1 with
          | [a], _ =>
            have h2 : VR ρ S (.pointer (some ⟨b, 0, none⟩)) a := ha.2 0 (by simp); rw [h2.ptr_inv.2, hat]
        subst harg
        have hcell : w.cell? ⟨(ρ b).block, 0, none⟩ = some p' := by simp [World.cell?, k1]
        split at hf2
        · simp only [Option.some.injEq, Prod.mk.injEq] at hf2; obtain ⟨rfl, rfl⟩ := hf2; obtain rfl := hp.eq_of_af0 rfl; have hC : CallsIn Fence.wide nn P f #[.pointer (some ⟨(ρ b).block, 0, none⟩)] w _ := callsIn_wide.2 (hF (ρ b).block w hcell (by simp [World.shape?, k1]) (frozen_soft k1 (by rw [k3]; exact Nat.zero_lt_succ _))); refine hC.mono fun e2 w' hret => ?_; obtain ⟨rfl, rfl⟩ := hret; refine ⟨ρ, Moved.set hr hg rfl rfl rfl rfl rfl (by simp [World.setCell]) (fun k hk => ?_) ?_, VR.tuple' LR.nil⟩
          · simp only [World.setCell, Array.getElem?_modify]; rw [if_neg (fun e0 => hk e0.symm)]
          refine ⟨[.pointer (some ⟨(ρ b).block, 0, none⟩), u'], ?_, k2, k3, k4, Nat.le_refl _, fun _ => rfl, fun i hi => ?_⟩
          · simp only [World.setCell, Array.getElem?_modify, if_pos rfl, k1]; simp
          match i, hi with
          | 0, _ => show VR ρ S (.pointer (some ⟨b, 0, none⟩)) (.pointer (some ⟨(ρ b).block, 0, none⟩)); rw [← hat]; exact .ptr b 0 hsb
          | 1, _ => exact hu
        · rename_i b'; obtain ⟨hbb, hf3⟩ := bif_some hf2; obtain rfl := nbeq hbb; simp only [Option.some.injEq, Prod.mk.injEq] at hf3; obtain ⟨rfl, rfl⟩ := hf3; have hp2 := hp.ptr_inv.2; rw [hat] at hp2; subst hp2; have hC : CallsIn Fence.wide nn P f #[.pointer (some ⟨(ρ b').block, 0, none⟩)] w _ := callsIn_wide.2 (hU (ρ b').block w hcell); refine hC.mono fun e2 w' hret => ?_; obtain ⟨rfl, rfl⟩ := hret; exact ⟨ρ, Moved.same hr, VR.tuple' LR.nil⟩
        cases hf2
      cases hf
    cases hf
end Go.Fs
namespace Go.Fs
open Go.RowKit (Below)
variable {P : Program} {ops : Array Oper} {n : Nat}
def sameV : Value → Value → Bool
  | .int k a, .int k' b => decide (k = k') && decide (a = b)
  | .bool a, .bool b => decide (a = b)
  | _, _ => false
theorem sameV_eq {a b : Value} (h : sameV a b = true) : a = b := by
  unfold sameV at h; split at h
  · obtain ⟨h1, h2⟩ := band h; rw [of_decide_eq_true h1, of_decide_eq_true h2]
  · rw [of_decide_eq_true h]
  cases h
def sameL : List Value → List Value → Bool
  | [], [] => true
  | a :: r, b :: q => sameV a b && sameL r q
  | _, _ => false
theorem sameL_eq : ∀ {a b : List Value}, sameL a b = true → a = b
  | [], [], _ => rfl
  | [], _ :: _, h => by cases h
  | _ :: _, [], h => by cases h
  | a :: r, b :: q, h => by
    obtain ⟨h1, h2⟩ := band (h : (sameV a b && sameL r q) = true); rw [sameV_eq h1, sameL_eq h2]
def sameO : AObj → AObj → Bool
  | .row e cs o m, .row e' cs' o' m' => Nat.beq e e' && sameL cs cs' && decide (o = o') && decide (m = m')
  | _, _ => false
theorem sameO_eq {a b : AObj} (h : sameO a b = true) : a = b := by
  unfold sameO at h; split at h
  · obtain ⟨h, h1⟩ := band h; obtain ⟨h, h2⟩ := band h; obtain ⟨h, h3⟩ := band h; rw [nbeq h, sameL_eq h3, of_decide_eq_true h2, of_decide_eq_true h1]
  cases h
def okRd (rd : List (Nat × AObj)) (h : Heap) : Bool := rd.all fun p => match h.get p.1 with
  | some ob => sameO ob p.2
  | none => false
theorem stLook_mem {b : Nat} {ob : AObj} : ∀ {l : List (Nat × AObj)}, look l b = some ob → (b, ob) ∈ l
  | [], h => by cases h
  | (c, oc) :: r, h => by
    simp only [look] at h
    cases hc : Nat.beq c b with
    | true =>
      rw [hc] at h; simp only [cond_true, Option.some.injEq] at h
      rw [nbeq hc, h]; exact List.mem_cons_self
    | false =>
      rw [hc] at h; simp only [cond_false] at h; exact List.mem_cons_of_mem _ (stLook_mem h)
theorem okRd_get {rd : List (Nat × AObj)} {h : Heap} (hk : okRd rd h = true) {b : Nat} {ob : AObj} (hl : look rd b = some ob) : h.get b = some ob := by
  have := List.all_eq_true.1 hk _ (stLook_mem hl); simp only at this; split at this
  · rename_i o2 hg; rw [hg, sameO_eq this]
  cases this
def stillR (P : Program) (rd : List (Nat × AObj)) (ops : Array Oper) (n : Nat) (o : Oper) (s : DSt) : Option DSt :=
  match fsWanted ops s.t o, o.op with
  | some true, .load T a =>
    match evalO s.t a with
    | .pointer (some p) =>
      match look rd p.block with
      | some ob =>
        match fsLoad P T (evalO s.t a) { next := s.h.next, low := s.h.next, objs := [(p.block, ob)] } with
        | some v => (put n s.t o.dst v).map fun t => { s with t, bs := s.bs ++ [beforeOf s.bs o] }
        | none => none
      | none => none
    | _ => none
  | _, _ => none
def fsDrawnY (P : Program) (rd : List (Nat × AObj)) (step : Oper → (Operand → Value) → Heap → Option (Value × Heap)) (ops : Array Oper) (n : Nat) : List Oper → Nat → DSt → Option DSt
  | [], _, s => bif okRd rd s.h then some s else none
  | o :: r, i, s => bif okRd rd s.h then
      match fsDraw step ops n o i s with
      | some s' => fsDrawnY P rd step ops n r (i + 1) s'
      | none => match stillR P rd ops n o s with
        | some s' => fsDrawnY P rd step ops n r (i + 1) s'
        | none => none
    else none
def fsReads (P : Program) (h0 : Heap) (step : Oper → (Operand → Value) → Heap → Option (Value × Heap)) (ops : Array Oper) (n : Nat) : List Oper → Nat → DSt → List (Nat × AObj) → List (Nat × AObj)
  | [], _, _, l => l
  | o :: r, i, s, l => match fsDraw step ops n o i s with
    | some s' => fsReads P h0 step ops n r (i + 1) s' l
    | none => match stillO P h0 ops n o s with
      | some (s', b) => match h0.get (b - 1) with
        | some ob => fsReads P h0 step ops n r (i + 1) s' ((b - 1, ob) :: l)
        | none => l
      | none => l
def drawnY (P : Program) (h0 : Heap) (step : Oper → (Operand → Value) → Heap → Option (Value × Heap)) (ops : Array Oper) (n : Nat) (s : DSt) (rd : List (Nat × AObj)) : Option DSt :=
  bif rd.all fun p => Nat.blt p.1 h0.next then fsDrawnY P rd step ops n ops.toList 0 s else none
theorem stillR_of {call : FuncId → List Value → Heap → Option (Value × Heap)} {yield : Nat → List Value → Heap → Option (Value × Heap)} {X : Nat → AObj → Prop} {rd : List (Nat × AObj)} {o : Oper} {i : Nat} {s s' : DSt}
    (hf : stillR P rd ops n o s = some s') (hX : ∀ c ob, look rd c = some ob → X c ob) :
    s'.bs = s.bs ++ [beforeOf s.bs o] ∧ Did (fsOp P call yield) ops n X o i s s' := by
  unfold stillR at hf; split at hf
  · rename_i T a hw hop; split at hf
    · rename_i p hev; split at hf
      · rename_i ob hg; split at hf
        · rename_i v hv; obtain ⟨t, h3, h4⟩ := Option.map_eq_some_iff.1 hf; subst h4; refine ⟨rfl, .still hw v [(p.block, ob)] (fun c oc hc => ?_) ?_ h3 rfl rfl rfl rfl⟩
          · simp only [look] at hc
            cases hbc : Nat.beq p.block c with
            | true =>
              rw [hbc] at hc; simp only [cond_true, Option.some.injEq] at hc; obtain rfl := nbeq hbc; subst hc
              exact hX _ _ hg
            | false => rw [hbc] at hc; cases hc
          unfold fsOp; rw [hop]; simp only [hv, Option.map_some]
        cases hf
      cases hf
    cases hf
  cases hf
theorem drawnY_trace {call : FuncId → List Value → Heap → Option (Value × Heap)} {yield : Nat → List Value → Heap → Option (Value × Heap)} {rd : List (Nat × AObj)} : ∀ (l : List Oper) (i : Nat) (s s' : DSt), fsDrawnY P rd (fsOp P call yield) ops n l i s = some s' →
    ∃ st : Nat → DSt, st i = s ∧ st (i + l.length) = s' ∧ (∀ q, i ≤ q → q ≤ i + l.length → okRd rd (st q).h = true) ∧
    ∀ j o, l[j]? = some o → ∀ X : Nat → AObj → Prop, (∀ c ob, look rd c = some ob → X c ob) → (st (i + j + 1)).bs = (st (i + j)).bs ++ [beforeOf (st (i + j)).bs o] ∧ Did (fsOp P call yield) ops n X o (i + j) (st (i + j)) (st (i + j + 1))
  | [], i, s, s', h => by
    simp only [fsDrawnY] at h; obtain ⟨h1, h2⟩ := bif_some h; simp only [Option.some.injEq] at h2; subst h2
    exact ⟨fun _ => s, rfl, rfl, fun _ _ _ => h1, fun j o hj => by simp at hj⟩
  | o :: l, i, s, s', h => by
    simp only [fsDrawnY] at h; obtain ⟨hok, h⟩ := bif_some h
    have key : ∀ s1, fsDrawnY P rd (fsOp P call yield) ops n l (i + 1) s1 = some s' →
        (∀ X : Nat → AObj → Prop, (∀ c ob, look rd c = some ob → X c ob) → s1.bs = s.bs ++ [beforeOf s.bs o] ∧ Did (fsOp P call yield) ops n X o i s s1) →
      ∃ st : Nat → DSt, st i = s ∧ st (i + (o :: l).length) = s' ∧ (∀ q, i ≤ q → q ≤ i + (o :: l).length → okRd rd (st q).h = true) ∧
        ∀ j o', (o :: l)[j]? = some o' → ∀ X : Nat → AObj → Prop, (∀ c ob, look rd c = some ob → X c ob) → (st (i + j + 1)).bs = (st (i + j)).bs ++ [beforeOf (st (i + j)).bs o'] ∧ Did (fsOp P call yield) ops n X o' (i + j) (st (i + j)) (st (i + j + 1)) := fun s1 hr hd => by
      obtain ⟨st, h1, h2, hq, h3⟩ := drawnY_trace l (i + 1) s1 s' hr; refine ⟨fun k => if k = i then s else st k, by simp, ?_, fun q hq1 hq2 => ?_, fun j o' hj X hX => ?_⟩
      · simp only [List.length_cons]; rw [if_neg (by omega), ← h2]; congr 1; omega
      · rw [List.length_cons] at hq2; by_cases e : q = i
        · subst e; simpa using hok
        simp only [if_neg e]; exact hq q (by omega) (by omega)
      cases j with
      | zero =>
        simp at hj; subst hj
        simpa [h1] using hd X hX
      | succ j =>
        simp only [List.getElem?_cons_succ] at hj; have := h3 j o' hj X hX; rw [show i + 1 + j = i + (j + 1) by omega] at this; simp only; rw [if_neg (by omega), if_neg (by omega)]; exact this
    split at h
    · rename_i s1 hs1; exact key s1 h fun X _ => did_of hs1
    split at h
    · rename_i s1 hs1; exact key s1 h fun X hX => stillR_of hs1 hX
    cases h
theorem traceY_of {call : FuncId → List Value → Heap → Option (Value × Heap)} {yield : Nat → List Value → Heap → Option (Value × Heap)} {t0 : Tr} {h0 : Heap} {s : DSt} {rd : List (Nat × AObj)} (h : drawnY P h0 (fsOp P call yield) ops n ⟨t0, h0, [], [], 0, false⟩ rd = some s) : ∃ st, Trace (fsOp P call yield) ops n st t0 h0 ∧ st ops.size = s := by
  unfold drawnY at h; obtain ⟨hb, h⟩ := bif_some h; obtain ⟨st, h1, h2, hq, h3⟩ := drawnY_trace _ _ _ _ h
  have h2' : st ops.size = s := by simpa using h2
  refine ⟨st, ⟨h1, fun i o ho => ?_⟩, h2'⟩; have := h3 i o (by simpa using ho) (fun b ob => h0.get b = some ob ∧ b < h0.next ∧ (b < (st ops.size).h.low ∨ ∀ q, q ≤ ops.size → (st q).h.get b = some ob)) (fun c ob hc => ?_)
  · simpa only [Nat.zero_add] using this
  have hall : ∀ q, q ≤ ops.size → (st q).h.get c = some ob := fun q hq2 => okRd_get (hq q (Nat.zero_le _) (by simpa using hq2)) hc; have h0 := hall 0 (Nat.zero_le _); rw [h1] at h0; exact ⟨h0, nblt (List.all_eq_true.1 hb _ (stLook_mem hc)), .inr hall⟩
variable {B : Nat} {w0 : World} {S : Nat → Prop} {ρ0 : Ren} {call : FuncId → List Value → Heap → Option (Value × Heap)} {yield : Nat → List Value → Heap → Option (Value × Heap)} {t0 : Tr} {h0 : Heap}
theorem drawn_wpY (hcs : CallSnd P B w0 call) (hys : YieldSound P B w0 yield) (hok : regionOk ops = true) {s : DSt} {rd : List (Nat × AObj)} (hf : drawnY P h0 (fsOp P call yield) ops n ⟨t0, h0, [], [], 0, false⟩ rd = some s)
    {w : World} {a : Act} (hr : HR P ρ0 S B w0 h0 w) (ht : TrR ρ0 S t0 n a.tmps) {r : Option Nat} {nn : Nat} {Q : Exit → Act → World → Prop}
    (k : ∀ ρ' w' a', Moved P B w0 ρ0 ρ' S h0 s.h w w' → TrR ρ' (Ext S h0 s.h) s.t n a'.tmps → a'.defers = a.defers → Q .normal a' w') (t : Nat) :
    wpOpsIn (Wide r) nn P ops Q (Region.schedule true ops t) a w := drawn_wpT hcs hys hok (traceY_of hf) hr ht k t
end Go.Fs
namespace Go.Fs
open Go.RowKit (Below)
variable {P : Program} {B : Nat} {w0 : World}
def fsStepX (P : Program) (orc : FuncId → List Value → Heap → Option (Value × Heap)) (rec : Rec) : Rec := fun rnd c fr h =>
  match c with
  | .region _ ops true => match drawnX P { next := h.next, low := h.next, objs := h.objs } (fsOp P (callOf P orc rec) (fsYield rec)) ops fr.n ⟨fr.t, { next := h.next, low := h.next, objs := h.objs }, [], [], 0, false⟩ with
    | some s => some (.normal, { t := s.t, n := fr.n, marks := fr.marks }, { next := s.h.next, low := min h.low s.h.low, objs := s.h.objs })
    | none => match drawnY P { next := h.next, low := h.next, objs := h.objs } (fsOp P (callOf P orc rec) (fsYield rec)) ops fr.n ⟨fr.t, { next := h.next, low := h.next, objs := h.objs }, [], [], 0, false⟩ (fsReads P { next := h.next, low := h.next, objs := h.objs } (fsOp P (callOf P orc rec) (fsYield rec)) ops fr.n ops.toList 0 ⟨fr.t, { next := h.next, low := h.next, objs := h.objs }, [], [], 0, false⟩ []) with
      | some s => some (.normal, { t := s.t, n := fr.n, marks := fr.marks }, { next := s.h.next, low := min h.low s.h.low, objs := s.h.objs })
      | none => fsStep P orc rec rnd c fr h
  | c => fsStep P orc rec rnd c fr h
def fsCodeX (P : Program) (orc : FuncId → List Value → Heap → Option (Value × Heap)) : Nat → Rec
  | 0 => fun _ _ _ _ => none
  | n + 1 => fsStepX P orc (fsCodeX P orc n)
theorem HR.low {ρ : Ren} {S : Nat → Prop} {h : Heap} {w : World} (hr : HR P ρ S B w0 h w) (l : Nat) : HR P ρ S B w0 { next := h.next, low := l, objs := h.objs } w :=
  { objs := hr.objs, inj := hr.inj, base := hr.base, ro := hr.ro, ids := hr.ids, pos := hr.pos, below := hr.below, drawn := hr.drawn, size := hr.size }
theorem Moved.lowered {ρ ρ' : Ren} {S : Nat → Prop} {h h' : Heap} {w w' : World} {l : Nat} (m : Moved P B w0 ρ ρ' S { next := h.next, low := l, objs := h.objs } h' w w') :
    Moved P B w0 ρ ρ' S h { next := h'.next, low := min h.low h'.low, objs := h'.objs } w w' where
  agree := m.agree
  next := m.next
  hr := m.hr.low _
  frame := ⟨m.frame.os, m.frame.tape, m.frame.output, m.frame.size, m.frame.block⟩
  low := Nat.min_le_left _ _
  keep := fun i hi hl => m.keep i hi (Nat.lt_of_lt_of_le hl (Nat.min_le_right _ _))
  old := m.old
  fresh := fun i o ho hi => by
    obtain ⟨h1, h2⟩ := m.fresh i o ho hi; refine ⟨h1, ?_⟩; rcases h2 with h2 | ⟨j, oj, h3, h4, h5, h6, h7⟩
    · exact .inl h2
    exact .inr ⟨j, oj, h3, h4, h5, Nat.le_trans (Nat.min_le_right _ _) h6, h7⟩
theorem stepX_sound (hP : ProgOk P) {orc : FuncId → List Value → Heap → Option (Value × Heap)} (horc : CallSound P B w0 orc) {m : Nat} {rec : Rec} (hrec : SoundR P B w0 m rec) : SoundR P B w0 (m + 1) (fsStepX P orc rec) := by
  have hcs : CallSnd P B w0 (callOf P orc rec) := call_sound hP horc hrec; have hys : YieldSound P B w0 (fsYield rec) := yield_sound hrec; have hold := step_sound hP horc hrec; intro rnd c fr h e fr' h' hok hf
  cases c with
  | region id ops draw =>
    cases draw with
    | false => exact hold rnd _ fr h e fr' h' hok hf
    | true =>
      intro ρ S w a nn Q hr ht hm hs k; simp only [fsStepX] at hf; split at hf
      · rename_i s hrun; simp only [Option.some.injEq, Prod.mk.injEq] at hf; obtain ⟨rfl, rfl, rfl⟩ := hf; refine wpIn_region_draw fun t => ?_; rw [hP.mixed]; exact drawn_wpX (h0 := { next := h.next, low := h.next, objs := h.objs }) (call := callOf P orc rec) (yield := fsYield rec) hcs hys hok hrun ((hr.drew _).low _) ht (fun ρ1 w1 a1 m1 ht1 hd1 => k _ _ _ ⟨(Moved.ofDrew m1).lowered, ht1, by rw [hd1]; exact hm.mono fun b hb => ⟨.inl hb, m1.agree b hb⟩⟩) t
      split at hf
      · rename_i s hrun; simp only [Option.some.injEq, Prod.mk.injEq] at hf; obtain ⟨rfl, rfl, rfl⟩ := hf; refine wpIn_region_draw fun t => ?_; rw [hP.mixed]; exact drawn_wpY (h0 := { next := h.next, low := h.next, objs := h.objs }) (call := callOf P orc rec) (yield := fsYield rec) hcs hys hok hrun ((hr.drew _).low _) ht (fun ρ1 w1 a1 m1 ht1 hd1 => k _ _ _ ⟨(Moved.ofDrew m1).lowered, ht1, by rw [hd1]; exact hm.mono fun b hb => ⟨.inl hb, m1.agree b hb⟩⟩) t
      exact hold rnd _ fr h e fr' h' hok hf ρ S w a nn Q hr ht hm hs k
  | _ => exact hold rnd _ fr h e fr' h' hok hf
theorem codeX_sound (hP : ProgOk P) {orc : FuncId → List Value → Heap → Option (Value × Heap)} (horc : CallSound P B w0 orc) : ∀ m, SoundR P B w0 m (fsCodeX P orc m)
  | 0 => fun rnd c fr h e fr' h' _ hf => by cases hf
  | m + 1 => stepX_sound hP horc (codeX_sound hP horc m)
end Go.Fs
namespace Go.Fs
variable {P : Program} {orc : FuncId → List Value → Heap → Option (Value × Heap)}
def runPre (P : Program) (orc : FuncId → List Value → Heap → Option (Value × Heap)) : Nat → Nat → Code → Fr → Heap → Option (Nat × Code × Fr × Heap)
  | 0, n, c, fr, h => some (n, c, fr, h)
  | k + 1, n, c, fr, h => match n, c with
    | n + 1, .seq a b => match fsCodeX P orc n none a fr h with
      | some (.normal, fr1, h1) => runPre P orc k n b fr1 h1
      | _ => none
    | _, _ => none
def endV (P : Program) (fn : Func) (h : Heap) (x : Ex × Fr × Heap) : Option Value :=
  bif x.1.goes then
    match dropMarks x.2.1.marks x.2.2 with
    | some h2 => (fsResults P x.2.1.t h2 fn.results.toList).map tupled
    | none => none
  else none
theorem enter_map {rec : Rec} {f : FuncId} {args : List Value} {h : Heap} {fn : Func} {c : Code} (hf : P.funcs[f]? = some fn) (hc : fn.body = some c) (hn : (Nat.blt 4000 fn.ntmps || Nat.blt fn.ntmps args.length) = false) :
    (fsEnter P rec f args h).map (·.1) = (rec none c ⟨fillTr .leaf 0 args, fn.ntmps, []⟩ { next := h.next, low := h.next, objs := h.objs }).bind (endV P fn h) := by
  unfold fsEnter fsEnterK endV; simp only [hf, hc, hn, cond_false]
  cases rec none c ⟨fillTr .leaf 0 args, fn.ntmps, []⟩ { next := h.next, low := h.next, objs := h.objs } with
  | none => rfl
  | some x =>
    obtain ⟨e, fr, h1⟩ := x; simp only [Option.bind_some]
    cases e.goes with
    | false => rfl
    | true =>
      simp only [cond_true]
      cases dropMarks fr.marks h1 with
      | none => rfl
      | some h2 =>
        simp only
        cases fsResults P fr.t h2 fn.results.toList with
        | none => rfl
        | some vs =>
          simp only [Option.map_some]; generalize (!false && (af (tupled vs) && Nat.ble h.next h2.low)) = q; cases q <;> rfl
def sufx : Nat → Code → Code
  | 0, c => c
  | k + 1, .seq _ b => sufx k b
  | _ + 1, c => c
end Go.Fs
namespace Go.Fs
open Go.RowKit (Below)
variable {P : Program}
def gv : Value → Bool
  | .func (.func _) ⟨[]⟩ ⟨[]⟩ => true
  | v => af0 v
theorem VR.of_gv {ρ : Ren} {S : Nat → Prop} {v : Value} (h : gv v = true) : VR ρ S v v := by
  unfold gv at h; split at h
  · exact .func _ _ _ _ _ rfl (fun i h => absurd h (by simp)) rfl (fun i h => absurd h (by simp))
  exact .lit h
def gHeap (n : Nat) (L : List (Nat × TypeId × List Value)) : Heap := ⟨n, n, L.map fun x => (x.1 + 1, .row x.2.1 x.2.2 false true)⟩
def globR (P : Program) : Ren := fun b => Loc.clean (b - 1) 0 0 (P.cellsOf (((P.globals[b - 1]?).map (·.type)).getD 0))
structure GlobW (P : Program) (B : Nat) (w : World) (x : Nat × TypeId × List Value) : Prop where
  type : (P.globals[x.1]?).map (·.type) = some x.2.1
  only : ∀ (g : Nat) gl, P.globals[g]? = some gl → gl.type = x.2.1 → g = x.1
  block : x.1 < B
  cells : ∀ i, i < x.2.2.length → w.cell? ⟨x.1, i, none⟩ = some (x.2.2.getD i undef)
  vals : x.2.2.all gv = true
theorem GlobW.below {B : Nat} {w w' : World} {x : Nat × TypeId × List Value} (h : GlobW P B w x) (hb : Below B w w') : GlobW P B w' x :=
  ⟨h.type, h.only, h.block, fun i hi => (World.cell?_of_block (a := ⟨x.1, i, none⟩) (hb.block _ h.block)).trans (h.cells i hi), h.vals⟩
theorem gHeap_get {n : Nat} : ∀ {L : List (Nat × TypeId × List Value)} {i : Nat} {o : AObj}, (gHeap n L).get i = some o → ∃ x ∈ L, i = x.1 + 1 ∧ o = .row x.2.1 x.2.2 false true
  | [], i, o, h => by cases h
  | x :: L, i, o, h => by
    simp only [gHeap, Heap.get, List.map_cons, look] at h
    cases hb : Nat.beq (x.1 + 1) i with
    | true =>
      rw [hb] at h
      exact ⟨x, List.mem_cons_self, (nbeq hb).symm, (Option.some.inj h).symm⟩
    | false =>
      rw [hb] at h; obtain ⟨y, hy, h1, h2⟩ := gHeap_get (n := n) (L := L) (i := i) (o := o) h; exact ⟨y, List.mem_cons_of_mem _ hy, h1, h2⟩
theorem gHeap_hr {w : World} {n : Nat} {L : List (Nat × TypeId × List Value)} (hn : ∀ x ∈ L, x.1 + 1 < n) (hp : 0 < n) (hL : ∀ x ∈ L, GlobW P w.heap.size w x) :
    HR P (globR P) (fun b => ∃ x ∈ L, b = x.1 + 1) w.heap.size (wz w) (gHeap n L) w where
  objs := fun i o hi => by
    obtain ⟨x, hx, rfl, rfl⟩ := gHeap_get hi; have h := hL x hx; refine ⟨⟨x, hx, rfl⟩, ?_, fun j hj => ?_, fun _ g gl h1 h2 => ?_⟩
    · show P.cellsOf (((P.globals[x.1 + 1 - 1]?).map (·.type)).getD 0) = _; rw [Nat.add_sub_cancel, h.type]; rfl
    · refine ⟨x.2.2.getD j undef, ?_, .of_gv (List.all_eq_true.1 h.vals _ (mem_getD hj))⟩; show w.cell? ⟨x.1 + 1 - 1, 0 + j, none⟩ = _; rw [Nat.add_sub_cancel, Nat.zero_add]; exact h.cells j hj
    exact ⟨(h.only g gl h1 h2).symm, rfl⟩
  inj := fun i j oi oj hi _ ho => by
    obtain ⟨x, hx, rfl, rfl⟩ := gHeap_get hi; cases ho
  base := fun i o hi ho => by
    obtain ⟨x, hx, rfl, rfl⟩ := gHeap_get hi; cases ho
  ro := fun i o hi _ => by
    obtain ⟨x, hx, rfl, rfl⟩ := gHeap_get hi; exact (hL x hx).block
  ids := fun b ⟨x, hx, hb⟩ => by
    subst hb; exact ⟨hn x hx, Nat.succ_ne_zero _⟩
  pos := hp
  below := z_below (Below.refl _ _)
  drawn := Nat.zero_le _
  size := Nat.le_refl _
end Go.Fs
namespace Go.Fs
open Go.RowKit (Below)
variable {P : Program} {ρ ρ' : Ren} {S S' : Nat → Prop} {B : Nat} {w0 w w' w1 w2 : World} {h h' h1 h2 : Heap}
def gcL (n0 : Nat) (keep : List Nat) : List (Nat × AObj) → List (Nat × AObj)
  | [] => []
  | x :: r => bif Nat.blt x.1 n0 || keep.any (Nat.beq x.1) then x :: gcL n0 keep r else gcL n0 keep r
def gcH (n0 : Nat) (keep : List Nat) (h : Heap) : Heap := ⟨h.next, h.low, gcL n0 keep h.objs⟩
theorem gc_some {n0 : Nat} {keep : List Nat} {i : Nat} {o : AObj} : ∀ {L : List (Nat × AObj)}, look (gcL n0 keep L) i = some o → look L i = some o
  | [], h => h
  | x :: L, h => by
    unfold gcL at h
    cases hk : (Nat.blt x.1 n0 || keep.any (Nat.beq x.1)) with
    | true =>
      rw [hk] at h; simp only [cond_true, look] at h ⊢
      cases hb : Nat.beq x.1 i with
      | true => rw [hb] at h; exact h
      | false => rw [hb] at h; exact gc_some h
    | false =>
      rw [hk] at h; simp only [cond_false] at h; simp only [look]
      cases hb : Nat.beq x.1 i with
      | false => exact gc_some h
      | true =>
        exfalso; have e := nbeq hb
        have hno : ∀ {L : List (Nat × AObj)}, look (gcL n0 keep L) i = none := by
          intro L
          induction L with
          | nil => rfl
          | cons y L ih =>
            unfold gcL
            cases hk2 : (Nat.blt y.1 n0 || keep.any (Nat.beq y.1)) with
            | false => exact ih
            | true =>
              simp only [cond_true, look]
              cases hb2 : Nat.beq y.1 i with
              | false => exact ih
              | true => rw [nbeq hb2, ← e, hk] at hk2; cases hk2
        rw [hno] at h; cases h
theorem gc_low {n0 : Nat} {keep : List Nat} {i : Nat} (hi : i < n0) : ∀ {L : List (Nat × AObj)}, look (gcL n0 keep L) i = look L i
  | [] => rfl
  | x :: L => by
    unfold gcL
    cases hb : Nat.beq x.1 i with
    | true =>
      have hx : Nat.blt x.1 n0 = true := by rw [nbeq hb]; show Nat.ble (i + 1) n0 = true; rw [Nat.ble_eq]; omega
      simp only [hx, Bool.true_or, cond_true, look, hb]
    | false =>
      cases hk : (Nat.blt x.1 n0 || keep.any (Nat.beq x.1)) with
      | true => simp only [cond_true, look, hb, cond_false]; exact gc_low hi
      | false => simp only [cond_false, look, hb]; exact gc_low hi
theorem HR.gc {n0 : Nat} {keep : List Nat} (hr : HR P ρ S B w0 h w) : HR P ρ S B w0 (gcH n0 keep h) w :=
  { objs := fun i o hi => hr.objs i o (gc_some hi), inj := fun i j oi oj hi hj => hr.inj i j oi oj (gc_some hi) (gc_some hj), base := fun i o hi => hr.base i o (gc_some hi), ro := fun i o hi => hr.ro i o (gc_some hi), ids := hr.ids, pos := hr.pos,
    below := hr.below, drawn := hr.drawn, size := hr.size }
theorem Moved.gc {n0 : Nat} {keep : List Nat} (hn : h.next ≤ n0) (m : Moved P B w0 ρ ρ' S h h1 w w1) : Moved P B w0 ρ ρ' S h (gcH n0 keep h1) w w1 where
  agree := m.agree
  next := m.next
  hr := m.hr.gc
  frame := m.frame
  low := m.low
  keep := fun i hi hl => (gc_low (by omega)).trans (m.keep i hi hl)
  old := fun i o hi hl => m.old i o (gc_some hi) hl
  fresh := fun i o hi hl => m.fresh i o (gc_some hi) hl
def runG (P : Program) (orc : FuncId → List Value → Heap → Option (Value × Heap)) (n0 : Nat) : List (Nat × List Nat) → Nat → Code → Fr → Heap → Option (Ex × Fr × Heap)
  | [], n, c, fr, h => fsCodeX P orc n none c fr h
  | (k, keep) :: ks, n, c, fr, h => match runPre P orc k n c fr h with
    | some (n1, c1, fr1, h1) => runG P orc n0 ks n1 c1 fr1 (gcH n0 keep h1)
    | none => none
theorem pre_sound (hP : ProgOk P) {orc : FuncId → List Value → Heap → Option (Value × Heap)} (horc : CallSound P B w0 orc) : ∀ {k n : Nat} {c : Code} {fr : Fr} {h : Heap} {n1 : Nat} {c1 : Code} {fr1 : Fr} {h1 : Heap}, codeOk c = true → runPre P orc k n c fr h = some (n1, c1, fr1, h1) →
    codeOk c1 = true ∧ ∀ {ρ : Ren} {S : Nat → Prop} {w : World} {a : Act} {nn : Nat} {Q : Exit → Act → World → Prop}, HR P ρ S B w0 h w → TrR ρ S fr.t fr.n a.tmps → MarksR ρ S fr.marks a.defers →
      (∀ ρ' w' a', Post P B w0 ρ ρ' S h w fr1 h1 w' a' → c1.wpIn (Wide none) nn P Q a' w') → c.wpIn (Wide none) nn P Q a w
  | 0, n, c, fr, h, n1, c1, fr1, h1, hok, hr => by
    simp only [runPre, Option.some.injEq, Prod.mk.injEq] at hr; obtain ⟨rfl, rfl, rfl, rfl⟩ := hr
    exact ⟨hok, fun hR ht hm k => k _ _ _ ⟨Moved.same hR, ht.mono fun b hb => ⟨.inl hb, rfl⟩, hm.mono fun b hb => ⟨.inl hb, rfl⟩⟩⟩
  | k + 1, n, c, fr, h, n1, c1, fr1, h1, hok, hr => by
    simp only [runPre] at hr; split at hr
    · rename_i n x y; split at hr
      · rename_i fr2 h2 hx; obtain ⟨ok1, ok2⟩ := band (show (codeOk x && codeOk y) = true from hok); obtain ⟨g1, g2⟩ := pre_sound hP horc ok2 hr; refine ⟨g1, fun {ρ S w a nn Q} hR ht hm kk => wpIn_seq ?_⟩; refine (codeX_sound hP horc n none x fr h _ fr2 h2 ok1 hx ρ S w a nn _ hR ht hm (fun l hl => by cases hl) fun ρ1 w1 a1 p1 => ?_).wpIn; show y.wpIn (Wide none) nn P Q a1 w1; exact g2 p1.moved.hr p1.tmps p1.marks fun ρ2 w2 a2 p2 => kk _ _ _ (Post.trans (fr1 := fr2) (a1 := a1) p1.moved p2)
      cases hr
    cases hr
theorem runG_sound (hP : ProgOk P) {orc : FuncId → List Value → Heap → Option (Value × Heap)} (horc : CallSound P B w0 orc) {n0 : Nat} : ∀ {ks : List (Nat × List Nat)} {n : Nat} {c : Code} {fr : Fr} {h : Heap} {e : Ex} {fr' : Fr} {h' : Heap}, codeOk c = true → runG P orc n0 ks n c fr h = some (e, fr', h') →
    ∀ {g : Heap} {ρ0 ρ : Ren} {S : Nat → Prop} {w w' : World} {a : Act} {nn : Nat} {Q : Exit → Act → World → Prop}, g.next ≤ n0 → Moved P B w0 ρ0 ρ S g h w w' → TrR ρ (Ext S g h) fr.t fr.n a.tmps → MarksR ρ (Ext S g h) fr.marks a.defers →
      (∀ ρ' w2 a', Post P B w0 ρ0 ρ' S g w fr' h' w2 a' → Q (exOf e) a' w2) → c.wpIn (Wide none) nn P Q a w'
  | [], n, c, fr, h, e, fr', h', hok, hr, g, ρ0, ρ, S, w, w', a, nn, Q, hg, m, ht, hm, k =>
    (codeX_sound hP horc n none c fr h e fr' h' hok hr ρ _ w' a nn Q m.hr ht hm (fun l hl => by cases hl) fun ρ1 w1 a1 p1 => k _ _ _ (Post.trans (fr1 := fr) (a1 := a) m p1)).wpIn
  | (j, keep) :: ks, n, c, fr, h, e, fr', h', hok, hr, g, ρ0, ρ, S, w, w', a, nn, Q, hg, m, ht, hm, k => by
    simp only [runG] at hr; split at hr
    · rename_i n1 c1 fr1 h1 hx; obtain ⟨g1, g2⟩ := pre_sound hP horc hok hx; refine g2 m.hr ht hm fun ρ1 w1 a1 p1 => ?_; have q := Post.trans (fr1 := fr) (a1 := a) m p1; exact runG_sound hP horc g1 hr hg (q.moved.gc hg) q.tmps q.marks k
    cases hr
def fsG (P : Program) (orc : FuncId → List Value → Heap → Option (Value × Heap)) (n0 n : Nat) (ks : List (Nat × List Nat)) : Rec := fun rnd c fr h =>
  match rnd, c with
  | none, .seq x y => bif Nat.ble h.next n0 then runG P orc n0 ks n (.seq x y) fr h else none
  | _, _ => none
def isSeq : Code → Bool
  | .seq _ _ => true
  | _ => false
theorem fsG_eq {orc : FuncId → List Value → Heap → Option (Value × Heap)} {n0 n : Nat} {ks : List (Nat × List Nat)} {c : Code} {fr : Fr} {h : Heap} (hc : isSeq c = true) (hn : Nat.ble h.next n0 = true) : fsG P orc n0 n ks none c fr h = runG P orc n0 ks n c fr h := by
  cases c with
  | seq x y =>
    show (bif Nat.ble h.next n0 then _ else _) = _
    rw [hn]; rfl
  | _ => cases hc
theorem fsG_sound (hP : ProgOk P) {orc : FuncId → List Value → Heap → Option (Value × Heap)} (horc : CallSound P B w0 orc) {n0 n : Nat} {ks : List (Nat × List Nat)} : SoundR P B w0 0 (fsG P orc n0 n ks) := by
  intro rnd c fr h e fr' h' hok hf ρ S w a nn Q hr ht hm hs k; unfold fsG at hf; split at hf
  · rename_i x y; obtain ⟨hn, hq⟩ := bif_some hf; show Code.wpIn (Wide none) nn P (.seq x y) Q a w; exact runG_sound hP horc hok hq (nble hn) (Moved.same hr) (ht.mono fun b hb => ⟨.inl hb, rfl⟩) (hm.mono fun b hb => ⟨.inl hb, rfl⟩) k
  cases hf
theorem run_viaG {orc : FuncId → List Value → Heap → Option (Value × Heap)} {n0 k n : Nat} {keep : List Nat} {ks : List (Nat × List Nat)} {c : Code} {fr : Fr} {h : Heap} {n' : Nat} {c' : Code} {fr' : Fr} {h' : Heap} (hr : (runPre P orc k n c fr h).map (fun x => (x.1, x.2.1, x.2.2.1, gcH n0 keep x.2.2.2)) = some (n', c', fr', h')) : runG P orc n0 ((k, keep) :: ks) n c fr h = runG P orc n0 ks n' c' fr' h' := by
  simp only [runG]
  cases hx : runPre P orc k n c fr h with
  | none => rw [hx] at hr; cases hr
  | some x =>
    obtain ⟨n1, c1, fr1, h1⟩ := x; rw [hx] at hr; simp only [Option.map_some, Option.some.injEq, Prod.mk.injEq] at hr; obtain ⟨rfl, rfl, rfl, rfl⟩ := hr; rfl
theorem gcG_closed (hP : ProgOk P) {w : World} {orc : FuncId → List Value → Heap → Option (Value × Heap)} (horc : CallSound P w.heap.size (wz w) orc) {ρ : Ren} {S : Nat → Prop} {g : Heap} (hr : HR P ρ S w.heap.size (wz w) g w) {n0 n : Nat} {ks : List (Nat × List Nat)} {f : FuncId} {args : List Value} {v : Value} (ha : args.all af = true)
    (hf : (fsEnter P (fsG P orc n0 n ks) f args g).map (·.1) = some v) (hv : af v = true) :
    Calls P f args.toArray w fun | .returned v', w' => v' = v ∧ Below w.heap.size w w' | _, _ => False := by
  obtain ⟨⟨v0, h1⟩, h2, h3⟩ := Option.map_eq_some_iff.1 hf; simp only at h3; subst h3; have hc := ((enter_sound hP (fsG_sound hP horc)) f args _ _ _ h2).2 _ _ w args hr ⟨rfl, fun i hi => .of_af (List.all_eq_true.1 ha _ (mem_getD hi))⟩ 0; refine Calls.mono (callsIn_wide.1 hc) fun e w' he => ?_
  cases e with
  | returned v' =>
    obtain ⟨ρ', m1, hv1⟩ := he
    exact ⟨hv1.eq_of_af hv, below_z m1.hr.below⟩
  | panicked c => exact he.elim
  | outgrown => exact he.elim
theorem awakeGc_calls (hP : ProgOk P) {B : Nat} {w0 : World} {O : FuncId → List Value → Heap → Option (Value × Heap)} {fa : FuncId} {n : Nat} {L : List (Nat × TypeId × List Value)} (hn : ∀ x ∈ L, x.1 + 1 < n) (hp : 0 < n) (hL : ∀ x ∈ L, GlobW P B w0 x) (hB : ∀ w, Below B w0 w → B ≤ w.heap.size) (hS : ∀ w, Below B w0 w → CallSound P w.heap.size (wz w) O) {n0 m : Nat} {ks : List (Nat × List Nat)}
    (hrun : (fsEnter P (fsG P O n0 m ks) fa [] (gHeap n L)).map (·.1) = some (.bool true)) (w : World) (hw : Below B w0 w) :
    Calls P fa #[] w fun | .returned v', w' => v' = .bool true ∧ Below w.heap.size w w' | _, _ => False :=
  gcG_closed hP (hS w hw) (gHeap_hr hn hp fun x hx => let h := (hL x hx).below hw; ⟨h.type, h.only, Nat.lt_of_lt_of_le h.block (hB w hw), h.cells, h.vals⟩) (args := []) rfl hrun rfl
end Go.Fs
namespace Go.Fs
open Go.RowKit (Below)
variable {P : Program} {B : Nat} {w0 : World}
theorem orcI_sound {fi : FuncId} (hz : w0.drawn = 0) (hi : Enters P fi)
    (hI : ∀ (n : Int) (w : World), Below B w0 w → -9223372036854775808 ≤ n → n ≤ 9223372036854775807 → Calls P fi #[.int .i64 n] w fun e w' => e = .returned (.string ⟨(Lib.itoa n).toArray⟩) ∧ Below w.heap.size w w') : CallSound P B w0 (orcS fi fi) := by
  intro f xs h v h' hf; unfold orcS at hf
  cases hfi : Nat.beq f fi with
  | true =>
    have := nbeq hfi; subst this; rw [hfi] at hf; simp only [cond_true] at hf; split at hf
    · rename_i n; obtain ⟨hc, hf2⟩ := bif_some hf; obtain ⟨h0, h1⟩ := band hc; have h0 := of_decide_eq_true h0; have h1 := of_decide_eq_true h1; simp only [Option.some.injEq, Prod.mk.injEq] at hf2; obtain ⟨rfl, rfl⟩ := hf2; refine ⟨hi, fun ρ S w args' hr ha nn => ?_⟩; have he : args' = [.int .i64 n] := ha.eq_of_af (by rfl); subst he; have hC : CallsIn Fence.wide nn P f #[.int .i64 n] w _ := callsIn_wide.2 (hI n w hr.below (by omega) (by omega)); refine hC.mono fun e w' hret => ?_; obtain ⟨rfl, hb⟩ := hret; exact ⟨ρ, Moved.grewWorld hr hb (by rw [hz]; exact Nat.zero_le _), by rw [itoaF_eq h0 h1]; exact .lit rfl⟩
    cases hf
  | false =>
    rw [hfi] at hf; simp only [cond_false] at hf; cases hf
end Go.Fs
