/- Parts of the proof: an evaluator of the model, what it is sound for, and contracts of functions. No condition. -/
import Derived.Test.YthedpadpeakecaaGreatDoorP2
import Derived.Test.YthedpadpeakecaaGreatDoorP4
import Derived.Scope
import Derived.Lib.ItoaNum
import Derived.Lib.Join
import Derived.Lib.AtoiAll
import Derived.Test.YthedpadpeakecaaGreatDoorChecked
import Ieee.Arith
set_option linter.all false
namespace Go
variable {P : Program}
theorem stepR_scopeFs {b : Frame} {a : Act} {k : List Item} {cs : List Frame} {w : World} {c : Code} : step P (lone (b.atR a (.code (.scope c) :: k)) cs w) = .next (lone (b.atR a (.code c :: .inScope c :: k)) cs w) :=
  step_lone_go (by simp [stepG, stepG.exec, Frame.atR])
theorem stepR_inScopeFs {b : Frame} {a : Act} {k : List Item} {cs : List Frame} {w : World} {c : Code} : step P (lone (b.atR a (.inScope c :: k)) cs w) = .next (lone (b.atR a k) cs w) :=
  step_lone_go (by simp [stepG, stepG.exec, Frame.atR])
theorem wpIn_scopeFs {F : Fence} {n : Nat} {Q : Exit → Act → World → Prop} {a : Act} {w : World} {c : Code} (h : c.wpIn F n P (Exit.noGoto Q) a w) : (Code.scope c).wpIn F n P Q a w := by
  intro b k cs hro hb hr; have h0 : (lone (b.atR a (.code (.scope c) :: k)) cs w).fenced P F := fenced_calm hb hr rfl; obtain ⟨e, a₁, w₁, hq, harr⟩ := h b (.inScope c :: k) cs hro hb hr
  cases e with
  | normal => exact ⟨.normal, a₁, w₁, hq, .head h0 stepR_scopeFs (StepsIn.trans harr (.one (fenced_calm hb hr rfl) stepR_inScopeFs))⟩
  | exit id =>
    have hx : exitTo id (.inScope c :: k) = exitTo id k := by simp [exitTo]
    exact ⟨.exit id, a₁, w₁, hq, fun k' hk => .head h0 stepR_scopeFs (harr.1 k' (by rw [hx]; exact hk)),
      fun hr' hk => let ⟨k₁, h1, h2⟩ := harr.2 hr' (by rw [hx]; exact hk); ⟨k₁, h1, .head h0 stepR_scopeFs h2⟩⟩
  | goto l => exact hq.elim
  | ret => exact ⟨_, a₁, w₁, hq, .of_steps (.one h0 stepR_scopeFs) harr⟩
  | panic ch => exact ⟨_, a₁, w₁, hq, .of_steps (.one h0 stepR_scopeFs) harr⟩
  | outgrown => exact ⟨_, a₁, w₁, hq, .of_steps (.one h0 stepR_scopeFs) harr⟩
end Go
namespace Go.Fs
open Go.RowKit (Below)
variable {P : Program} {ρ ρ' : Ren} {S S' : Nat → Prop} {B : Nat} {w0 w w' w1 w2 : World} {h h' h1 h2 : Heap}
theorem call_sound (hP : ProgOk P) {orc : FuncId → List Value → Heap → Option (Value × Heap)} (horc : CallSound P B w0 orc) {m : Nat} {rec : Rec} (hrec : SoundR P B w0 m rec) : CallSnd P B w0 (callOf P orc rec) := by
  intro f args h v h' hf; unfold callOf at hf; split at hf
  · rename_i r hr; simp only [Option.some.injEq] at hf; subst hf; exact .inl (horc _ _ _ _ _ hr)
  split at hf
  · rename_i r hr; simp only [Option.some.injEq] at hf; subst hf; refine .inr fun ρ S w args' hr2 ha => ?_; unfold fsExt at hr; split at hr
    · rename_i fn hfn; obtain ⟨hb, hr3⟩ := bif_some hr; obtain ⟨hb1, hb2⟩ := band hb; split at hr3
      · rename_i e h1 h2; obtain ⟨haf, hr4⟩ := bif_some hr3; obtain ⟨hp, rfl⟩ := map_pair hr4; obtain ⟨h3, h4⟩ := purely_ok hp w; have he : args' = args := ha.eq_of_af haf; subst he; refine ⟨w, v, ?_, ρ, Moved.same hr2, .of_af h4⟩; unfold callFunc
        have hb2' : (fn.name == "runtime.NumGoroutine") = false := by simpa using hb2
        simp only [Sem.run_bind, run_program, Result.andThen_ok, hfn, hb1, hb2', Bool.false_eq_true, if_false, if_true, h1, h2]; have hm : (mark (Mark.extern f)).run P w = .ok () w := rfl; rw [hm]; simp only [Result.andThen_ok, h3, Sem.run_pure]
      cases hr3
    cases hr
  exact .inl (enter_sound hP hrec _ _ _ _ _ hf)
theorem Post.same {fr : Fr} {a : Act} (hr : HR P ρ S B w0 h w) (ht : TrR ρ S fr.t fr.n a.tmps) (hm : MarksR ρ S fr.marks a.defers) : Post P B w0 ρ ρ S h w fr h w a :=
  ⟨Moved.same hr, ht.mono fun _ hb => ⟨.inl hb, rfl⟩, hm.mono fun _ hb => ⟨.inl hb, rfl⟩⟩
theorem step_sound (hP : ProgOk P) {orc : FuncId → List Value → Heap → Option (Value × Heap)} (horc : CallSound P B w0 orc) {m : Nat} {rec : Rec} (hrec : SoundR P B w0 m rec) : SoundR P B w0 (m + 1) (fsStep P orc rec) := by
  intro rnd c fr h e fr' h' hok hf ρ S w a nn Q hr ht hm hs k; have hcs : CallSnd P B w0 (callOf P orc rec) := call_sound hP horc hrec; have hys : YieldSound P B w0 (fsYield rec) := yield_sound hrec
  cases c with
  | skip =>
    simp only [fsStep, Option.some.injEq, Prod.mk.injEq] at hf; obtain ⟨rfl, rfl, rfl⟩ := hf
    exact wpIn_skip (k _ _ _ (Post.same hr ht hm))
  | label l =>
    simp only [fsStep, Option.some.injEq, Prod.mk.injEq] at hf; obtain ⟨rfl, rfl, rfl⟩ := hf
    exact wpIn_label (k _ _ _ (Post.same hr ht hm))
  | exit id =>
    simp only [fsStep, Option.some.injEq, Prod.mk.injEq] at hf; obtain ⟨rfl, rfl, rfl⟩ := hf
    exact wpIn_exit (k _ _ _ (Post.same hr ht hm))
  | ret =>
    simp only [fsStep, Option.some.injEq, Prod.mk.injEq] at hf; obtain ⟨rfl, rfl, rfl⟩ := hf
    exact wpIn_ret (k _ _ _ (Post.same hr ht hm))
  | goto l => simp only [fsStep] at hf; cases hf
  | refuse l => simp only [fsStep] at hf; cases hf
  | scope b =>
    simp only [fsStep] at hf; refine wpIn_scopeFs ?_; refine (hrec rnd b fr h e fr' h' hok hf ρ S w a nn _ hr ht hm hs fun ρ1 w1 a1 p1 => ?_).wpIn; have hq := k _ _ _ p1
    cases e with
    | normal => exact hq
    | exit id => exact hq
    | ret => exact hq
  | seq x y =>
    simp only [fsStep] at hf; obtain ⟨ok1, ok2⟩ := band (show (codeOk x && codeOk y) = true from hok); refine wpIn_seq ?_; split at hf
    · rename_i fr1 h1 hrun; refine (hrec rnd x fr h _ fr1 h1 ok1 hrun ρ S w a nn _ hr ht hm hs fun ρ1 w1 a1 p1 => ?_).wpIn; show y.wpIn (rndF ρ rnd) nn P Q a1 w1; rw [← rndF_eq hs p1.moved.agree]; exact (hrec rnd y fr1 h1 e fr' h' ok2 hf ρ1 _ w1 a1 nn Q p1.moved.hr p1.tmps p1.marks (fun l hl => .inl (hs l hl)) fun ρ2 w2 a2 p2 => k _ _ _ (Post.trans (fr1 := fr1) (a1 := a1) p1.moved p2)).wpIn
    rename_i hne; refine (hrec rnd x fr h e fr' h' ok1 hf ρ S w a nn _ hr ht hm hs fun ρ1 w1 a1 p1 => ?_).wpIn; have hq := k _ _ _ p1
    cases e with
    | normal => exact (hne _ _ hf).elim
    | exit id => exact hq
    | ret => exact hq
  | cond x y z =>
    simp only [fsStep] at hf; obtain ⟨ok1, ok2⟩ := band (show (codeOk y && codeOk z) = true from hok); have hev := ht.eval a.defers x; split at hf
    · rename_i hx; rw [hx] at hev; exact wpIn_cond_true hev.bool_inv (hrec rnd y fr h e fr' h' ok1 hf ρ S w a nn Q hr ht hm hs k).wpIn
    · rename_i hx; rw [hx] at hev; exact wpIn_cond_false hev.bool_inv (hrec rnd z fr h e fr' h' ok2 hf ρ S w a nn Q hr ht hm hs k).wpIn
    cases hf
  | block id b =>
    simp only [fsStep] at hf; refine wpIn_block ?_; split at hf
    · rename_i id' fr1 h1 hrun; refine (hrec rnd b fr h _ fr1 h1 hok hrun ρ S w a nn _ hr ht hm hs fun ρ1 w1 a1 p1 => ?_).wpIn
      cases hb : Nat.beq id' id with
      | true =>
        rw [hb] at hf; simp only [cond_true, Option.some.injEq, Prod.mk.injEq] at hf; obtain ⟨rfl, rfl, rfl⟩ := hf; have := k _ _ _ p1; simp only [exOf, Exit.inBlock, nbeq hb, if_true]
        exact this
      | false =>
        rw [hb] at hf; simp only [cond_false, Option.some.injEq, Prod.mk.injEq] at hf; obtain ⟨rfl, rfl, rfl⟩ := hf; have := k _ _ _ p1; simp only [exOf, Exit.inBlock, if_neg (ne_of_no hb)]; exact this
    rename_i hne; refine (hrec rnd b fr h e fr' h' hok hf ρ S w a nn _ hr ht hm hs fun ρ1 w1 a1 p1 => ?_).wpIn; have hq := k _ _ _ p1
    cases e with
    | normal => exact hq
    | exit id' => exact (hne _ _ _ hf).elim
    | ret => exact hq
  | loop b =>
    simp only [fsStep] at hf; show Code.roundsIn (rndF ρ rnd) nn P b Q (m + 1) a w; rw [roundsIn_succ]; split at hf
    · rename_i fr1 h1 hrun; refine (hrec rnd b fr h _ fr1 h1 hok hrun ρ S w a nn _ hr ht hm hs fun ρ1 w1 a1 p1 => ?_).wpIn; show Code.roundsIn (rndF ρ rnd) nn P b Q m a1 w1; rw [← rndF_eq hs p1.moved.agree]; exact hrec rnd (.loop b) fr1 h1 e fr' h' hok hf ρ1 _ w1 a1 nn Q p1.moved.hr p1.tmps p1.marks (fun l hl => .inl (hs l hl)) fun ρ2 w2 a2 p2 => k _ _ _ (Post.trans (fr1 := fr1) (a1 := a1) p1.moved p2)
    rename_i hne; refine (hrec rnd b fr h e fr' h' hok hf ρ S w a nn _ hr ht hm hs fun ρ1 w1 a1 p1 => ?_).wpIn; have hq := k _ _ _ p1
    cases e with
    | normal => exact (hne _ _ hf).elim
    | exit id => exact hq
    | ret => exact hq
  | region id ops draw =>
    cases draw with
    | false =>
      simp only [fsStep] at hf; split at hf
      · rename_i t h1 hrun; simp only [Option.some.injEq, Prod.mk.injEq] at hf; obtain ⟨rfl, rfl, rfl⟩ := hf; refine wpIn_region ?_; exact ops_wp (step := fsOpM P (callOf P orc rec) (fsYield rec)) rfl hcs hys _ _ ρ S w a fr.t h range_map hr ht hrun fun ρ1 w1 a1 m1 ht1 hd1 => k _ _ _ ⟨m1, ht1, by rw [hd1]; exact hm.mono fun b hb => ⟨.inl hb, m1.agree b hb⟩⟩
      cases hf
    | true =>
      simp only [fsStep] at hf
      cases hl : lateB ops with
      | false =>
        rw [hl] at hf; simp only [cond_false] at hf; split at hf
        · rename_i s hrun; simp only [Option.some.injEq, Prod.mk.injEq] at hf; obtain ⟨rfl, rfl, rfl⟩ := hf; refine wpIn_region_draw fun t => ?_; rw [hP.mixed]; exact drawn_wp (call := callOf P orc rec) (yield := fsYield rec) hcs hys hok hrun (hr.drew _) ht (fun ρ1 w1 a1 m1 ht1 hd1 => k _ _ _ ⟨Moved.ofDrew m1, ht1, by rw [hd1]; exact hm.mono fun b hb => ⟨.inl hb, m1.agree b hb⟩⟩) t
        cases hf
      | true =>
        rw [hl] at hf; simp only [cond_true] at hf; split at hf
        · rename_i s hrun; simp only [Option.some.injEq, Prod.mk.injEq] at hf; obtain ⟨rfl, rfl, rfl⟩ := hf; refine wpIn_region_draw fun t => ?_; rw [hP.mixed]; exact drawn_wpL (call := callOf P orc rec) (yield := fsYield rec) hcs hys hok hrun (hr.drew _) ht (fun ρ1 w1 a1 m1 ht1 hd1 => k _ _ _ ⟨Moved.ofDrew m1, ht1, by rw [hd1]; exact hm.mono fun b hb => ⟨.inl hb, m1.agree b hb⟩⟩) t
        cases hf
  | rangeFunc g ps assign body =>
    simp only [fsStep] at hf; obtain ⟨ok1, ok2⟩ := band (show (codeOk assign && codeOk body) = true from hok); exact rangeFunc_sound hP hrec ok1 ok2 hf hr ht hm hs k
theorem code_sound (hP : ProgOk P) {orc : FuncId → List Value → Heap → Option (Value × Heap)} (horc : CallSound P B w0 orc) : ∀ m, SoundR P B w0 m (fsCode P orc m)
  | 0 => fun rnd c fr h e fr' h' _ hf => by cases hf
  | m + 1 => step_sound hP horc (code_sound hP horc m)
end Go.Fs
namespace Go.Fs
open Go.RowKit (Below)
variable {P : Program}
theorem fs_open (hP : ProgOk P) {B : Nat} {w0 w : World} {orc : FuncId → List Value → Heap → Option (Value × Heap)} (horc : CallSound P B w0 orc) {ρ : Ren} {S : Nat → Prop} {h : Heap} {f : FuncId} {args args' : List Value} {v : Value}
    (hE : Enters P f) (hr : HR P ρ S B w0 h w) (ha : LR ρ S args args') (he : EvF P orc f args h fun u _ => u = v) (hv : af v = true) : Calls P f args'.toArray w fun | .returned v', w' => v' = v ∧ Below B w0 w' | _, _ => False := by
  obtain ⟨m, u, h', h1, rfl⟩ := he
  have hc : CallsIn Fence.wide 0 P f args'.toArray w (RetR P B w0 ρ S h w u h') := by
    rcases call_sound hP horc (code_sound hP horc m) f args h u h' h1 with h2 | h2
    · exact h2.2 ρ S w args' hr ha 0
    obtain ⟨w', v', h3, _⟩ := h2 ρ S w args' hr ha; rw [callFunc_run hE] at h3; simp at h3
  refine Calls.mono (callsIn_wide.1 hc) fun e w' he => ?_
  cases e with
  | returned v' =>
    obtain ⟨ρ', m1, hv1⟩ := he
    exact ⟨hv1.eq_of_af hv, m1.hr.below⟩
  | panicked c => exact he.elim
  | outgrown => exact he.elim
end Go.Fs
namespace Go.Fs
open Go.RowKit (Below)
variable {P : Program}
def digs : Nat → Nat → List UInt8
  | 0, _ => []
  | f + 1, n => bif Nat.blt n 10 then [UInt8.ofNat (48 + n)] else digs f (n / 10) ++ [UInt8.ofNat (48 + n % 10)]
def itoaF (n : Int) : List UInt8 := match n with
  | .ofNat k => digs 20 k
  | .negSucc k => 45 :: digs 20 (k + 1)
def joinF (sep : List UInt8) : List (List UInt8) → List UInt8
  | [] => []
  | [w] => w
  | w :: r => w ++ sep ++ joinF sep r
def strs : List Value → Option (List ByteArray)
  | [] => some []
  | .string s :: r => (strs r).map (s :: ·)
  | _ => none
theorem digs_eq : ∀ (f n : Nat), n < 10 ^ (f + 1) → digs (f + 1) n = Lib.decDigits n
  | f, n, h => by
    unfold digs Lib.decDigits
    cases hb : Nat.blt n 10 with
    | true => rw [dif_pos (nblt hb)]; rfl
    | false =>
      have h1 : ¬ n < 10 := by have := nble_no hb; omega
      rw [dif_neg h1]; simp only [cond_false]
      cases f with
      | zero => simp at h; omega
      | succ f => rw [digs_eq f (n / 10) (by rw [Nat.pow_succ] at h; omega)]
theorem itoaF_eq {n : Int} (h0 : -1000000000000000000 < n) (h1 : n < 1000000000000000000) : itoaF n = Lib.itoa n := by
  unfold Lib.itoa
  cases n with
  | ofNat k =>
    rw [if_neg (by simp)]; show digs 20 k = _; rw [digs_eq 19 k (by have : (k : Int) < 1000000000000000000 := h1; have : (10 : Nat) ^ (19 + 1) = 100000000000000000000 := (by decide); omega)]
    rfl
  | negSucc k =>
    rw [if_pos (by omega)]; show 45 :: digs 20 (k + 1) = _; rw [digs_eq 19 (k + 1) (by have h2 : -1000000000000000000 < Int.negSucc k := h0; have : (10 : Nat) ^ (19 + 1) = 100000000000000000000 := (by decide); omega)]; rfl
theorem joinF_eq (sep : List UInt8) : ∀ xs : List (List UInt8), joinF sep xs = Lib.join xs sep
  | [] => rfl
  | [w] => by rw [Lib.join_one]; rfl
  | w :: v :: r => by
    rw [Lib.join_cons]; simp only [joinF]; rw [joinF_eq sep (v :: r), Lib.join_cons]; simp [Lib.joinTail]
def orcS (fi fj : FuncId) : FuncId → List Value → Heap → Option (Value × Heap) := fun f xs h =>
  bif Nat.beq f fi then
    match xs with
    | [.int .i64 n] => bif decide (-1000000000000000000 < n) && decide (n < 1000000000000000000) then some (.string ⟨(itoaF n).toArray⟩, h) else none
    | _ => none
  else bif Nat.beq f fj then
    match xs with
    | [.slice (some ⟨b, o, none⟩) n _, .string sep] =>
      match h.get b with
      | some (.row _ cs _ _) =>
        bif Nat.ble (o + n) cs.length && Nat.ble n 1000000 then
          match strs ((cs.drop o).take n) with
          | some ss => let r := joinF sep.data.toList (ss.map (·.data.toList))
            bif Nat.ble r.length 1000000000 then some (.string ⟨r.toArray⟩, h) else none
          | none => none
        else none
      | _ => none
    | _ => none
  else none
variable {B : Nat} {w0 w w' : World} {ρ : Ren} {S : Nat → Prop} {h : Heap}
theorem strs_ok : ∀ (cs cs' : List Value) (ss : List ByteArray), LR ρ S cs cs' → strs cs = some ss → cs' = ss.map .string
  | [], cs', ss, hl, hs => by
    simp only [strs, Option.some.injEq] at hs; subst hs
    exact List.eq_nil_of_length_eq_zero hl.1.symm
  | v :: r, [], ss, hl, _ => by have := hl.1; simp at this
  | v :: r, v' :: r', ss, hl, hs => by
    unfold strs at hs; split at hs
    · rename_i he; cases he
    · rename_i s r0 he; simp only [List.cons.injEq] at he; obtain ⟨rfl, rfl⟩ := he; obtain ⟨ss0, h1, rfl⟩ := Option.map_eq_some_iff.1 hs; have hv : VR ρ S (.string s) v' := hl.2 0 (by simp); have hr : LR ρ S r r' := ⟨by have := hl.1; simpa using this, fun i hi => by have := hl.2 (i + 1) (by simp; omega); simpa using this⟩; rw [hv.string_inv, strs_ok r r' ss0 hr h1]; rfl
    cases hs
theorem orcS_sound {fi fj : FuncId} (hz : w0.drawn = 0) (hi : Enters P fi) (hj : Enters P fj)
    (hI : ∀ (n : Int) (w : World), Below B w0 w → -9223372036854775808 ≤ n → n ≤ 9223372036854775807 → Calls P fi #[.int .i64 n] w fun e w' => e = .returned (.string ⟨(Lib.itoa n).toArray⟩) ∧ Below w.heap.size w w')
    (hJ : ∀ (bk o c : Nat) (xs : List ByteArray) (sep : ByteArray) (w : World), (∀ (j : Nat) x, xs[j]? = some x → w.cell? ⟨bk, o + j, none⟩ = some (.string x)) → bk < w.heap.size → xs.length ≤ 140737488355328 → xs.length ≤ c →
      (Lib.join (xs.map (·.data.toList)) sep.data.toList).length ≤ 140737488355328 →
      Calls P fj #[.slice (some ⟨bk, o, none⟩) xs.length c, .string sep] w fun e w' => e = .returned (.string ⟨(Lib.join (xs.map (·.data.toList)) sep.data.toList).toArray⟩) ∧ Below w.heap.size w w') :
    CallSound P B w0 (orcS fi fj) := by
  intro f xs h v h' hf; unfold orcS at hf
  cases hfi : Nat.beq f fi with
  | true =>
    have := nbeq hfi; subst this; rw [hfi] at hf; simp only [cond_true] at hf; split at hf
    · rename_i n; obtain ⟨hc, hf2⟩ := bif_some hf; obtain ⟨h0, h1⟩ := band hc; have h0 := of_decide_eq_true h0; have h1 := of_decide_eq_true h1; simp only [Option.some.injEq, Prod.mk.injEq] at hf2; obtain ⟨rfl, rfl⟩ := hf2; refine ⟨hi, fun ρ S w args' hr ha nn => ?_⟩; have he : args' = [.int .i64 n] := ha.eq_of_af (by rfl); subst he; have hC : CallsIn Fence.wide nn P f #[.int .i64 n] w _ := callsIn_wide.2 (hI n w hr.below (by omega) (by omega)); refine hC.mono fun e w' hret => ?_; obtain ⟨rfl, hb⟩ := hret; exact ⟨ρ, Moved.grewWorld hr hb (by rw [hz]; exact Nat.zero_le _), by rw [itoaF_eq h0 h1]; exact .lit rfl⟩
    cases hf
  | false =>
    rw [hfi] at hf; simp only [cond_false] at hf; obtain ⟨hfj, hf2⟩ := bif_some hf; have := nbeq hfj; subst this; clear hf; split at hf2
    · rename_i b o n mk sep; split at hf2
      · rename_i e cs own more hg; obtain ⟨hc, hf3⟩ := bif_some hf2; obtain ⟨hle, hn⟩ := band hc; have hle := nble hle; have hn := nble hn; split at hf3
        · rename_i ss hss; obtain ⟨hlen, hf4⟩ := bif_some hf3; have hlen := nble hlen; simp only [Option.some.injEq, Prod.mk.injEq] at hf4; obtain ⟨rfl, rfl⟩ := hf4; refine ⟨hj, fun ρ S w args' hr ha nn => ?_⟩
          match args', ha with
          | [x', s'], ha =>
            have hx : VR ρ S (.slice (some ⟨b, o, none⟩) n mk) x' := ha.2 0 (by simp); have hs : VR ρ S (.string sep) s' := ha.2 1 (by simp); obtain ⟨A, c, rfl, hnc, _, _, hb⟩ := hx.slice_inv; obtain rfl := hs.string_inv; have hb0 : b ≠ 0 := (hr.ids b (hr.objs b _ hg).1).2; obtain ⟨_, rfl, _⟩ := hb hb0; have hobj := (hr.objs b _ hg).2
            have hlt : (ρ b).block < w.heap.size := by
              by_cases hown : ownO (.row e cs own more) = true
              · exact hobj.lt hown
              have := hr.ro b _ hg (by simpa using hown); have := hr.size; omega
            have hlr : LR ρ S ((cs.drop o).take n) ((List.range n).map fun j => (w.cell? ((ρ b).at (o + j))).getD undef) := by
              refine LR.of_get? (by simp; omega) fun i v v' hv hv' => ?_; rw [List.getElem?_take] at hv; split at hv
              · rename_i hin; rw [List.getElem?_drop] at hv; obtain ⟨u, h1, h2⟩ := hobj.cell (i := o + i) (by omega); simp [hin, h1] at hv'; subst hv'
                have : cs.getD (o + i) undef = v := by simp [List.getD, hv]
                rwa [this] at h2
              cases hv
            have heq := strs_ok _ _ ss hlr hss
            have hsl : ss.length = n := by
              have := congrArg List.length heq; simp at this; omega
            have hcells : ∀ (j : Nat) x, ss[j]? = some x → w.cell? ⟨(ρ b).block, (ρ b).off + o + j, none⟩ = some (.string x) := fun j x hjx => by
              have hjn : j < n := by have := (List.getElem?_eq_some_iff.1 hjx).1; omega
              obtain ⟨u, h1, h2⟩ := hobj.cell (i := o + j) (by omega); have h3 := congrArg (·[j]?) heq; simp [hjn, hjx, h1] at h3; subst h3; simpa [Loc.at, Nat.add_assoc] using h1
            rw [joinF_eq] at hlen; have hC : CallsIn Fence.wide nn P f #[.slice (some ⟨(ρ b).block, (ρ b).off + o, none⟩) ss.length c, .string sep] w _ := callsIn_wide.2 (hJ (ρ b).block ((ρ b).off + o) c ss sep w hcells hlt (by omega) (by omega) (by omega)); rw [hsl] at hC; refine hC.mono fun e w' hret => ?_; obtain ⟨rfl, hb⟩ := hret; exact ⟨ρ, Moved.grewWorld hr hb (by rw [hz]; exact Nat.zero_le _), by rw [joinF_eq]; exact .lit rfl⟩
        cases hf3
      cases hf2
    cases hf2
end Go.Fs
namespace Go.Fs
open Go.RowKit (Below)
variable {P : Program}
def orcA (fi fj fa : FuncId) : FuncId → List Value → Heap → Option (Value × Heap) := fun f xs h =>
  bif Nat.beq f fa then
    match xs with
    | [] => some (.bool true, h)
    | _ => none
  else orcS fi fj f xs h
theorem orcA_sound {B : Nat} {w0 : World} {fi fj fa : FuncId} (hz : w0.drawn = 0) (hS : CallSound P B w0 (orcS fi fj)) (ha : Enters P fa)
    (hA : ∀ w, Below B w0 w → Calls P fa #[] w fun | .returned v', w' => v' = .bool true ∧ Below w.heap.size w w' | _, _ => False) : CallSound P B w0 (orcA fi fj fa) := by
  intro f xs h v h' hf; unfold orcA at hf
  cases hb : Nat.beq f fa with
  | true =>
    have := nbeq hb; subst this; rw [hb] at hf; simp only [cond_true] at hf; split at hf
    · simp only [Option.some.injEq, Prod.mk.injEq] at hf; obtain ⟨rfl, rfl⟩ := hf; refine ⟨ha, fun ρ S w args' hr har nn => ?_⟩; have he : args' = [] := List.eq_nil_of_length_eq_zero har.1.symm; subst he; have hC : CallsIn Fence.wide nn P f #[] w _ := callsIn_wide.2 (hA w hr.below); refine hC.mono fun e w' hret => ?_
      cases e with
      | returned v' =>
        obtain ⟨rfl, hb⟩ := hret
        exact ⟨ρ, Moved.grewWorld hr hb (by rw [hz]; exact Nat.zero_le _), .lit rfl⟩
      | panicked c => exact hret.elim
      | outgrown => exact hret.elim
    cases hf
  | false =>
    rw [hb] at hf; exact hS f xs h v h' hf
end Go.Fs
namespace Go.Fs
open Go.RowKit (Below)
variable {P : Program}
def atoV (s : ByteArray) : Int := match Lib.atoiAll s.data.toList with
  | .ok v => v
  | Lib.NumEnd.syntax => 0
  | .range => Lib.atoiSat s.data.toList
def noSign (l : List UInt8) : List UInt8 := if l.head? = some 45 then l.tail else l
def atoK (s : ByteArray) : Bool := match Lib.atoiAll s.data.toList with
  | .ok v => decide ((noSign s.data.toList).length ≤ 9) && decide ((⟨(Lib.itoa v).toArray⟩ : ByteArray) = s)
  | _ => false
def orcZ (fz : FuncId) (o : FuncId → List Value → Heap → Option (Value × Heap)) : FuncId → List Value → Heap → Option (Value × Heap) := fun f xs h =>
  bif Nat.beq f fz then
    match xs with
    | [.string s] => bif Nat.ble s.size 1000000000 then some (.tuple #[.int .i64 (atoV s), .bool (atoK s)], h) else none
    | _ => none
  else o f xs h
theorem orcZ_sound {B : Nat} {w0 : World} {fz : FuncId} {o : FuncId → List Value → Heap → Option (Value × Heap)} (hz : w0.drawn = 0) (hS : CallSound P B w0 o) (ha : Enters P fz)
    (hA : ∀ (s : ByteArray) (w : World), Below B w0 w → s.size ≤ 1000000000 → Calls P fz #[.string s] w fun | .returned v', w' => v' = .tuple #[.int .i64 (atoV s), .bool (atoK s)] ∧ Below w.heap.size w w' | _, _ => False) : CallSound P B w0 (orcZ fz o) := by
  intro f xs h v h' hf; unfold orcZ at hf
  cases hb : Nat.beq f fz with
  | true =>
    have := nbeq hb; subst this; rw [hb] at hf; simp only [cond_true] at hf; split at hf
    · rename_i s; obtain ⟨hc, hf2⟩ := bif_some hf; have hc := nble hc; simp only [Option.some.injEq, Prod.mk.injEq] at hf2; obtain ⟨rfl, rfl⟩ := hf2; refine ⟨ha, fun ρ S w args' hr har nn => ?_⟩; have he : args' = [.string s] := har.eq_of_af (by rfl); subst he; have hC : CallsIn Fence.wide nn P f #[.string s] w _ := callsIn_wide.2 (hA s w hr.below hc); refine hC.mono fun e w' hret => ?_
      cases e with
      | returned v' =>
        obtain ⟨rfl, hb⟩ := hret
        exact ⟨ρ, Moved.grewWorld hr hb (by rw [hz]; exact Nat.zero_le _), .of_af (by rfl)⟩
      | panicked c => exact hret.elim
      | outgrown => exact hret.elim
    cases hf
  | false =>
    rw [hb] at hf; exact hS f xs h v h' hf
theorem VF.ato {orc : FuncId → List Value → Heap → Option (Value × Heap)} {f : FuncId} {s : ByteArray} (ho : ∀ h : Heap, orc f [.string s] h = some (.tuple #[.int .i64 (atoV s), .bool (atoK s)], h)) : VF P orc f [.v .str s] (.tup [.v (.int .i64) (atoV s), .v .bool (atoK s)]) := fun h S us hok hS hr => by
  obtain ⟨u, r, rfl, hu, hr⟩ := hr; obtain rfl : r = [] := hr; obtain rfl : u = .string s := RepV.str hu; exact EvF.oracle (ho h) ⟨Aft.refl _ _, ⟨[.int .i64 (atoV s), .bool (atoK s)], rfl, ⟨_, _, rfl, RepV.ofInt _ _, ⟨_, _, rfl, RepV.ofBool _, rfl⟩⟩⟩, fun _ => rfl⟩
end Go.Fs
namespace Go.Proofs
open Go.Fs
def OA := orcZ 137 (orcA 132 32 7)
abbrev y68 : Ty := (.sl (.int .i64))
abbrev y175 : Ty := (.sl (.int .i64))
theorem vt3 : ValT Tryz.prog 3 (.int .i64) := valT_of (by kernel_rfl)
theorem vt29 : ValT Tryz.prog 29 (.int .i64) := valT_of (by kernel_rfl)
theorem el68 : ElT Tryz.prog 68 3 (.int .i64) := elT_of (by kernel_rfl)
theorem el175 : ElT Tryz.prog 175 29 (.int .i64) := elT_of (by kernel_rfl)
def whenE (c : Bool) (e : Int) : Int := bif c then e else 0
theorem sWhen_ok {c : Bool} {e : Int} : VF Tryz.prog OA 38 [B c, I e] (I (whenE c e)) := by
  refine VF.enter Tryz.func38 rfl (fun _ _ => rfl) rfl ?_; show VC _ _ _ _ _ [(0, B c), (1, I e)] [] _; refine VC.seq (VC.text ?_); refine VO.c (.assign rfl) ?_; refine VO.go (VC.seq (VC.seq (VC.text ?_))); refine VO.c (.move rfl) (VO.go ?_); refine VC.condB rfl (fun c1 => ?_) (fun c1 => ?_)
  · subst c1; refine VC.seq (VC.text ?_); refine VO.c (.move rfl) (VO.c (.assign rfl) (VO.go ?_)); refine VC.ret ?_; exact VEnd.one rfl evT (pvI (by rfl))
  subst c1; refine VC.skip (VC.seq (VC.text ?_)); refine VO.c (.assign rfl) (VO.go ?_); refine VC.ret ?_; exact VEnd.one rfl evT (pvI (by rfl))
def rangeE (n lo hi : Int) : Int := if n < lo ∨ hi < n then 3 else 0
theorem rCheckRange_ok {n : Int} {lo : Int} {hi : Int} : VF Tryz.prog OA 101 [I n, I lo, I hi] (I (rangeE n lo hi)) := by
  refine VF.enter Tryz.func101 rfl (fun _ _ => rfl) rfl ?_; show VC _ _ _ _ _ [(0, I n), (1, I lo), (2, I hi)] [] _; refine VC.seq (VC.text ?_); refine VO.c (.assign rfl) ?_; refine VO.go (VC.seq (VC.seq (VC.text ?_))); refine VO.c (.move rfl) (VO.c (.move rfl) (VO.c (.lss) (VO.c (.move rfl) ?_))); refine VO.cg (r := decide (n < lo)) (w := false) [] trivial (fun _ => (.move rfl)) ?_; refine VO.cg (r := decide (n < lo)) (w := false) [] trivial (fun _ => (.move rfl)) ?_; refine VO.cg (r := decide (n < lo)) (w := false) [(11, I n), (12, I hi)] ⟨rfl, rfl, trivial⟩ (fun _ => (.gtr)) ?_; refine VO.c (.or) (VO.go ?_); refine VC.condB rfl (fun c1 => ?_) (fun c1 => ?_)
  · try simp only [Bool.and_eq_true, Bool.or_eq_true, Bool.and_eq_false_iff, Bool.or_eq_false_iff, Bool.not_eq_true', Bool.not_eq_false', decide_eq_true_eq, decide_eq_false_iff_not] at c1
    refine VC.seq (VC.text ?_); refine VO.c (.assign rfl) (VO.go ?_); refine VC.ret ?_; exact VEnd.one rfl evT (pvI (by simp only [rangeE, ← Bool.decide_or, decide_eq_true_eq, decide_eq_false_iff_not, Bool.or_eq_true, Bool.or_eq_false_iff] at *; first | rw [if_pos (by omega)] | rw [if_neg (by omega)]))
  try simp only [Bool.and_eq_true, Bool.or_eq_true, Bool.and_eq_false_iff, Bool.or_eq_false_iff, Bool.not_eq_true', Bool.not_eq_false', decide_eq_true_eq, decide_eq_false_iff_not] at c1
  refine VC.skip (VC.seq (VC.text ?_)); refine VO.c (.assign rfl) (VO.go ?_); refine VC.ret ?_; exact VEnd.one rfl evT (pvI (by simp only [rangeE, ← Bool.decide_or, decide_eq_true_eq, decide_eq_false_iff_not, Bool.or_eq_true, Bool.or_eq_false_iff] at *; first | rw [if_pos (by omega)] | rw [if_neg (by omega)]))
theorem whenE_range {n lo hi : Int} : whenE (decide (n < lo) || decide (hi < n)) 3 = rangeE n lo hi := by
  unfold whenE rangeE; by_cases h1 : n < lo <;> by_cases h2 : hi < n <;> simp [h1, h2]
theorem sWithin_ok {n : Int} {lo : Int} {hi : Int} : VF Tryz.prog OA 55 [I n, I lo, I hi] (I (rangeE n lo hi)) := by
  refine VF.enter Tryz.func55 rfl (fun _ _ => rfl) rfl ?_; show VC _ _ _ _ _ [(0, I n), (1, I lo), (2, I hi)] [] _; refine VC.seq (VC.text ?_); refine VO.c (.assign rfl) ?_; refine VO.go (VC.seq (VC.text ?_)); refine VO.c (.move rfl) (VO.c (.move rfl) (VO.c (.lss) (VO.c (.move rfl) ?_))); refine VO.cg (r := decide (n < lo)) (w := false) [] trivial (fun _ => (.move rfl)) ?_; refine VO.cg (r := decide (n < lo)) (w := false) [] trivial (fun _ => (.move rfl)) ?_; refine VO.cg (r := decide (n < lo)) (w := false) [(11, I n), (12, I hi)] ⟨rfl, rfl, trivial⟩ (fun _ => (.gtr)) ?_; refine VO.c (.or) ?_; refine VO.call rfl rfl (VF.call (sWhen_ok )) ?_; refine VO.c (.assign rfl) (VO.go ?_); refine VC.ret ?_; exact VEnd.one rfl evT (pvI (by exact whenE_range))
def firstE : List Int → Int
  | [] => 0
  | x :: r => if x = 0 then firstE r else x
theorem firstE_drop {xs : List Int} {j : Nat} (hj : j < xs.length) : firstE (xs.drop j) = if xs[j] = 0 then firstE (xs.drop (j + 1)) else xs[j] := by
  rw [List.drop_eq_getElem_cons hj] <;> rfl
theorem firstE_end {xs : List Int} {j : Nat} (hj : xs.length ≤ j) : firstE (xs.drop j) = 0 := by rw [List.drop_eq_nil_of_le hj] <;> rfl
theorem sFirst_ok {l : List Int} (hl : l.length < 1000000) : VF Tryz.prog OA 36 [.v y175 l] (I (firstE l)) := by
  refine VF.enter Tryz.func36 rfl (fun _ _ => rfl) rfl ?_; show VC _ _ _ _ _ [(0, .v y175 l)] [] _; refine VC.seq (VC.text ?_); refine VO.c (.assign rfl) ?_; refine VO.go (VC.seq (VC.seq (VC.text ?_))); refine VO.c (.move rfl) ?_; refine VO.r (.len el175) ?_; refine VO.c (.move rfl) ?_; refine VO.go (VC.block ?_); refine VC.keep [(5, .v y175 l), (6, I ((l.length : Nat) : Int)), (7, I ((0 : Nat) : Int))] ⟨rfl, rfl, rfl, trivial⟩ ?_; refine VC.loop (I := fun kk ff ss => ∃ (j : Nat), kk = l.length - j ∧ ff = [(5, .v y175 l), (6, I ((l.length : Nat) : Int)), (7, I ((j : Nat) : Int))] ∧ ss = [] ∧ (j ≤ l.length) ∧ (firstE l = firstE (l.drop j))) ?_ _ _ _ ⟨0, rfl, rfl, rfl, Nat.zero_le _, (by rfl)⟩; rintro kk ff ss ⟨j, hk0, rfl, rfl, hj, hf⟩; refine VC.seq (VC.text ?_); refine VO.c (.lss) ?_; refine VO.go (VC.seq ?_); refine VC.condD rfl (fun c2 => ?_) (fun c2 => ?_)
  · refine VC.skip (VC.seq (VC.block (VC.seq (VC.text ?_)))); refine VO.c (.ix (j := j) rfl rfl el175 (by omega)) ?_; refine VO.r (.ld vt29) ?_; refine VO.c (.assign rfl) ?_; refine VO.go (VC.seq (VC.text ?_)); refine VO.c (.move rfl) (VO.c (.neq) (VO.go ?_)); refine VC.condD rfl (fun c4 => ?_) (fun c4 => ?_)
    · refine VC.seq (VC.text ?_); refine VO.c (.move rfl) (VO.c (.assign rfl) (VO.go ?_)); refine VC.ret ?_; exact VEnd.one rfl evT (pvI (by rw [hf, firstE_drop (by omega), if_neg c4]))
    refine VC.skip (VC.text ?_); refine VO.c (.add rfl rfl (by omega)) (VO.c (.move rfl) ?_); refine VO.nil ?_; refine ⟨_, [(5, .v y175 l), (6, I ((l.length : Nat) : Int)), (7, I (((j + 1) : Nat) : Int))], ?_, ⟨rfl, rfl, rfl, trivial⟩, (j + 1), rfl, rfl, rfl, (by omega), (by rw [hf, firstE_drop (by omega), if_pos (by simpa using c4)])⟩; omega
  refine VC.exit (VC.seq (VC.text ?_)); refine VO.c (.assign rfl) (VO.go ?_); refine VC.ret ?_; exact VEnd.one rfl evT (pvI (by rw [hf, firstE_end (by omega)]))
theorem rFirst_ok {l : List Int} (hl : l.length < 1000000) : VF Tryz.prog OA 100 [.v y68 l] (I (firstE l)) := by
  refine VF.enter Tryz.func100 rfl (fun _ _ => rfl) rfl ?_; show VC _ _ _ _ _ [(0, .v y68 l)] [] _; refine VC.seq (VC.text ?_); refine VO.c (.assign rfl) ?_; refine VO.go (VC.seq (VC.seq (VC.text ?_))); refine VO.c (.assign rfl) ?_; refine VO.go (VC.block ?_); refine VC.keep [(0, .v y68 l), (3, I ((0 : Nat) : Int))] ⟨rfl, rfl, trivial⟩ ?_; refine VC.loop (I := fun kk ff ss => ∃ (j : Nat), kk = l.length - j ∧ ff = [(0, .v y68 l), (3, I ((j : Nat) : Int))] ∧ ss = [] ∧ (j ≤ l.length) ∧ (firstE l = firstE (l.drop j))) ?_ _ _ _ ⟨0, rfl, rfl, rfl, Nat.zero_le _, (by rfl)⟩; rintro kk ff ss ⟨j, hk0, rfl, rfl, hj, hf⟩; refine VC.seq (VC.seq (VC.text ?_)); refine VO.c (.move rfl) (VO.c (.move rfl) ?_); refine VO.r (.len el68) ?_; refine VO.c (.lss) (VO.go ?_); refine VC.condD rfl (fun c2 => ?_) (fun c2 => ?_)
  · refine VC.skip (VC.seq (VC.block (VC.seq (VC.text ?_)))); refine VO.c (.move rfl) (VO.c (.move rfl) (VO.c (.ix (j := j) rfl rfl el68 (by omega)) ?_)); refine VO.r (.ld vt3) ?_; refine VO.c (.neq) (VO.go ?_); refine VC.condD rfl (fun c4 => ?_) (fun c4 => ?_)
    · refine VC.seq (VC.text ?_); refine VO.c (.move rfl) (VO.c (.move rfl) (VO.c (.ix (j := j) rfl rfl el68 (by omega)) ?_)); refine VO.r (.ld vt3) ?_; refine VO.c (.assign rfl) (VO.go ?_); refine VC.ret ?_; exact VEnd.one rfl evT (pvI (by rw [hf, firstE_drop (by omega), if_neg c4]))
    refine VC.skip (VC.text ?_); refine VO.c (.move rfl) (VO.c (.add rfl rfl (by omega)) (VO.c (.assign rfl) ?_)); refine VO.nil ?_; refine ⟨_, [(0, .v y68 l), (3, I (((j + 1) : Nat) : Int))], ?_, ⟨rfl, rfl, trivial⟩, (j + 1), rfl, rfl, rfl, (by omega), (by rw [hf, firstE_drop (by omega), if_pos (by simpa using c4)])⟩; omega
  refine VC.exit (VC.seq (VC.text ?_)); refine VO.c (.assign rfl) (VO.go ?_); refine VC.ret ?_; exact VEnd.one rfl evT (pvI (by rw [hf, firstE_end (by omega)]))
end Go.Proofs
namespace Go.Proofs
open Go.Fs
theorem whenE_t {p : Prop} {inst : Decidable p} {e : Int} (h : p) : whenE (@decide p inst) e = e := by rw [decide_eq_true h] <;> rfl
theorem whenE_f {p : Prop} {inst : Decidable p} {e : Int} (h : ¬ p) : whenE (@decide p inst) e = 0 := by rw [decide_eq_false h] <;> rfl
structure OkT (t : List Int × Int × Int) : Prop where
  taps : ∀ x ∈ t.1, -64 ≤ x ∧ x ≤ 64
  len : t.1.length ≤ 8
  shift : 0 ≤ t.2.1 ∧ t.2.1 ≤ 8
  off : -1024 ≤ t.2.2 ∧ t.2.2 ≤ 1024
structure OkL (l : List Int) : Prop where
  all : ∀ x ∈ l, -1048576 ≤ x ∧ x ≤ 1048576
  len : l.length ≤ 96
end Go.Proofs
namespace Go.Proofs
open Go.Fs
theorem firstE_zero {l : List Int} : firstE l = 0 ↔ ∀ x ∈ l, x = 0 := by
  induction l with
  | nil => simp [firstE]
  | cons x l ih => by_cases h : x = 0 <;> simp [firstE, h, ih]
theorem rangeE_zero {n lo hi : Int} : rangeE n lo hi = 0 ↔ lo ≤ n ∧ n ≤ hi := by
  unfold rangeE; split <;> simp <;> omega
theorem firstE_app (a b : List Int) : firstE (a ++ b) = if firstE a = 0 then firstE b else firstE a := by
  induction a with
  | nil => simp [firstE]
  | cons x a ih => by_cases h : x = 0 <;> simp [firstE, h, ih]
theorem awake_ok : VF Tryz.prog OA 7 [] (B true) := VF.oracle (fun _ => rfl) fun _ _ => ⟨rfl, rfl⟩
end Go.Proofs
namespace Go.Proofs
open Go.Fs
theorem firstE_map_drop {α : Type} {f : α → Int} {l : List α} {j : Nat} (hj : j < l.length) : firstE ((l.drop j).map f) = if f l[j] = 0 then firstE ((l.drop (j + 1)).map f) else f l[j] := by
  rw [List.drop_eq_getElem_cons hj] <;> rfl
theorem firstE_map_end {α : Type} {f : α → Int} {l : List α} {j : Nat} (hj : l.length ≤ j) : firstE ((l.drop j).map f) = 0 := by rw [List.drop_eq_nil_of_le hj] <;> rfl
def len0 (l : List (Int × List Int)) : Nat := (l.map fun c => c.2.length).headD 0
theorem whenE_zero {p : Prop} {inst : Decidable p} {e : Int} (he : e ≠ 0) (h : whenE (@decide p inst) e = 0) : ¬ p := fun hp => he (by rw [whenE_t hp] at h; exact h)
theorem firstE_one (x : Int) : firstE [x] = x := by
  show (if x = 0 then 0 else x) = x; split <;> omega
end Go.Proofs
namespace Go.Proofs
open Go.Fs
theorem gWhen_ok {c : Bool} {e : Int} : VF Tryz.prog OA 123 [B c, I e] (I (whenE c e)) := by
  refine VF.enter Tryz.func123 rfl (fun _ _ => rfl) rfl ?_; show VC _ _ _ _ _ [(0, B c), (1, I e)] [] _; refine VC.seq (VC.text ?_); refine VO.c (.assign rfl) ?_; refine VO.go (VC.seq (VC.seq (VC.text ?_))); refine VO.c (.move rfl) (VO.go ?_); refine VC.condB rfl (fun c1 => ?_) (fun c1 => ?_)
  · subst c1; refine VC.seq (VC.text ?_); refine VO.c (.move rfl) (VO.c (.assign rfl) (VO.go ?_)); refine VC.ret ?_; exact VEnd.one rfl evT (pvI (by rfl))
  subst c1; refine VC.skip (VC.seq (VC.text ?_)); refine VO.c (.assign rfl) (VO.go ?_); refine VC.ret ?_; exact VEnd.one rfl evT (pvI (by rfl))
end Go.Proofs
namespace Go.Proofs
open Go.Fs
theorem cNaN_ok {x : Int} : VF Tryz.prog OA 155 [I x] (B false) := by
  refine VF.enter Tryz.func155 rfl (fun _ _ => rfl) rfl ?_; show VC _ _ _ _ _ [(0, I x)] [] _; refine VC.seq (VC.text ?_); refine VO.c (.assign rfl) ?_; refine VO.go (VC.seq (VC.text ?_)); refine VO.c (.move rfl) (VO.c (.move rfl) (VO.c (.neq) (VO.c (.assign rfl) ?_))); refine VO.go ?_; refine VC.ret ?_; exact VEnd.one rfl evT (pvE (by simp))
end Go.Proofs
namespace Ieee
theorem cut_zero (neg : Bool) (n : Nat) : Toward.even.cut neg n 0 = n := by
  unfold Toward.cut; simp [Nat.mod_one]
theorem log2_le_of_dvd {n d : Nat} (hn : n ≠ 0) (h : 2 ^ d ∣ n) : d ≤ n.log2 := (Nat.le_log2 hn).2 (Nat.le_of_dvd (Nat.pos_of_ne_zero hn) h)
theorem cut_exact {neg : Bool} {way : Toward} {n d : Nat} (hn : n ≠ 0) (h : 2 ^ d ∣ n) : way.cut neg n d = n / 2 ^ d := by
  have h1 := log2_le_of_dvd hn h
  have h2 : min d (n.log2 + 2) = d := by omega
  have h3 : n % 2 ^ d = 0 := Nat.mod_eq_zero_of_dvd h; unfold Toward.cut; simp only [h2, Nat.one_shiftLeft, h3]; have hp : 0 < 2 ^ d := Nat.two_pow_pos d; cases way <;> simp <;> omega
namespace Format
variable (f : Format)
theorem read_word_sub {neg : Bool} {r : Nat} (h : r < f.binade) (hw : r < f.signWeight) : f.read (f.word neg r) = .number neg r f.leastPlace := by
  have e1 : f.word neg r % f.signWeight = r := by
    unfold word; cases neg
    · exact Nat.mod_eq_of_lt hw
    simp only [if_true]; rw [Nat.add_mod_left]; exact Nat.mod_eq_of_lt hw
  have e2 : (f.word neg r / f.signWeight % 2 == 1) = neg := by
    unfold word; have hp : 0 < f.signWeight := Nat.two_pow_pos _; cases neg
    · simp [Nat.div_eq_of_lt hw]
    simp only [if_true]; rw [Nat.add_div_left _ hp, Nat.div_eq_of_lt hw]; rfl
  unfold read; simp only [e1, e2, h, if_true]
theorem read_word_nor {neg : Bool} {r : Nat} (h : f.binade ≤ r) (hi : r < f.infRung) (hw : r < f.signWeight) : f.read (f.word neg r) = .number neg (f.binade + r % f.binade) (f.leastPlace + (r / f.binade - 1 : Nat)) := by
  have e1 : f.word neg r % f.signWeight = r := by
    unfold word; cases neg
    · exact Nat.mod_eq_of_lt hw
    simp only [if_true]; rw [Nat.add_mod_left]; exact Nat.mod_eq_of_lt hw
  have e2 : (f.word neg r / f.signWeight % 2 == 1) = neg := by
    unfold word; have hp : 0 < f.signWeight := Nat.two_pow_pos _; cases neg
    · simp [Nat.div_eq_of_lt hw]
    simp only [if_true]; rw [Nat.add_div_left _ hp, Nat.div_eq_of_lt hw]; rfl
  unfold read; simp only [e1, e2]; rw [if_neg (by omega), if_pos hi]
theorem infRung_sw : f.infRung < f.signWeight := by
  have h : 0 < 2 ^ f.exponentBits := Nat.two_pow_pos _; have hb : 0 < f.binade := Nat.two_pow_pos _
  have : f.infRung + f.binade = f.signWeight := by
    unfold infRung signWeight; rw [Nat.pow_add, ← Nat.succ_mul]; exact congrArg (· * f.binade) (by omega)
  omega
def lastOf (mag : Nat) (place : Int) : Int := max (place + mag.log2 - f.fractionBits) f.leastPlace
def keptOf (neg : Bool) (mag : Nat) (place : Int) : Nat := Toward.even.cut neg (mag <<< (place - f.lastOf mag place).toNat) (f.lastOf mag place - place).toNat
theorem read_nearest {neg : Bool} {mag : Nat} {place : Int} (hm : mag ≠ 0) {k : Nat} (hk : f.keptOf neg mag place = k) (hk2 : k < 2 * f.binade) (hsub : f.lastOf mag place = f.leastPlace ∨ f.binade ≤ k)
    (hfin : (f.lastOf mag place - f.leastPlace).toNat * f.binade + k < f.infRung) : f.read (f.nearest neg mag place) = .number neg k (f.lastOf mag place) := by
  have hl : f.leastPlace ≤ f.lastOf mag place := by unfold lastOf; omega
  have hb : 0 < f.binade := Nat.two_pow_pos _; have hsw := f.infRung_sw
  have hn : f.nearest neg mag place = f.word neg ((f.lastOf mag place - f.leastPlace).toNat * f.binade + k) := by
    unfold nearest; rw [if_neg hm]; show f.word neg (min ((f.lastOf mag place - f.leastPlace).toNat * f.binade + f.keptOf neg mag place) f.infRung) = _; rw [hk, Nat.min_eq_left (by omega)]
  rw [hn]; generalize hL : f.lastOf mag place = L at *; obtain ⟨d, rfl⟩ : ∃ d : Nat, L = f.leastPlace + d := ⟨(L - f.leastPlace).toNat, by omega⟩
  have e0 : (f.leastPlace + (d : Int) - f.leastPlace).toNat = d := by omega
  rw [e0] at hfin ⊢; by_cases hkb : k < f.binade
  · have hd : d = 0 := by rcases hsub with h | h <;> omega
    subst hd; rw [Nat.zero_mul, Nat.zero_add] at hfin ⊢; rw [f.read_word_sub hkb (by omega)]; simp
  have h1 : f.binade ≤ d * f.binade + k := by have := Nat.zero_le (d * f.binade); omega
  rw [f.read_word_nor h1 hfin (by omega)]
  have e1 : (d * f.binade + k) % f.binade = k - f.binade := by
    rw [Nat.add_comm, Nat.add_mul_mod_self_right, show k = (k - f.binade) + f.binade by omega, Nat.add_mod_right, Nat.mod_eq_of_lt (by omega)]; omega
  have e2 : (d * f.binade + k) / f.binade = d + 1 := by
    rw [Nat.add_comm, Nat.add_mul_div_right _ _ hb, show k = (k - f.binade) + f.binade by omega, Nat.add_div_right _ hb, Nat.div_eq_of_lt (by omega)]; omega
  rw [e1, e2]; congr 1; omega
theorem log2_mul_two_pow {c k : Nat} (hc : c ≠ 0) : (c * 2 ^ k).log2 = c.log2 + k := by
  have hp : 0 < 2 ^ k := Nat.two_pow_pos k; refine (Nat.log2_eq_iff (Nat.mul_ne_zero hc (by omega))).2 ⟨?_, ?_⟩
  · rw [Nat.pow_add]; exact Nat.mul_le_mul_right _ (Nat.log2_self_le hc)
  rw [show c.log2 + k + 1 = (c.log2 + 1) + k by omega, Nat.pow_add]; exact Nat.mul_lt_mul_of_pos_right (Nat.lt_log2_self) hp
theorem write_exact {neg : Bool} {mag c : Nat} {place q base : Int} (hm : mag ≠ 0) (hb1 : base ≤ place) (hb2 : base ≤ q) (hq : f.leastPlace ≤ q) (hc : c < 2 ^ (f.fractionBits + 1)) (heq : mag * 2 ^ (place - base).toNat = c * 2 ^ (q - base).toNat)
    (hfin : (q - f.leastPlace).toNat + 2 ≤ 2 ^ f.exponentBits - 1) : ∃ m p, f.read (f.nearest neg mag place) = .number neg m p ∧ f.leastPlace ≤ p ∧ m ≠ 0 ∧ m * 2 ^ (p - f.leastPlace).toNat = c * 2 ^ (q - f.leastPlace).toNat := by
  have hc0 : c ≠ 0 := by
    rintro rfl; rw [Nat.zero_mul] at heq; have hp : 0 < 2 ^ (place - base).toNat := Nat.two_pow_pos _; rcases Nat.mul_eq_zero.1 heq with h | h
    · exact hm h
    omega
  have hlog : mag.log2 + (place - base).toNat = c.log2 + (q - base).toNat := by
    rw [← log2_mul_two_pow hm, ← log2_mul_two_pow hc0, heq]
  have hcl : c.log2 ≤ f.fractionBits := by
    have := (Nat.log2_lt hc0).2 hc; omega
  obtain ⟨L, hL⟩ : ∃ L, f.lastOf mag place = L := ⟨_, rfl⟩
  have hLq : L ≤ q := by rw [← hL]; unfold lastOf; omega
  have hLl : f.leastPlace ≤ L := by rw [← hL]; unfold lastOf; omega
  have hLn : place + mag.log2 - f.fractionBits ≤ L := by rw [← hL]; unfold lastOf; omega
  have hLc : L = f.leastPlace ∨ L = place + mag.log2 - f.fractionBits := by rw [← hL]; unfold lastOf; omega
  -- what is kept is c * 2 ^ (q - L)
  have hkept : f.keptOf neg mag place = c * 2 ^ (q - L).toNat := by
    unfold keptOf; rw [hL]; by_cases hle : L ≤ place
    · have e1 : (L - place).toNat = 0 := by omega
      rw [e1, cut_zero, Nat.shiftLeft_eq]
      have hbL : min base L ≤ L := by omega
      have hp : 0 < 2 ^ (L - min base L).toNat := Nat.two_pow_pos _
      -- both sides times 2 ^ (L - b)
      have h1 : mag * 2 ^ (place - min base L).toNat = c * 2 ^ (q - min base L).toNat := by
        have e2 : (place - min base L).toNat = (place - base).toNat + (base - min base L).toNat := by omega
        have e3 : (q - min base L).toNat = (q - base).toNat + (base - min base L).toNat := by omega
        rw [e2, e3, Nat.pow_add, Nat.pow_add, ← Nat.mul_assoc, ← Nat.mul_assoc, heq]
      refine Nat.eq_of_mul_eq_mul_right hp ?_; rw [Nat.mul_assoc, Nat.mul_assoc, ← Nat.pow_add, ← Nat.pow_add]; rw [show (place - L).toNat + (L - min base L).toNat = (place - min base L).toNat by omega, show (q - L).toNat + (L - min base L).toNat = (q - min base L).toNat by omega]; exact h1
    have e1 : (place - L).toNat = 0 := by omega
    rw [e1, Nat.shiftLeft_zero]; have hbase : base ≤ place := hb1
    have hmag : mag = c * 2 ^ (q - place).toNat := by
      have hp : 0 < 2 ^ (place - base).toNat := Nat.two_pow_pos _; refine Nat.eq_of_mul_eq_mul_right hp ?_; rw [heq, Nat.mul_assoc, ← Nat.pow_add, show (q - place).toNat + (place - base).toNat = (q - base).toNat by omega]
    have hd : 2 ^ (L - place).toNat ∣ mag := by
      rw [hmag, show (q - place).toNat = (q - L).toNat + (L - place).toNat by omega, Nat.pow_add, ← Nat.mul_assoc]; exact Nat.dvd_mul_left _ _
    rw [cut_exact hm hd]; refine Nat.div_eq_of_eq_mul_left (Nat.two_pow_pos _) ?_; rw [hmag, Nat.mul_assoc, ← Nat.pow_add, show (q - L).toNat + (L - place).toNat = (q - place).toNat by omega]
  have hkl : (c * 2 ^ (q - L).toNat).log2 ≤ f.fractionBits := by
    rw [log2_mul_two_pow hc0]; omega
  have hk0 : c * 2 ^ (q - L).toNat ≠ 0 := by
    have := Nat.two_pow_pos (q - L).toNat; exact Nat.mul_ne_zero hc0 (by omega)
  have hkb : c * 2 ^ (q - L).toNat < 2 * f.binade := by
    have := (Nat.log2_lt hk0).1 (show (c * 2 ^ (q - L).toNat).log2 < f.fractionBits + 1 by omega); rw [Nat.pow_succ] at this; unfold binade; omega
  have hsub : f.lastOf mag place = f.leastPlace ∨ f.binade ≤ c * 2 ^ (q - L).toNat := by
    rw [hL]; rcases hLc with h | h
    · exact .inl h
    refine .inr ?_; unfold binade; refine (Nat.le_log2 hk0).1 ?_; rw [log2_mul_two_pow hc0]; omega
  have hfin2 : (f.lastOf mag place - f.leastPlace).toNat * f.binade + c * 2 ^ (q - L).toNat < f.infRung := by
    rw [hL]; unfold infRung
    have h1 : (L - f.leastPlace).toNat * f.binade + 2 * f.binade ≤ (2 ^ f.exponentBits - 1) * f.binade := by
      rw [← Nat.add_mul]; exact Nat.mul_le_mul_right _ (by omega)
    omega
  refine ⟨_, L, by have := f.read_nearest (neg := neg) hm hkept hkb hsub hfin2; rw [hL] at this; exact this, hLl, hk0, ?_⟩; rw [Nat.mul_assoc, ← Nat.pow_add, show (q - L).toNat + (L - f.leastPlace).toNat = (q - f.leastPlace).toNat by omega]
end Format
end Ieee
namespace Ieee
def sg (s : Bool) (r : Nat) : Int := if s then -(r : Int) else r
theorem signed_eq (s : Bool) (m k : Nat) : signed s m k = sg s (m * 2 ^ k) := by
  unfold signed sg; rw [Nat.shiftLeft_eq]
theorem sg_mul (s : Bool) (a b : Nat) : sg s (a * b) = sg s a * b := by
  unfold sg; cases s <;> simp [Int.neg_mul]
theorem sg_prod (s t : Bool) (a b : Nat) : sg s a * sg t b = sg (s ^^ t) (a * b) := by
  unfold sg; cases s <;> cases t <;> simp [Int.neg_mul, Int.mul_neg]
theorem sg_natAbs (s : Bool) (a : Nat) : (sg s a).natAbs = a := by unfold sg; cases s <;> simp
theorem sg_zero (s : Bool) : sg s 0 = 0 := by unfold sg; cases s <;> rfl
namespace Format
variable (f : Format)
def units (x : Nat) : Option Int := match f.read x with
  | .number s m p => some (sg s (m * 2 ^ (p - f.leastPlace).toNat))
  | _ => none
def Rep (r : Nat) : Prop := ∃ c k, r = c * 2 ^ k ∧ c < 2 ^ (f.fractionBits + 1) ∧ k + 2 ≤ 2 ^ f.exponentBits - 1
variable {f}
theorem units_inv {x : Nat} {u : Int} (h : f.units x = some u) : ∃ s m p, f.read x = .number s m p ∧ f.leastPlace ≤ p ∧ u = sg s (m * 2 ^ (p - f.leastPlace).toNat) := by
  unfold units at h; split at h
  · rename_i s m p hr; refine ⟨s, m, p, hr, ?_, (Option.some.inj h).symm⟩; unfold read at hr; dsimp only at hr; split at hr
    · cases hr; omega
    split at hr
    · cases hr; omega
    split at hr <;> cases hr
  cases h
theorem units_none {x : Nat} (h : f.units x = none) : (∃ s, f.read x = .infinity s) ∨ ∃ s t, f.read x = .nan s t := by
  unfold units at h; split at h
  · cases h
  rename_i hn
  cases hr : f.read x with
  | number s m p => exact absurd hr (hn s m p)
  | infinity s => exact .inl ⟨s, rfl⟩
  | nan s t => exact .inr ⟨s, t, rfl⟩
theorem sub_zero_place (p : Int) : (p - p).toNat = 0 := by omega
theorem write_units {s : Bool} {m r : Nat} {p : Int} (base : Int) (hb1 : base ≤ p) (hb2 : base ≤ f.leastPlace) (heq : m * 2 ^ (p - base).toNat = r * 2 ^ (f.leastPlace - base).toNat) (hr : f.Rep r) (hg : 0 < f.exponentBits ∧ 0 < f.fractionBits) :
    f.units (f.write (.number s m p)) = some (sg s r) := by
  have hp1 : 0 < 2 ^ (p - base).toNat := Nat.two_pow_pos _; have hp2 : 0 < 2 ^ (f.leastPlace - base).toNat := Nat.two_pow_pos _; by_cases hm : m = 0
  · subst hm
    have h0 : r = 0 := by
      rw [Nat.zero_mul] at heq; rcases Nat.mul_eq_zero.1 heq.symm with h | h
      · exact h
      omega
    subst h0; have hbin : 0 < f.binade := Nat.two_pow_pos _; have hsw : 0 < f.signWeight := Nat.two_pow_pos _
    have : f.read (f.write (.number s 0 p)) = .number s 0 f.leastPlace := by
      show f.read (f.nearest s 0 p) = _; unfold nearest; rw [if_pos rfl]; exact f.read_word_sub hbin hsw
    unfold units; rw [this]; simp
  obtain ⟨c, k, rfl, hc, hk⟩ := hr
  have heq2 : m * 2 ^ (p - base).toNat = c * 2 ^ ((f.leastPlace + k) - base).toNat := by
    rw [heq, Nat.mul_assoc, ← Nat.pow_add]; congr 2; omega
  obtain ⟨m', p', h1, h2, h3, h4⟩ := f.write_exact (neg := s) hm hb1 (show base ≤ f.leastPlace + k by omega) (by omega) hc heq2 (by omega); unfold units; show (match f.read (f.nearest s m p) with | .number s m p => some (sg s (m * 2 ^ (p - f.leastPlace).toNat)) | _ => none) = _; rw [h1]; simp only; rw [h4]; congr 4; omega
theorem order_units {x y : Nat} {u v : Int} (hx : f.units x = some u) (hy : f.units y = some v) : f.order x y = some (compare u v) := by
  obtain ⟨s, m, p, h1, h2, rfl⟩ := units_inv hx; obtain ⟨t, n, q, h3, h4, rfl⟩ := units_inv hy; unfold order; rw [h1, h3]; unfold Datum.order; simp only; rw [signed_eq, signed_eq]; congr 1
  have hb : f.leastPlace ≤ min p q := by omega
  have e1 : sg s (m * 2 ^ (p - f.leastPlace).toNat) = sg s (m * 2 ^ (p - min p q).toNat) * ((2 ^ (min p q - f.leastPlace).toNat : Nat) : Int) := by
    rw [← sg_mul, Nat.mul_assoc, ← Nat.pow_add]; congr 3; omega
  have e2 : sg t (n * 2 ^ (q - f.leastPlace).toNat) = sg t (n * 2 ^ (q - min p q).toNat) * ((2 ^ (min p q - f.leastPlace).toNat : Nat) : Int) := by
    rw [← sg_mul, Nat.mul_assoc, ← Nat.pow_add]; congr 3; omega
  rw [e1, e2]
  have hp : (0 : Int) < ((2 ^ (min p q - f.leastPlace).toNat : Nat) : Int) := by have := Nat.two_pow_pos (min p q - f.leastPlace).toNat; omega
  generalize sg s (m * 2 ^ (p - min p q).toNat) = a; generalize sg t (n * 2 ^ (q - min p q).toNat) = b; generalize ((2 ^ (min p q - f.leastPlace).toNat : Nat) : Int) = k at hp; show compareOfLessAndEq a b = compareOfLessAndEq (a * k) (b * k); unfold compareOfLessAndEq; have h1 : a < b ↔ a * k < b * k := (Int.mul_lt_mul_right hp).symm; have h2 : a = b ↔ a * k = b * k := ⟨fun h => by rw [h], fun h => Int.eq_of_mul_eq_mul_right (by omega) h⟩; by_cases h3 : a < b
  · rw [if_pos h3, if_pos (h1.1 h3)]
  rw [if_neg h3, if_neg (fun h => h3 (h1.2 h))]; by_cases h4 : a = b
  · rw [if_pos h4, if_pos (h2.1 h4)]
  rw [if_neg h4, if_neg (fun h => h4 (h2.2 h))]
end Format
end Ieee
namespace Ieee
namespace Format
variable {f g : Format}
theorem sg_neg_of (t : Int) (h : t ≠ 0) : sg (decide (t < 0)) t.natAbs = t := by
  unfold sg; by_cases h1 : t < 0
  · rw [if_pos (by simpa using h1)]; omega
  rw [if_neg (by simpa using h1)]; omega
theorem sg_zero_of (s : Bool) {t : Int} (h : t = 0) : sg s t.natAbs = t := by
  subst h; simp [sg_zero]
theorem mul_exact {x y : Nat} {u v r : Int} (hx : f.units x = some u) (hy : f.units y = some v) (hl : f.leastPlace ≤ 0) (h : u * v = r * (2 ^ (-f.leastPlace).toNat : Nat)) (hr : f.Rep r.natAbs) (hg : 0 < f.exponentBits ∧ 0 < f.fractionBits) :
    ∃ w, f.mul x y = some w ∧ f.units w = some r := by
  obtain ⟨s, m, p, h1, h2, rfl⟩ := units_inv hx; obtain ⟨t, n, q, h3, h4, rfl⟩ := units_inv hy; unfold mul; rw [h1, h3]; refine ⟨_, rfl, ?_⟩; have hk := congrArg Int.natAbs h; rw [sg_prod, sg_natAbs, Int.natAbs_mul, Int.natAbs_natCast] at hk
  have hb : 2 * f.leastPlace ≤ p + q := by omega
  rw [write_units (r := r.natAbs) (2 * f.leastPlace) hb (by omega) ?_ hr hg]
  · congr 1
    have hs : sg (s ^^ t) (m * 2 ^ (p - f.leastPlace).toNat * (n * 2 ^ (q - f.leastPlace).toNat)) = r * (2 ^ (-f.leastPlace).toNat : Nat) := by rw [← sg_prod, h]
    have hpos : (0 : Int) < ((2 ^ (-f.leastPlace).toNat : Nat) : Int) := by have := Nat.two_pow_pos (-f.leastPlace).toNat; omega
    rw [hk, sg_mul] at hs; exact Int.eq_of_mul_eq_mul_right (by omega) hs
  rw [show (p + q - 2 * f.leastPlace).toNat = (p - f.leastPlace).toNat + (q - f.leastPlace).toNat by omega, show (f.leastPlace - 2 * f.leastPlace).toNat = (-f.leastPlace).toNat by omega, ← hk, Nat.pow_add]; simp only [Nat.mul_comm, Nat.mul_left_comm, Nat.mul_assoc]
theorem opp_read {y : Nat} {v : Int} (hy : f.units y = some v) : ∃ s m p, (f.read y).opposite = .number s m p ∧ f.leastPlace ≤ p ∧ sg s (m * 2 ^ (p - f.leastPlace).toNat) = -v := by
  obtain ⟨t, n, q, h3, h4, rfl⟩ := units_inv hy; rw [h3]; refine ⟨_, _, _, rfl, h4, ?_⟩; unfold sg; cases t <;> simp
theorem sub_exact {x y : Nat} {u v r : Int} (hx : f.units x = some u) (hy : f.units y = some v) (h : u - v = r) (hr : f.Rep r.natAbs) (hg : 0 < f.exponentBits ∧ 0 < f.fractionBits) : ∃ w, f.sub x y = some w ∧ f.units w = some r := by
  obtain ⟨s, m, p, h1, h2, rfl⟩ := units_inv hx; obtain ⟨t, n, q, h3, h4, h5⟩ := opp_read hy; unfold sub; rw [h1, h3]; refine ⟨_, rfl, ?_⟩
  have e1 : sg s (m * 2 ^ (p - f.leastPlace).toNat) = sg s (m * 2 ^ (p - min p q).toNat) * ((2 ^ (min p q - f.leastPlace).toNat : Nat) : Int) := by
    rw [← sg_mul, Nat.mul_assoc, ← Nat.pow_add]; congr 3; omega
  have e2 : sg t (n * 2 ^ (q - f.leastPlace).toNat) = sg t (n * 2 ^ (q - min p q).toNat) * ((2 ^ (min p q - f.leastPlace).toNat : Nat) : Int) := by
    rw [← sg_mul, Nat.mul_assoc, ← Nat.pow_add]; congr 3; omega
  have hT : (signed s m (p - min p q).toNat + signed t n (q - min p q).toNat) * ((2 ^ (min p q - f.leastPlace).toNat : Nat) : Int) = r := by
    rw [signed_eq, signed_eq, Int.add_mul, ← e1, ← e2, h5, ← h]; omega
  generalize signed s m (p - min p q).toNat + signed t n (q - min p q).toNat = T at hT ⊢
  have hk : T.natAbs * 2 ^ (min p q - f.leastPlace).toNat = r.natAbs := by
    rw [← hT, Int.natAbs_mul, Int.natAbs_natCast]
  rw [write_units (r := r.natAbs) f.leastPlace (by omega) (Int.le_refl _) (by rw [hk, sub_zero_place]; simp) hr hg, ← hk, sg_mul, ← hT]; congr 2; by_cases hT : T = 0
  · rw [if_pos hT]; exact sg_zero_of _ hT
  rw [if_neg hT]; exact sg_neg_of T hT
theorem sub_self_none {x : Nat} (hx : f.units x = none) : f.sub x x = none := by
  unfold sub; rcases units_none hx with ⟨s, h⟩ | ⟨s, t, h⟩ <;> rw [h]
  · cases s <;> rfl
  rfl
theorem toInt_units {x : Nat} {u : Int} (hx : f.units x = some u) (hl : f.leastPlace ≤ 0) : (f.read x).toInt .zero = some (u.tdiv (2 ^ (-f.leastPlace).toNat : Nat)) := by
  obtain ⟨s, m, p, h1, h2, rfl⟩ := units_inv hx; rw [h1]; show some (signed s (Toward.zero.cut s (m <<< p.toNat) (-p).toNat) 0) = _; congr 1; rw [signed_eq, Nat.pow_zero, Nat.mul_one]
  have hcut : Toward.zero.cut s (m <<< p.toNat) (-p).toNat = (m * 2 ^ p.toNat) / 2 ^ (-p).toNat := by
    rw [Nat.shiftLeft_eq]; generalize m * 2 ^ p.toNat = M; unfold Toward.cut; simp only [Nat.one_shiftLeft, Bool.toNat_false, Nat.add_zero]; by_cases hle : (-p).toNat ≤ M.log2 + 2
    · rw [Nat.min_eq_left hle]
    rw [Nat.min_eq_right (by omega)]; have hM : M < 2 ^ (M.log2 + 2) := Nat.lt_trans (Nat.lt_log2_self) (Nat.pow_lt_pow_right (by omega) (by omega)); rw [Nat.div_eq_of_lt hM, Nat.div_eq_of_lt (Nat.lt_of_lt_of_le hM (Nat.pow_le_pow_right (by omega) (by omega)))]
  rw [hcut]
  have hdiv : m * 2 ^ (p - f.leastPlace).toNat / 2 ^ (-f.leastPlace).toNat = m * 2 ^ p.toNat / 2 ^ (-p).toNat := by
    by_cases hp : 0 ≤ p
    · rw [show (p - f.leastPlace).toNat = p.toNat + (-f.leastPlace).toNat by omega, Nat.pow_add, ← Nat.mul_assoc, Nat.mul_div_cancel _ (Nat.two_pow_pos _), show (-p).toNat = 0 by omega]; simp
    rw [show (-f.leastPlace).toNat = (-p).toNat + (p - f.leastPlace).toNat by omega, Nat.pow_add, Nat.mul_div_mul_right _ _ (Nat.two_pow_pos _), show p.toNat = 0 by omega]; simp
  rw [← hdiv]; generalize m * 2 ^ (p - f.leastPlace).toNat = a; unfold sg
  cases s with
  | false => simp
  | true => simp [Int.neg_tdiv]
theorem ofInt_units {n : Int} (hl : f.leastPlace ≤ 0) (hr : f.Rep (n.natAbs * 2 ^ (-f.leastPlace).toNat)) (hg : 0 < f.exponentBits ∧ 0 < f.fractionBits) : f.units (f.write (.number (n < 0) n.natAbs 0)) = some (n * (2 ^ (-f.leastPlace).toNat : Nat)) := by
  rw [write_units (r := n.natAbs * 2 ^ (-f.leastPlace).toNat) f.leastPlace hl (Int.le_refl _) (by rw [sub_zero_place, show (0 - f.leastPlace).toNat = (-f.leastPlace).toNat by omega]; simp) hr hg, sg_mul]; congr 2; by_cases h : n = 0
  · subst h; rfl
  exact sg_neg_of n h
theorem widen_units {x : Nat} {u : Int} (hx : f.units x = some u) (hle : g.leastPlace ≤ f.leastPlace) (hr : g.Rep (u.natAbs * 2 ^ (f.leastPlace - g.leastPlace).toNat)) (hg : 0 < g.exponentBits ∧ 0 < g.fractionBits) : g.units (g.write (f.read x)) = some (u * (2 ^ (f.leastPlace - g.leastPlace).toNat : Nat)) := by
  obtain ⟨s, m, p, h1, h2, rfl⟩ := units_inv hx; rw [h1]; rw [sg_natAbs] at hr; rw [write_units (r := m * 2 ^ (p - f.leastPlace).toNat * 2 ^ (f.leastPlace - g.leastPlace).toNat) g.leastPlace (by omega) (Int.le_refl _) ?_ hr hg, sg_mul]; rw [sub_zero_place, Nat.pow_zero, Nat.mul_one, Nat.mul_assoc, ← Nat.pow_add]; congr 2; omega
theorem floor_units {x : Nat} {u : Int} (hx : f.units x = some u) (hl : f.leastPlace ≤ 0) (hr : f.Rep (u.fdiv (2 ^ (-f.leastPlace).toNat : Nat) * (2 ^ (-f.leastPlace).toNat : Nat)).natAbs) (hg : 0 < f.exponentBits ∧ 0 < f.fractionBits) :
    f.units (f.write ((f.read x).integral .down)) = some (u.fdiv (2 ^ (-f.leastPlace).toNat : Nat) * (2 ^ (-f.leastPlace).toNat : Nat)) := by
  obtain ⟨s, m, p, h1, h2, rfl⟩ := units_inv hx; rw [h1]; show f.units (f.write (.number s (Toward.down.cut s (m <<< p.toNat) (-p).toNat) 0)) = _
  have hcut : sg s (Toward.down.cut s (m <<< p.toNat) (-p).toNat) = (sg s (m * 2 ^ (p - f.leastPlace).toNat)).fdiv (2 ^ (-f.leastPlace).toNat : Nat) := by
    have key : ∀ (M d : Nat), sg s (Toward.down.cut s M d) = (sg s M).fdiv (2 ^ d : Nat) := by
      intro M d
      have hsmall : Toward.down.cut s M d = M / 2 ^ d + (s && decide (M % 2 ^ d ≠ 0)).toNat := by
        unfold Toward.cut; simp only [Nat.one_shiftLeft]; by_cases hle : d ≤ M.log2 + 2
        · rw [Nat.min_eq_left hle]; congr 2; cases s <;> first | rfl | (by_cases hz : M % 2 ^ d = 0 <;> simp [hz])
        rw [Nat.min_eq_right (by omega)]; have hM : M < 2 ^ (M.log2 + 2) := Nat.lt_trans (Nat.lt_log2_self) (Nat.pow_lt_pow_right (by omega) (by omega)); have hM2 : M < 2 ^ d := Nat.lt_of_lt_of_le hM (Nat.pow_le_pow_right (by omega) (by omega)); rw [Nat.div_eq_of_lt hM, Nat.div_eq_of_lt hM2, Nat.mod_eq_of_lt hM, Nat.mod_eq_of_lt hM2]; congr 2; cases s <;> first | rfl | (by_cases hz : M = 0 <;> simp [hz])
      rw [hsmall]; have hp : 0 < 2 ^ d := Nat.two_pow_pos d; generalize 2 ^ d = D at hp; unfold sg
      cases s with
      | false =>
        simp only [Bool.false_and, Bool.toNat_false, Nat.add_zero, Bool.false_eq_true, if_false]
        rw [Int.fdiv_eq_ediv_of_nonneg _ (by omega)]; rfl
      | true =>
        simp only [Bool.true_and, if_true]; rw [Int.fdiv_eq_ediv_of_nonneg _ (by omega)]; have hd := Nat.div_add_mod M D; have hm := Nat.mod_lt M hp; by_cases hz : M % D = 0
        · rw [show decide (M % D ≠ 0) = false by simpa using hz]; rw [Bool.toNat_false, Nat.add_zero]; refine (Int.ediv_eq_of_eq_mul_left (by omega) ?_).symm
          have : M = D * (M / D) := by omega
          have h3 : ((M : Nat) : Int) = (D : Int) * ((M / D : Nat) : Int) := by rw [← Int.natCast_mul, ← this]
          rw [h3, Int.neg_mul, Int.mul_comm]
        rw [show decide (M % D ≠ 0) = true by simpa using hz]; rw [Bool.toNat_true]
        have h3 : ((M : Nat) : Int) = (D : Int) * ((M / D : Nat) : Int) + ((M % D : Nat) : Int) := by rw [← Int.natCast_mul, ← Int.natCast_add, hd]
        have h4 : (-(M : Int)) = ((D : Int) - ((M % D : Nat) : Int)) + (D : Int) * (-(((M / D + 1 : Nat)) : Int)) := by
          rw [h3, Int.natCast_add, Int.mul_neg, Int.mul_add]; simp; omega
        rw [h4, Int.add_mul_ediv_left _ _ (by omega), Int.ediv_eq_zero_of_lt (by omega) (by omega)]; omega
    rw [key, Nat.shiftLeft_eq]; by_cases hp : 0 ≤ p
    · rw [show (p - f.leastPlace).toNat = p.toNat + (-f.leastPlace).toNat by omega, Nat.pow_add, ← Nat.mul_assoc, show (-p).toNat = 0 by omega, sg_mul s (m * 2 ^ p.toNat)]
      have hq : (0 : Int) < ((2 ^ (-f.leastPlace).toNat : Nat) : Int) := by have := Nat.two_pow_pos (-f.leastPlace).toNat; omega
      rw [Int.mul_fdiv_cancel _ (by omega)]; simp
    rw [show (-f.leastPlace).toNat = (-p).toNat + (p - f.leastPlace).toNat by omega, Nat.pow_add, show p.toNat = 0 by omega, Nat.pow_zero, Nat.mul_one, sg_mul s m, Int.natCast_mul]
    have hq : (0 : Int) < ((2 ^ (p - f.leastPlace).toNat : Nat) : Int) := by have := Nat.two_pow_pos (p - f.leastPlace).toNat; omega
    have hq2 : (0 : Int) < ((2 ^ (-p).toNat : Nat) : Int) := by have := Nat.two_pow_pos (-p).toNat; omega
    rw [Int.fdiv_eq_ediv_of_nonneg _ (by omega), Int.fdiv_eq_ediv_of_nonneg _ (by have := Int.mul_pos hq2 hq; omega), Int.mul_ediv_mul_of_pos_left _ _ hq]
  rw [← hcut] at hr ⊢; rw [← sg_mul, sg_natAbs] at hr; rw [write_units (r := Toward.down.cut s (m <<< p.toNat) (-p).toNat * 2 ^ (-f.leastPlace).toNat) f.leastPlace hl (Int.le_refl _) (by rw [sub_zero_place, show (0 - f.leastPlace).toNat = (-f.leastPlace).toNat by omega]; simp) hr hg, sg_mul]
end Format
end Ieee
namespace Ieee
open Format
theorem sng_good : 0 < single.exponentBits ∧ 0 < single.fractionBits := by decide
theorem dbl_good : 0 < double.exponentBits ∧ 0 < double.fractionBits := by decide
theorem units_repr {f : Format} {x : Nat} {u : Int} (h : f.units x = some u) : ∃ c k, u.natAbs = c * 2 ^ k ∧ c < 2 ^ (f.fractionBits + 1) ∧ (c = 0 → k = 0) := by
  obtain ⟨s, m, p, h1, h2, rfl⟩ := units_inv h
  have hm : m < 2 ^ (f.fractionBits + 1) := by
    have hb : 0 < f.binade := Nat.two_pow_pos _
    have h2b : 2 ^ (f.fractionBits + 1) = 2 * f.binade := by rw [Nat.pow_succ, Nat.mul_comm]; rfl
    rw [h2b]; unfold Format.read at h1; dsimp only at h1; split at h1
    · cases h1; omega
    split at h1
    · cases h1; have := Nat.mod_lt (x % f.signWeight) hb; omega
    split at h1 <;> cases h1
  rw [sg_natAbs]; by_cases h0 : m = 0
  · exact ⟨0, 0, by rw [h0]; simp, Nat.two_pow_pos _, fun _ => rfl⟩
  exact ⟨m, _, rfl, hm, fun e => absurd e h0⟩
theorem rep_of {f g : Format} {x : Nat} {u : Int} (h : f.units x = some u) (hle : f.fractionBits ≤ g.fractionBits) {B j : Nat} (hB : u.natAbs ≤ 2 ^ B) (hj : B + j + 2 ≤ 2 ^ g.exponentBits - 1) : g.Rep (u.natAbs * 2 ^ j) := by
  obtain ⟨c, k, h1, h2, h3⟩ := units_repr h; by_cases h0 : c = 0
  · refine ⟨0, 0, by rw [h1, h0]; simp, Nat.two_pow_pos _, by omega⟩
  refine ⟨c, k + j, by rw [h1, Nat.mul_assoc, ← Nat.pow_add], Nat.lt_of_lt_of_le h2 (Nat.pow_le_pow_right (by omega) (by omega)), ?_⟩
  have hk : k ≤ B := by
    have : 2 ^ k ≤ 2 ^ B := by
      refine Nat.le_trans ?_ hB; rw [h1]; exact Nat.le_mul_of_pos_left _ (by omega)
    exact (Nat.pow_le_pow_iff_right (by omega)).1 this
  omega
theorem rep_small {f : Format} {n j : Nat} (hn : n < 2 ^ (f.fractionBits + 1)) (hj : j + 2 ≤ 2 ^ f.exponentBits - 1) : f.Rep (n * 2 ^ j) := ⟨n, j, rfl, hn, hj⟩
abbrev u32 (x : Nat) : Option Int := single.units x
abbrev u64 (x : Nat) : Option Int := double.units x
theorem m149 : (2 ^ (-single.leastPlace).toNat : Nat) = 713623846352979940529142984724747568191373312 := by decide
def lvlE (x : Nat) : Int := match u32 x with
  | none => 1
  | some u => if (-45671926166590716193865151022383844364247891968 ≤ u ∧ u ≤ 45671926166590716193865151022383844364247891968) ∧ u % 44601490397061246283071436545296723011960832 = 0 then 0 else 3
def sxE (x : Nat) : Int := match u32 x with
  | none => 0
  | some u => u / 44601490397061246283071436545296723011960832
theorem lvl_ok {x : Nat} (h : lvlE x = 0) : u32 x = some (sxE x * 44601490397061246283071436545296723011960832) ∧ -1024 ≤ sxE x ∧ sxE x ≤ 1024 := by
  unfold lvlE at h; split at h
  · cases h
  rename_i u hu; split at h
  · rename_i hc; unfold sxE; rw [hu]; simp only; have hd := Int.mul_ediv_add_emod u 44601490397061246283071436545296723011960832; refine ⟨?_, by omega, by omega⟩; congr 1; omega
  cases h
theorem mul16 {x w : Nat} {u : Int} (hw : u32 w = some (16 * 713623846352979940529142984724747568191373312)) (h : u32 x = some u) (h0 : u.natAbs ≤ 45671926166590716193865151022383844364247891968) : ∃ r, single.mul x w = some r ∧ u32 r = some (16 * u) := by
  refine mul_exact h hw (by decide) ?_ ?_ sng_good
  · rw [m149, Int.mul_comm 16 u, Int.mul_assoc]; rfl
  have := rep_of (g := single) h (Nat.le_refl _) (B := 155) (j := 4) (Nat.le_trans h0 (by decide)) (by decide)
  rwa [show (16 * u).natAbs = u.natAbs * 2 ^ 4 by omega]
theorem mul16' {x w : Nat} {u : Int} (hw : u32 w = some (16 * 713623846352979940529142984724747568191373312)) (h : u32 x = some u) (h0 : u.natAbs ≤ 45671926166590716193865151022383844364247891968) : ∃ r, single.mul w x = some r ∧ u32 r = some (16 * u) := by
  refine mul_exact hw h (by decide) ?_ ?_ sng_good
  · rw [m149, Int.mul_assoc, Int.mul_comm _ u, ← Int.mul_assoc]; rfl
  have := rep_of (g := single) h (Nat.le_refl _) (B := 155) (j := 4) (Nat.le_trans h0 (by decide)) (by decide)
  rwa [show (16 * u).natAbs = u.natAbs * 2 ^ 4 by omega]
theorem toInt32 {x : Nat} {u : Int} (h : u32 x = some u) : (single.read x).toInt .zero = some (u.tdiv 713623846352979940529142984724747568191373312) := by
  rw [toInt_units h (by decide), m149]; rfl
theorem ofInt32 {n : Int} (h : n.natAbs < 2 ^ 24) : u32 (single.write (.number (n < 0) n.natAbs 0)) = some (n * 713623846352979940529142984724747568191373312) := by
  rw [u32, ofInt_units (by decide) (rep_small h (by decide)) sng_good, m149]; rfl
theorem sub_self32 {x : Nat} {u : Int} (hx : u32 x = some u) : ∃ r, single.sub x x = some r ∧ u32 r = some 0 := sub_exact hx hx (by omega) ⟨0, 0, rfl, by decide, by decide⟩ sng_good
def kW : Nat := 2 ^ (single.leastPlace - double.leastPlace).toNat
theorem kW_pos : 0 < kW := Nat.two_pow_pos _
def e300 : Nat := 300
theorem widen {x : Nat} {u : Int} (hx : u32 x = some u) (h0 : u.natAbs ≤ 2 ^ e300) : u64 (double.write (single.read x)) = some (u * (kW : Nat)) := by
  have := widen_units (g := double) hx (by decide) (rep_of (g := double) hx (by decide) (B := e300) h0 (by decide +kernel)) dbl_good; rw [u64, this]; rfl
end Ieee
namespace Ieee
open Format
theorem n1074 : (2 ^ (-double.leastPlace).toNat : Nat) = 713623846352979940529142984724747568191373312 * kW := by decide +kernel
theorem u32_bound {x : Nat} {u : Int} (h : u32 x = some u) : u.natAbs ≤ 2 ^ e300 := by
  obtain ⟨s, m, p, h1, h2, rfl⟩ := units_inv h; rw [sg_natAbs]; have hb : 0 < single.binade := Nat.two_pow_pos _
  have eb : single.binade = 8388608 := by decide
  have ei : single.infRung = 2139095040 := by decide
  have hm : m < 2 ^ 24 ∧ (p - single.leastPlace).toNat ≤ 253 := by
    unfold Format.read at h1; dsimp only at h1; split at h1
    · cases h1; omega
    split at h1
    · rename_i h3 h4; cases h1; have h5 := Nat.mod_lt (x % single.signWeight) hb; rw [eb] at h5 ⊢; rw [ei] at h4; omega
    split at h1 <;> cases h1
  have h3 : 2 ^ (p - single.leastPlace).toNat ≤ 2 ^ 253 := Nat.pow_le_pow_right (by omega) hm.2; have h4 : m * 2 ^ (p - single.leastPlace).toNat ≤ 2 ^ 24 * 2 ^ 253 := Nat.mul_le_mul (by omega) h3; exact Nat.le_trans h4 (by decide +kernel)
theorem mul16w {x y w : Nat} {u : Int} (hw : u64 w = some ((16 : Int) * ((713623846352979940529142984724747568191373312 * kW : Nat) : Int))) (hx : u32 x = some u) (hy : u64 y = some (u * (kW : Nat))) (h0 : u.natAbs ≤ 2 ^ e300) : ∃ r, double.mul w y = some r ∧ u64 r = some (16 * (u * (kW : Nat))) := by
  refine mul_exact hw hy (by decide) ?_ ?_ dbl_good
  · rw [n1074, Int.mul_assoc, Int.mul_comm _ (u * (kW : Nat)), ← Int.mul_assoc]
  have := rep_of (g := double) hx (by decide) (B := e300) (j := 4 + (single.leastPlace - double.leastPlace).toNat) h0 (by decide +kernel); rw [Nat.pow_add, ← Nat.mul_assoc] at this
  rwa [show (16 * (u * (kW : Nat))).natAbs = u.natAbs * 2 ^ 4 * kW by rw [Int.natAbs_mul, Int.natAbs_mul, Int.natAbs_natCast, ← Nat.mul_assoc, Nat.mul_comm u.natAbs]; rfl]
theorem floor_mul {a k : Int} (hk : 0 < k) : (a * k).fdiv (713623846352979940529142984724747568191373312 * k) = a / 713623846352979940529142984724747568191373312 := by
  rw [Int.fdiv_eq_ediv_of_nonneg _ (by omega), Int.mul_ediv_mul_of_pos_left _ _ hk]
theorem kW_int : (0 : Int) < (kW : Int) := by have := kW_pos; omega
theorem cast_mk : ((713623846352979940529142984724747568191373312 * kW : Nat) : Int) = 713623846352979940529142984724747568191373312 * (kW : Int) := by rw [Int.natCast_mul]; rfl
theorem floorw {r : Nat} {u : Int} (hr : u64 r = some (16 * (u * (kW : Nat)))) (h0 : -45671926166590716193865151022383844364247891968 ≤ u ∧ u ≤ 45671926166590716193865151022383844364247891968) :
    u64 (double.write ((double.read r).integral .down)) = some (16 * u / 713623846352979940529142984724747568191373312 * (713623846352979940529142984724747568191373312 * kW : Nat)) := by
  have hf : (16 * (u * (kW : Nat))).fdiv (2 ^ (-double.leastPlace).toNat : Nat) = 16 * u / 713623846352979940529142984724747568191373312 := by
    rw [n1074, cast_mk, ← Int.mul_assoc]; exact floor_mul kW_int
  have := floor_units hr (by decide) (by
    rw [hf, Int.natAbs_mul, Int.natAbs_natCast]; refine rep_small ?_ (by decide)
    have : (16 * u / 713623846352979940529142984724747568191373312).natAbs < 2000 := by omega
    exact Nat.lt_of_lt_of_le this (by decide)) dbl_good
  rw [hf, n1074] at this; exact this
theorem whole_iff {u : Int} : (16 * (u * (kW : Nat)) = 16 * u / 713623846352979940529142984724747568191373312 * (713623846352979940529142984724747568191373312 * kW : Nat)) ↔ u % 44601490397061246283071436545296723011960832 = 0 := by
  rw [cast_mk, ← Int.mul_assoc, ← Int.mul_assoc]; have hk := kW_int; constructor
  · intro h; have := Int.eq_of_mul_eq_mul_right (by omega) h; omega
  intro h; congr 1; omega
theorem whole_iff32 {u : Int} (h0 : -45671926166590716193865151022383844364247891968 ≤ u ∧ u ≤ 45671926166590716193865151022383844364247891968) : ((16 * u).tdiv 713623846352979940529142984724747568191373312 * 713623846352979940529142984724747568191373312 = 16 * u) ↔ u % 44601490397061246283071436545296723011960832 = 0 := by
  have h1 := Int.mul_tdiv_add_tmod (16 * u) 713623846352979940529142984724747568191373312; have h2 : (16 * u).tmod 713623846352979940529142984724747568191373312 = 0 ↔ (713623846352979940529142984724747568191373312 : Int) ∣ 16 * u := (Int.dvd_iff_tmod_eq_zero).symm; constructor
  · intro h; have h3 : (713623846352979940529142984724747568191373312 : Int) ∣ 16 * u := h2.1 (by omega); omega
  intro h
  have h3 : (713623846352979940529142984724747568191373312 : Int) ∣ 16 * u := by omega
  have := h2.2 h3; omega
theorem sx_tdiv {u n : Int} (h : u = n * 44601490397061246283071436545296723011960832) : (16 * u).tdiv 713623846352979940529142984724747568191373312 = n := by
  rw [h, show 16 * (n * 44601490397061246283071436545296723011960832) = n * 713623846352979940529142984724747568191373312 by omega, Int.mul_tdiv_cancel _ (by decide)]
end Ieee
namespace Go.Fs
variable {P : Program} {h : Heap} {S : List Nat} {σ : Sto} {t : Tr} {fl : VL} {x y : Operand} {T T' : TypeId} {v pv : PV} {k k' : FloatKind} {p q : Nat}
def fcmpE (b : BinOp) (k : FloatKind) (p q : Nat) : Bool := match b with
  | .eql => k.format.order p q == some .eq
  | .neq => k.format.order p q != some .eq
  | .lss => k.format.order p q == some .lt
  | .leq => k.format.order p q == some .lt || k.format.order p q == some .eq
  | .gtr => k.format.order p q == some .gt
  | .geq => k.format.order p q == some .gt || k.format.order p q == some .eq
  | _ => false
def isCmpF : BinOp → Bool
  | .eql | .neq | .lss | .leq | .gtr | .geq => true
  | _ => false
theorem CalmV.fcmp (b : BinOp) (hb : isCmpF b = true := by rfl) (hx : evV fl x = some (.v (.flt k) p) := by rfl) (hy : evV fl y = some (.v (.flt k) q) := by rfl) : CalmV P fl σ (.binOp b T x y T') (.v .bool (fcmpE b k p q)) :=
  .bin hx hy fun h S a c ha hc => by
    obtain rfl := RepV.flt ha; obtain rfl := RepV.flt hc; refine ⟨.bool (fcmpE b k p q), RepV.ofBool _, rfl, ?_⟩; cases b <;> first | (cases hb; done) | skip
    all_goals simp [purely, eqGuard, binOp, Op.floatCmp, fcmpE, runPure_bind, runPure_pure, runPure, af, af1, af0]
def fopE (b : BinOp) (k : FloatKind) (p q : Nat) : Option Nat := match b with
  | .add => k.format.add p q
  | .sub => k.format.sub p q
  | .mul => k.format.mul p q
  | .quo => k.format.div p q
  | _ => none
theorem CalmV.fop {b : BinOp} {r : Nat} (hr : fopE b k p q = some r) (hx : evV fl x = some (.v (.flt k) p) := by rfl) (hy : evV fl y = some (.v (.flt k) q) := by rfl) : CalmV P fl σ (.binOp b T x y T') (.v (.flt k) r) :=
  .bin hx hy fun h S a c ha hc => by
    obtain rfl := RepV.flt ha; obtain rfl := RepV.flt hc; refine ⟨.float k r, RepV.ofFlt _ _, rfl, ?_⟩; cases b <;> first | (cases hr; done) | skip
    all_goals
      simp only [fopE] at hr; simp [purely, eqGuard, binOp, Op.floatArith, hr, runPure_bind, runPure_pure, runPure, af, af1, af0]
theorem CalmV.fnan {b : BinOp} (hn : nanOp b k p q = true) (hx : evV fl x = some (.v (.flt k) p) := by rfl) (hy : evV fl y = some (.v (.flt k) q) := by rfl) : CalmV P fl σ (.binOp b T x y T') (.raw (nanJ k)) :=
  ⟨rfl, fun h S t hs _ => by
    have ha := RepV.flt (hs x (by simp [Op.operands]) _ hx : RepV h S (.flt k) _ p); have hc := RepV.flt (hs y (by simp [Op.operands]) _ hy : RepV h S (.flt k) _ q); refine ⟨nanJ k, rfl, fun _ _ _ _ _ H => ?_⟩; show (if (af (evalO t x) && af (evalO t y)) = true then ((purely P (do eqGuard b T x y (evalO t x) (evalO t y); binOp b T (evalO t x) (evalO t y))).or (fsNanA b (evalO t x) (evalO t y))).map _ else _) = _; rw [ha, hc, if_pos (show (af (Value.float k p) && af (Value.float k q)) = true from rfl)]
    have h1 : purely P (do eqGuard b T x y (.float k p) (.float k q); binOp b T (.float k p) (.float k q)) = none := by
      unfold nanOp at hn; split at hn
      all_goals first | (cases hn; done) | skip
      all_goals
        rw [Option.isNone_iff_eq_none] at hn; simp [purely, eqGuard, binOp, Op.floatArith, hn, runPure_bind, runPure_pure, runPure, choose, Sem.bind]
        exact fun a ha => by have h0 : (none : Option Value) = some a := ha; cases h0
    have h2 : fsNanA b (.float k p) (.float k q) = some (nanJ k) := by
      unfold fsNanA; simp [hn]
    rw [h1, h2]; rfl⟩
theorem CalmV.fnancmp {b : BinOp} {r : Bool} (hr : nanCmp b = some r) (hx : evV fl x = some (.raw (nanJ k)) := by rfl) (hy : evV fl y = some (.v (.flt k) q) := by rfl) : CalmV P fl σ (.binOp b T x y T') (.v .bool r) :=
  ⟨rfl, fun h S t hs _ => by
    have ha : evalO t x = nanJ k := hs x (by simp [Op.operands]) _ hx; have hc := RepV.flt (hs y (by simp [Op.operands]) _ hy : RepV h S (.flt k) _ q); refine ⟨.bool r, RepV.ofBool _, fun _ _ _ _ _ H => ?_⟩; show (if (af (evalO t x) && af (evalO t y)) = true then _ else ((fsNil P b T (evalO t x) (evalO t y)).or (fsNanC b (evalO t x) (evalO t y))).map _) = _; rw [ha, hc, if_neg (by simp [af, af1, af0, nanJ])]
    have h2 : fsNanC b (nanJ k) (.float k q) = some r := by
      simp [fsNanC, fkind, nanJ, isNanJ, hr]
    rw [h2]; rfl⟩
theorem CalmV.fnancmp2 {b : BinOp} {r : Bool} (hr : nanCmp b = some r) (hx : evV fl x = some (.raw (nanJ k)) := by rfl) (hy : evV fl y = some (.raw (nanJ k)) := by rfl) : CalmV P fl σ (.binOp b T x y T') (.v .bool r) :=
  ⟨rfl, fun h S t hs _ => by
    have ha : evalO t x = nanJ k := hs x (by simp [Op.operands]) _ hx; have hc : evalO t y = nanJ k := hs y (by simp [Op.operands]) _ hy; refine ⟨.bool r, RepV.ofBool _, fun _ _ _ _ _ H => ?_⟩; show (if (af (evalO t x) && af (evalO t y)) = true then _ else ((fsNil P b T (evalO t x) (evalO t y)).or (fsNanC b (evalO t x) (evalO t y))).map _) = _; rw [ha, hc, if_neg (by simp [af, af1, af0, nanJ])]
    have h2 : fsNanC b (nanJ k) (nanJ k) = some r := by
      simp [fsNanC, fkind, nanJ, isNanJ, hr]
    rw [h2]; rfl⟩
def convFB (P : Program) (s D : TypeId) (k2 : FloatKind) : Bool := (P.underlying s).isSome && (match P.underlying D with | some (.float k) => decide (k = k2) | _ => false)
theorem CalmV.cvIF {n : Int} {s D : TypeId} {κ : IntKind} (k2 : FloatKind) (hx : evV fl x = some (.v (.int κ) n) := by rfl) (hb : convFB P s D k2 = true := by kernel_rfl) : CalmV P fl σ (.convert s D x) (.v (.flt k2) (k2.nearest n)) :=
  .conv hx fun h S a ha => by
    obtain rfl := RepV.int ha; unfold convFB at hb; obtain ⟨b1, b2⟩ := band hb; obtain ⟨td, hs⟩ := Option.isSome_iff_exists.1 b1; split at b2
    · rename_i k3 hd; obtain rfl : k3 = k2 := of_decide_eq_true b2; refine ⟨.float k3 (k3.nearest n), RepV.ofFlt _ _, rfl, ?_⟩; unfold purely convert; simp only [runPure_bind, runPure_underlying hs, runPure_underlying hd, Option.bind_some]; show (runPure P (Conv.intToFloat k3 n)).bind _ = _; simp only [Conv.intToFloat, runPure_pure, Option.bind_some]; rfl
    cases b2
theorem CalmV.cvFI {n : Int} {s D : TypeId} (hn : (k.decode p).toInt .zero = some n) (hf : fit n) (hx : evV fl x = some (.v (.flt k) p) := by rfl) (hb : convB P s D .i64 = true := by kernel_rfl) : CalmV P fl σ (.convert s D x) (.v (.int .i64) n) :=
  .conv hx fun h S a ha => by
    obtain rfl := RepV.flt ha; unfold convB at hb; obtain ⟨b1, b2⟩ := band hb; obtain ⟨td, hs⟩ := Option.isSome_iff_exists.1 b1; split at b2
    · rename_i k3 hd; obtain rfl : k3 = .i64 := of_decide_eq_true b2; refine ⟨.int .i64 n, RepV.ofInt _ _, rfl, ?_⟩; unfold purely convert; simp only [runPure_bind, runPure_underlying hs, runPure_underlying hd, Option.bind_some]; show (runPure P (Conv.floatToInt k p .i64)).bind _ = _; have hr : IntKind.i64.min ≤ n ∧ n ≤ IntKind.i64.max := ⟨hf.1, hf.2⟩; simp only [Conv.floatToInt, hn, hr, and_self, if_true, runPure_pure, Option.bind_some]; rfl
    cases b2
theorem CalmV.cvFF {s D : TypeId} (k2 : FloatKind) (hne : ¬ k = k2) {u : Int} (hu : k.format.units p = some u) {r : Nat} {u' : Int} (hr : k2.format.write (k.format.read p) = r) (hr2 : k2.format.units r = some u') (hx : evV fl x = some (.v (.flt k) p) := by rfl) (hb : convFB P s D k2 = true := by kernel_rfl) : CalmV P fl σ (.convert s D x) (.v (.flt k2) r) :=
  .conv hx fun h S a ha => by
    obtain rfl := RepV.flt ha; unfold convFB at hb; obtain ⟨b1, b2⟩ := band hb; obtain ⟨td, hs⟩ := Option.isSome_iff_exists.1 b1; split at b2
    · rename_i k3 hd; obtain rfl : k3 = k2 := of_decide_eq_true b2; refine ⟨.float k3 r, RepV.ofFlt _ _, rfl, ?_⟩; unfold purely convert; simp only [runPure_bind, runPure_underlying hs, runPure_underlying hd, Option.bind_some]; show (runPure P (Conv.floatToFloat k p k3)).bind _ = _; obtain ⟨sg, m, pl, h1, _, _⟩ := Ieee.Format.units_inv hu; have h1' : k.decode p = .number sg m pl := h1
      have h2 : k3.encode (.number sg m pl) = r := by rw [← hr, h1]; rfl
      obtain ⟨sg', m', pl', h3, _, _⟩ := Ieee.Format.units_inv hr2; have h3' : k3.decode r = .number sg' m' pl' := h3; simp only [Conv.floatToFloat, hne, if_false, h1', h2, h3', Ieee.Datum.isInfinity, Bool.false_eq_true, runPure_pure, Option.bind_some]; rfl
    cases b2
theorem CalmV.cvInf {s D : TypeId} {sg : Bool} (k2 : FloatKind) (hne : ¬ k = k2) (hu : k.format.read p = .infinity sg) (hx : evV fl x = some (.v (.flt k) p) := by rfl) (hb : convFB P s D k2 = true := by kernel_rfl) : CalmV P fl σ (.convert s D x) (.v (.flt k2) (k2.format.write (.infinity sg))) :=
  .conv hx fun h S a ha => by
    obtain rfl := RepV.flt ha; unfold convFB at hb; obtain ⟨b1, b2⟩ := band hb; obtain ⟨td, hs⟩ := Option.isSome_iff_exists.1 b1; split at b2
    · rename_i k3 hd; obtain rfl : k3 = k2 := of_decide_eq_true b2; refine ⟨.float k3 (k3.encode (.infinity sg)), RepV.ofFlt _ _, rfl, ?_⟩; unfold purely convert; simp only [runPure_bind, runPure_underlying hs, runPure_underlying hd, Option.bind_some]; show (runPure P (Conv.floatToFloat k p k3)).bind _ = _; have h1' : k.decode p = .infinity sg := hu; simp only [Conv.floatToFloat, hne, if_false, h1', runPure_pure, Option.bind_some]; rfl
    cases b2
theorem CalmV.cvNan {s D : TypeId} {sg : Bool} {m : Nat} (k2 : FloatKind) (hne : ¬ k = k2) (hu : k.format.read p = .nan sg m) (hx : evV fl x = some (.v (.flt k) p) := by rfl) (hb : convFB P s D k2 = true := by kernel_rfl) : CalmV P fl σ (.convert s D x) (.raw (nanJ k2)) :=
  ⟨rfl, fun h S t hs _ => by
    have ha := RepV.flt (hs x (by simp [Op.operands]) _ hx : RepV h S (.flt k) _ p); refine ⟨nanJ k2, rfl, fun _ _ _ _ _ H => ?_⟩; show (if af (evalO t x) = true then ((purely P (convert s D (evalO t x))).or (fsNanV P s D (evalO t x))).map _ else _) = _; rw [ha, if_pos (show af (Value.float k p) = true from rfl)]; unfold convFB at hb; obtain ⟨b1, b2⟩ := band hb; obtain ⟨td, hs⟩ := Option.isSome_iff_exists.1 b1; split at b2
    · rename_i k3 hd; obtain rfl : k3 = k2 := of_decide_eq_true b2; have h1' : k.decode p = .nan sg m := hu
      have e1 : purely P (convert s D (.float k p)) = none := by
        unfold purely convert; simp only [runPure_bind, runPure_underlying hs, runPure_underlying hd, Option.bind_some]; show (runPure P (Conv.floatToFloat k p k3)).bind _ = _; simp [Conv.floatToFloat, hne, h1', choose, runPure_bind, runPure]
        try exact fun a ha => by have h0 : (none : Option Value) = some a := ha; cases h0
      have e2 : fsNanV P s D (.float k p) = some (nanJ k3) := by
        simp [fsNanV, hs, hd, hne, h1', Ieee.Datum.isNaN]
      rw [e1, e2]; rfl
    cases b2⟩
theorem compare_int (u v : Int) : compare u v = if u < v then .lt else if u = v then .eq else .gt := rfl
theorem fcmp_units {u v : Int} (hp : k.format.units p = some u) (hq : k.format.units q = some v) :
    fcmpE .eql k p q = decide (u = v) ∧ fcmpE .neq k p q = decide (u ≠ v) ∧ fcmpE .lss k p q = decide (u < v) ∧ fcmpE .leq k p q = decide (u ≤ v) ∧ fcmpE .gtr k p q = decide (v < u) ∧ fcmpE .geq k p q = decide (v ≤ u) := by
  have ho : k.format.order p q = some (compare u v) := Ieee.Format.order_units hp hq; simp only [fcmpE, ho, compare_int]; by_cases h1 : u < v
  · have : ¬ u = v := by omega
    simp [h1, this]; omega
  by_cases h2 : u = v
  · subst h2; simp
  simp [h1, h2]; omega
end Go.Fs
namespace Go.Fs
variable {P : Program} {orc : FuncId → List Value → Heap → Option (Value × Heap)} {rnd : Option Nat} {h h' h0 h1 h2 : Heap} {S S' S0 B G : List Nat} {σ σ' : Sto} {t t' : Tr} {ms : List Nat} {fl : VL} {ops : Array Oper} {n : Nat} {l : List Oper} {K : VL → Sto → Prop} {Q : Ex → VL → Sto → Prop}
  {d : Tmp} {ty : TypeId} {pos : String} {after : Array Edge} {op : Op} {v pv : PV} {g : Option (Nat × Bool)} {x y z : Operand} {T T' e : TypeId} {κ ν : Ty} {w : Value}
section
variable {α β : Type} [DecidableEq α]
def mget : List (α × β) → α → Option β
  | [], _ => none
  | (k, v) :: r, x => if x = k then some v else mget r x
def mset : List (α × β) → α → β → List (α × β)
  | [], x, y => [(x, y)]
  | (k, v) :: r, x, y => if x = k then (x, y) :: r else (k, v) :: mset r x y
def mix : List (α × β) → α → Nat → Option Nat
  | [], _, _ => none
  | (k, _) :: r, x, i => if x = k then some i else mix r x (i + 1)
theorem mix_get : ∀ {l : List (α × β)} {x : α} {i : Nat}, match mix l x i with
    | none => mget l x = none
    | some j => i ≤ j ∧ ∃ (hj : j - i < l.length), (l[j - i]).1 = x ∧ mget l x = some (l[j - i]).2
  | [], _, _ => rfl
  | (k, v) :: r, x, i => by
    unfold mix mget; by_cases hk : x = k
    · rw [if_pos hk, if_pos hk]
      have e0 : i - i = 0 := by omega
      refine ⟨Nat.le_refl _, by rw [e0]; simp, ?_, ?_⟩
      · simp only [e0]; exact hk.symm
      simp only [e0]; rfl
    rw [if_neg hk, if_neg hk]; have := mix_get (l := r) (x := x) (i := i + 1); split at this
    · exact this
    rename_i j hj; obtain ⟨h1, h2, h3, h4⟩ := this
    have e1 : j - i = (j - (i + 1)) + 1 := by omega
    refine ⟨by omega, by rw [e1]; simpa using h2, ?_, ?_⟩
    · simp only [e1, List.getElem_cons_succ]; exact h3
    simp only [e1, List.getElem_cons_succ]; exact h4
theorem mix_set : ∀ {l : List (α × β)} {x : α} {y : β} {i : Nat}, match mix l x i with
    | none => mset l x y = l ++ [(x, y)]
    | some j => i ≤ j ∧ mset l x y = l.set (j - i) (x, y)
  | [], _, _, _ => rfl
  | (k, v) :: r, x, y, i => by
    unfold mix mset; by_cases hk : x = k
    · rw [if_pos hk, if_pos hk]
      have e0 : i - i = 0 := by omega
      exact ⟨Nat.le_refl _, by rw [e0]; rfl⟩
    rw [if_neg hk, if_neg hk]; have := mix_set (l := r) (x := x) (y := y) (i := i + 1); split at this
    · rw [this]; rfl
    rename_i j hj; obtain ⟨h1, h2⟩ := this
    have e1 : j - i = (j - (i + 1)) + 1 := by omega
    exact ⟨by omega, by rw [e1, List.set_cons_succ, h2]⟩
end
structure KeyT (P : Program) (K : TypeId) (κ : Ty) : Prop where
  flat : κ.isFlat = true
  und : ∃ td, P.underlying K = some td ∧ ((∀ {h : Heap} {S : List Nat} (u v : Value) (x y : κ.den) (inst : Decidable (x = y)), RepV h S κ u x → RepV h S κ v y → Instr.sameNow td u v = some (@decide (x = y) inst)) ∨
    ((∀ u v, Instr.sameNow td u v = none) ∧ ∀ {h : Heap} {S : List Nat} (u v : Value) (x y : κ.den) (inst : Decidable (x = y)), RepV h S κ u x → RepV h S κ v y → runPure P (Op.equal K u v) = some (@decide (x = y) inst)))
  chk : ∀ {h : Heap} {S : List Nat} (em : Bool) (u : Value) (x : κ.den), RepV h S κ u x → (runPure P (Instr.checkKey em 10000 K u)).isSome = true
  bits : ∀ {h : Heap} {S : List Nat} (u : Value) (x : κ.den), RepV h S κ u x → Instr.sameBits 10000 u u = true
theorem keyStr {K : TypeId} (hK : P.underlying K = some .string) : KeyT P K .str where
  flat := rfl
  und := ⟨.string, hK, .inl fun u v x y inst hu hv => by
    rw [hu.str, hv.str]; show some (x == y) = _; congr 1; by_cases h : x = y
    · rw [bytes_beq_t h]; simp [h]
    rw [bytes_beq_f h]; simp [h]⟩
  chk := fun em u x hu => by
    rw [hu.str]; unfold Instr.checkKey; simp only [runPure_bind, runPure_underlying hK, Option.bind_some]; rfl
  bits := fun u x hu => by
    rw [hu.str]; show (x == x) = true; exact bytes_beq_t rfl
structure MapT (P : Program) (T : TypeId) (κ ν : Ty) : Prop where
  key : ∃ K E, P.underlying T = some (.map K E) ∧ KeyT P K κ ∧ ZerT P E ν
def EntR (h : Heap) (S : List Nat) (κ ν : Ty) (es : List MapEntry) (kvs : List (κ.den × ν.den)) : Prop := es.length = kvs.length ∧ ∀ i (hi : i < kvs.length) (hj : i < es.length), RepV h S κ es[i].key kvs[i].1 ∧ RepV h S ν es[i].val kvs[i].2
theorem EntR.tail {e : MapEntry} {es : List MapEntry} {p : κ.den × ν.den} {kvs : List (κ.den × ν.den)} (hE : EntR h S κ ν (e :: es) (p :: kvs)) : (RepV h S κ e.key p.1 ∧ RepV h S ν e.val p.2) ∧ EntR h S κ ν es kvs := by
  obtain ⟨h1, h2⟩ := hE; refine ⟨h2 0 (by simp) (by simp), by simpa using h1, fun i hi hj => ?_⟩; have := h2 (i + 1) (by simpa using hi) (by simpa using hj); simpa using this
theorem find_mix [DecidableEq κ.den] {K : TypeId} {u : Value} {k : κ.den} (hK : KeyT P K κ) (hu : RepV h S κ u k) {es : List MapEntry} {kvs : List (κ.den × ν.den)} (hE : EntR h S κ ν es kvs) : fsFind P K u es = some (mix kvs k 0) := by
  obtain ⟨td, hU, hk⟩ := hK.und; unfold fsFind; rw [hU]; simp only; rcases hk with hk | ⟨hn, hk⟩
  · have key : ∀ (es : List MapEntry) (kvs : List (κ.den × ν.den)) (i : Nat), EntR h S κ ν es kvs → ∃ r, Instr.findNow td u es i = some r ∧ r.map (·.1) = mix kvs k i := by
      intro es
      induction es with
      | nil =>
        intro kvs i hE
        cases kvs with
        | nil => exact ⟨none, rfl, rfl⟩
        | cons p kvs => have := hE.1; simp at this
      | cons e es ih =>
        intro kvs i hE
        cases kvs with
        | nil => have := hE.1; simp at this
        | cons p kvs =>
          obtain ⟨⟨h1, _⟩, h3⟩ := hE.tail; obtain ⟨k', v'⟩ := p; unfold Instr.findNow mix; rw [hk u e.key k k' inferInstance hu h1]; by_cases hkk : k = k'
          · rw [if_pos hkk]; exact ⟨some (i, e.val), by simp [hkk], rfl⟩
          rw [if_neg hkk]; obtain ⟨r, r1, r2⟩ := ih kvs (i + 1) h3; exact ⟨r, by simp [hkk, r1], r2⟩
    obtain ⟨r, r1, r2⟩ := key es kvs 0 hE; rw [r1]; simp only; rw [r2]
  cases es with
  | nil =>
    cases kvs with
    | nil => rfl
    | cons p kvs => have := hE.1; simp at this
  | cons e0 es0 =>
    have hnow : Instr.findNow td u (e0 :: es0) 0 = none := by
      unfold Instr.findNow; rw [hn]
    rw [hnow]; simp only
    have key : ∀ (es : List MapEntry) (kvs : List (κ.den × ν.den)) (i : Nat), EntR h S κ ν es kvs → ∃ r, runPure P (Instr.findAsking K u es i) = some r ∧ r.map (·.1) = mix kvs k i := by
      intro es
      induction es with
      | nil =>
        intro kvs i hE
        cases kvs with
        | nil => exact ⟨none, rfl, rfl⟩
        | cons p kvs => have := hE.1; simp at this
      | cons e es ih =>
        intro kvs i hE
        cases kvs with
        | nil => have := hE.1; simp at this
        | cons p kvs =>
          obtain ⟨⟨h1, _⟩, h3⟩ := hE.tail; obtain ⟨k', v'⟩ := p; unfold Instr.findAsking mix; simp only [runPure_bind, hk u e.key k k' inferInstance hu h1, Option.bind_some]; by_cases hkk : k = k'
          · rw [if_pos hkk]; exact ⟨some (i, e.val), by simp [hkk, runPure_pure], rfl⟩
          rw [if_neg hkk]; obtain ⟨r, r1, r2⟩ := ih kvs (i + 1) h3; exact ⟨r, by simp [hkk, r1], r2⟩
    obtain ⟨r, r1, r2⟩ := key _ kvs 0 hE; have r1' : runPure P (Instr.findAsking K u (e0 :: es0)) = some r := r1; rw [r1']; simp only [Option.map_some]; rw [r2]
theorem lookup_eq [DecidableEq κ.den] (hT : MapT P T κ ν) {u m : Value} {k : κ.den} {kvs : List (κ.den × ν.den)} (hu : RepV h S κ u k) (hm : MpV h S κ ν m kvs) :
    ∃ r, RepV h S ν r ((mget kvs k).getD (zeroD ν)) ∧ (∀ H : Heap, (∀ b o, h.get b = some o → H.get b = some o) → fsLookup P T m u false H = some r ∧ fsLookup P T m u true H = some (.tuple #[r, .bool (mget kvs k).isSome])) := by
  obtain ⟨K, E, hU, hK, hZ⟩ := hT.key; obtain ⟨z, hz, hzc, hza⟩ := hZ.zero; obtain ⟨z1, z2⟩ := zero_rep h S ν; obtain ⟨a1, a2⟩ := af_cells (u := z) (by rw [hzc]; exact z2); have hzr : RepV h S ν z (zeroD ν) := ⟨hza, by rw [hzc]; exact z1⟩; have hau : af u = true := af_of_af1 (repV_af1 hK.flat hu); rcases hm with ⟨rfl, rfl⟩ | ⟨b, es, c, rfl, hbS, hg, hE⟩
  · refine ⟨z, hzr, fun H hH => ?_⟩; have hf : fsFind P K u [] = some none := find_mix (kvs := ([] : List (κ.den × ν.den))) hK hu ⟨rfl, fun i hi => by simp at hi⟩; have hch := hK.chk (h := h) (S := S) true u k hu; constructor <;> simp [fsLookup, hU, hz, hau, a1, hf, hch, mget]
  have hE' : EntR h S κ ν es kvs := hE; have hf := find_mix (ν := ν) hK hu hE'; have hch := hK.chk (h := h) (S := S) es.isEmpty u k hu; have hmg := mix_get (l := kvs) (x := k) (i := 0)
  cases hmx : mix kvs k 0 with
  | none =>
    rw [hmx] at hmg hf; have hmg' : mget kvs k = none := hmg; refine ⟨z, by rw [hmg']; exact hzr, fun H hH => ?_⟩
    constructor <;> simp [fsLookup, hU, hz, hau, a1, hf, hch, hmg', hH b _ hg]
  | some j =>
    rw [hmx] at hmg hf; obtain ⟨_, hj, hk1, hk2⟩ := hmg; simp only [Nat.sub_zero] at hj hk1 hk2
    have hj2 : j < es.length := by rw [hE'.1]; exact hj
    refine ⟨es[j].val, by rw [hk2]; exact (hE'.2 j hj hj2).2, fun H hH => ?_⟩; constructor <;> simp [fsLookup, hU, hz, hau, a1, hf, hch, hk2, hH b _ hg, List.getElem?_eq_getElem hj2]
theorem EntR.set {kvs : List (κ.den × ν.den)} {es : List MapEntry} {j : Nat} {e : MapEntry} {p : κ.den × ν.den} (hE : EntR h S κ ν es kvs) (hk : RepV h S κ e.key p.1) (hv : RepV h S ν e.val p.2) : EntR h S κ ν (es.set j e) (kvs.set j p) := by
  refine ⟨by simpa using hE.1, fun i hi hj => ?_⟩; rw [List.length_set] at hi hj; by_cases hij : j = i
  · subst hij; simp only [List.getElem_set_self]; exact ⟨hk, hv⟩
  simp only [List.getElem_set_ne hij]; exact hE.2 i hi hj
theorem EntR.push {kvs : List (κ.den × ν.den)} {es : List MapEntry} {e : MapEntry} {p : κ.den × ν.den} (hE : EntR h S κ ν es kvs) (hk : RepV h S κ e.key p.1) (hv : RepV h S ν e.val p.2) : EntR h S κ ν (es ++ [e]) (kvs ++ [p]) := by
  refine ⟨by simpa using hE.1, fun i hi hj => ?_⟩
  have hi' : i < kvs.length + 1 := by simpa using hi
  by_cases hlt : i < kvs.length
  · rw [List.getElem_append_left hlt, List.getElem_append_left (by rw [hE.1]; exact hlt)]; exact hE.2 i hlt _
  have e1 : i = kvs.length := by omega
  subst e1; have e2 := hE.1
  have q1 : (es ++ [e])[kvs.length]'hj = e := by rw [List.getElem_append_right (by omega)]; simp [e2]
  have q2 : (kvs ++ [p])[kvs.length]'hi = p := by rw [List.getElem_append_right (by omega)]; simp
  rw [q1, q2]; exact ⟨hk, hv⟩
section
variable [DecidableEq κ.den] {k : κ.den} {kvs : List (κ.den × ν.den)}
theorem ReadV.look (hT : MapT P T κ ν) (hx : evV fl x = some (.v (.mp κ ν) kvs) := by rfl) (hy : evV fl y = some (.v κ k) := by rfl) : ReadV P fl σ (.lookup T x y false) (.v ν ((mget kvs k).getD (zeroD ν))) :=
  ⟨rfl, fun h S t hs hc => by
    obtain ⟨r, r1, r2⟩ := lookup_eq hT (hs y (by simp [Op.operands]) _ hy : RepV h S κ _ k) (RepV.mp (hs x (by simp [Op.operands]) _ hx))
    exact ⟨r, r1, fun H hH _ _ _ _ _ => by
      show (fsLookup P T (evalO t x) (evalO t y) false H).map _ = _
      rw [(r2 H hH).1]; rfl⟩⟩
theorem ReadV.lookOk (hT : MapT P T κ ν) (hx : evV fl x = some (.v (.mp κ ν) kvs) := by rfl) (hy : evV fl y = some (.v κ k) := by rfl) : ReadV P fl σ (.lookup T x y true) (.tup [.v ν ((mget kvs k).getD (zeroD ν)), .v .bool (mget kvs k).isSome]) :=
  ⟨rfl, fun h S t hs hc => by
    obtain ⟨r, r1, r2⟩ := lookup_eq hT (hs y (by simp [Op.operands]) _ hy : RepV h S κ _ k) (RepV.mp (hs x (by simp [Op.operands]) _ hx))
    exact ⟨.tuple #[r, .bool (mget kvs k).isSome], ⟨[r, .bool (mget kvs k).isSome], rfl, r, _, rfl, r1, _, _, rfl, RepV.ofBool _, rfl⟩, fun H hH _ _ _ _ _ => by
      show (fsLookup P T (evalO t x) (evalO t y) true H).map _ = _
      rw [(r2 H hH).2]; rfl⟩⟩
theorem lookup_own (hT : MapT P T κ ν) {u : Value} (hu : RepV h S κ u k) (hc : CellR h S w (.mp κ ν kvs)) :
    ∃ r, RepV h S ν r ((mget kvs k).getD (zeroD ν)) ∧ (∀ H : Heap, (∀ b o, h.get b = some o → H.get b = some o) → fsLookup P T w u false H = some r ∧ fsLookup P T w u true H = some (.tuple #[r, .bool (mget kvs k).isSome])) := by
  obtain ⟨K, E, hU, hK, hZ⟩ := hT.key; obtain ⟨z, hz, hzc, hza⟩ := hZ.zero; obtain ⟨z1, z2⟩ := zero_rep h S ν; obtain ⟨a1, a2⟩ := af_cells (u := z) (by rw [hzc]; exact z2); have hzr : RepV h S ν z (zeroD ν) := ⟨hza, by rw [hzc]; exact z1⟩; have hau : af u = true := af_of_af1 (repV_af1 hK.flat hu); obtain ⟨b, es, c, rfl, hbS, hg, hE⟩ := hc; have hE' : EntR h S κ ν es kvs := hE; have hf := find_mix (ν := ν) hK hu hE'; have hch := hK.chk (h := h) (S := S) es.isEmpty u k hu; have hmg := mix_get (l := kvs) (x := k) (i := 0)
  cases hmx : mix kvs k 0 with
  | none =>
    rw [hmx] at hmg hf; have hmg' : mget kvs k = none := hmg; refine ⟨z, by rw [hmg']; exact hzr, fun H hH => ?_⟩
    constructor <;> simp [fsLookup, hU, hz, hau, a1, hf, hch, hmg', hH b _ hg]
  | some j =>
    rw [hmx] at hmg hf; obtain ⟨_, hj, hk1, hk2⟩ := hmg; simp only [Nat.sub_zero] at hj hk1 hk2
    have hj2 : j < es.length := by rw [hE'.1]; exact hj
    refine ⟨es[j].val, by rw [hk2]; exact (hE'.2 j hj hj2).2, fun H hH => ?_⟩; constructor <;> simp [fsLookup, hU, hz, hau, a1, hf, hch, hk2, hH b _ hg, List.getElem?_eq_getElem hj2]
theorem ReadV.lookO (hT : MapT P T κ ν) (hm : (w, Cell.mp κ ν kvs) ∈ σ) (hx : evV fl x = some (.raw w) := by rfl) (hy : evV fl y = some (.v κ k) := by rfl) : ReadV P fl σ (.lookup T x y false) (.v ν ((mget kvs k).getD (zeroD ν))) :=
  ⟨rfl, fun h S t hs hc => by
    have h1 : evalO t x = w := hs x (by simp [Op.operands]) _ hx; obtain ⟨r, r1, r2⟩ := lookup_own hT (hs y (by simp [Op.operands]) _ hy : RepV h S κ _ k) (hc _ hm)
    exact ⟨r, r1, fun H hH _ _ _ _ _ => by
      show (fsLookup P T (evalO t x) (evalO t y) false H).map _ = _
      rw [h1, (r2 H hH).1]; rfl⟩⟩
theorem MakeV.mput {u : ν.den} (hT : MapT P T κ ν) (hx : evV fl x = some (.raw w)) (hy : evV fl y = some (.v κ k)) (hz : evV fl z = some (.v ν u)) :
    MakeV P fl ((w, .mp κ ν kvs) :: σ) (.mapUpdate T x y z) fun v σ' => v = .raw undef ∧ σ' = (w, .mp κ ν (mset kvs k u)) :: σ :=
  ⟨rfl, fun S0 h t L => by
    have h1 : evalO t x = w := evV_ok L.slots hx; have hk := (evV_ok L.slots hy : RepV h _ κ (evalO t y) k); have hv := (evV_ok L.slots hz : RepV h _ ν (evalO t z) u); obtain ⟨K, E, hU, hK, hZ⟩ := hT.key; obtain ⟨b, es, c, h3, h4, hg, hE⟩ := L.cells _ List.mem_cons_self; have hw : w = .map (some b) := h3; have hE' : EntR h (own ((w, .mp κ ν kvs) :: σ) ++ S0) κ ν es kvs := hE
    have hbk : blk w = [b] := by rw [hw]; rfl
    have hf := find_mix (ν := ν) hK hk hE'; have hau : af (evalO t y) = true := af_of_af1 (repV_af1 hK.flat hk); have hch := hK.chk (h := h) false _ k hk; have hms := mix_set (l := kvs) (x := k) (y := u) (i := 0); have hmg := mix_get (l := kvs) (x := k) (i := 0)
    have fin : ∀ (es' : List MapEntry) (c' : Nat), fsMapUpdate P T w (evalO t y) (evalO t z) h = some (h.set b (.mapo es' c')) → EntR h (own ((w, .mp κ ν kvs) :: σ) ++ S0) κ ν es' (mset kvs k u) →
        ∃ uu h' v σ', (v = .raw undef ∧ σ' = (w, .mp κ ν (mset kvs k u)) :: σ) ∧ Made S0 h h' ((w, .mp κ ν kvs) :: σ) σ' ∧ RepPV h' (own σ' ++ S0) v uu ∧ ∀ (d : Option Tmp) (ty : TypeId) (pos : String) (after : Array Edge) (g : Option (Nat × Bool)), stepO P ⟨d, .mapUpdate T x y z, ty, pos, after, g⟩ (evalO t) h = some (uu, h') := fun es' c' hup hEn => by
      refine ⟨undef, h.set b (.mapo es' c'), .raw undef, _, ⟨rfl, rfl⟩, Made.head L (Aft.set hg (by rw [hbk]; simp)) (fun b hb => .inl hb) (by rw [hbk]; simp) fun hN => ?_, rfl, fun _ _ _ _ _ => ?_⟩
      · refine ⟨b, es', c', h3, ?_, by rw [Heap.get_set hg, if_pos rfl], hEn.1, fun i hi hj => ⟨(hEn.2 i hi hj).1.nx hN, (hEn.2 i hi hj).2.nx hN⟩⟩; rw [own_cons]; exact List.mem_append_left _ (List.mem_append_left _ (by rw [hbk]; simp))
      show (fsMapUpdate P T (evalO t x) (evalO t y) (evalO t z) h).map _ = _; rw [h1, hup]; rfl
    cases hmx : mix kvs k 0 with
    | none =>
      rw [hmx] at hms hf; have hms' : Fs.mset kvs k u = kvs ++ [(k, u)] := hms; refine fin (es ++ [{ key := evalO t y, val := evalO t z, born := c }]) (c + 1) ?_ (by rw [hms']; exact hE'.push hk hv); rw [hw]
      simp [fsMapUpdate, hU, hg, hau, hch, hf]
    | some j =>
      rw [hmx] at hms hf hmg; obtain ⟨_, hms'⟩ := hms; obtain ⟨_, hj, hk1, _⟩ := hmg; simp only [Nat.sub_zero] at hms' hj hk1
      have hj2 : j < es.length := by rw [hE'.1]; exact hj
      have hke : es[j].key = evalO t y := by
        have q1 := (hE'.2 j hj hj2).1; rw [hk1] at q1; have c1 := flat_cells q1.2 hK.flat; have c2 := flat_cells hk.2 hK.flat
        cases hag : κ.agg with
        | true => rw [flat_agg q1 hK.flat hag, flat_agg hk hK.flat hag]
        | false =>
          have d1 := cells_one (q1.1.trans hag); have d2 := cells_one (hk.1.trans hag); rw [d1] at c1; rw [d2] at c2; have : [es[j].key] = [evalO t y] := c1.trans c2.symm; simpa using this
      have hsb : Instr.sameBits 10000 es[j].key (evalO t y) = true := by rw [hke]; exact hK.bits _ k hk
      refine fin (es.set j { es[j] with key := evalO t y, val := evalO t z }) c ?_ (by rw [hms']; exact hE'.set hk hv); rw [hw]
      simp [fsMapUpdate, hU, hg, hau, hch, hf, List.getElem?_eq_getElem hj2, hsb]⟩
theorem VO.mput {u : ν.den} (hT : MapT P T κ ν) (hk : VO P orc ops n l fl ((w, .mp κ ν (mset kvs k u)) :: σ) K) (hx : evV fl x = some (.raw w) := by rfl) (hy : evV fl y = some (.v κ k) := by rfl) (hz : evV fl z = some (.v ν u) := by rfl) (hw : wantV ops fl g = some true := by rfl) :
    VO P orc ops n (⟨none, .mapUpdate T x y z, ty, pos, after, g⟩ :: l) fl ((w, .mp κ ν kvs) :: σ) K :=
  VO.mk0 (MakeV.mput hT hx hy hz) (by rintro _ _ ⟨rfl, rfl⟩; exact hk) hw
end
theorem FreshO.mkMap (κ ν : Ty) : FreshO P fl (.makeMap T none) (.mp κ ν []) :=
  ⟨rfl, fun h S t hs hok hS => ⟨fun k => .map (some k), .mapo [] 0, fun _ => rfl, fun S' hN hm => ⟨h.next, [], 0, rfl, hm, by rw [Heap.get_push, if_pos rfl], rfl, fun i hi => by simp at hi⟩, fun H _ _ _ _ _ => rfl⟩⟩
end Go.Fs
namespace Go.Fs
variable {P : Program} {orc : FuncId → List Value → Heap → Option (Value × Heap)} {h : Heap} {S : List Nat} {σ : Sto} {t : Tr} {fl : VL} {x y : Operand} {T T' : TypeId} {v pv : PV} {k k' : FloatKind} {p q : Nat}
theorem CalmV.fcmpD {b : BinOp} {r : Bool} (he : fcmpE b k p q = r) (hb : isCmpF b = true := by rfl) (hx : evV fl x = some (.v (.flt k) p) := by rfl) (hy : evV fl y = some (.v (.flt k) q) := by rfl) : CalmV P fl σ (.binOp b T x y T') (.v .bool r) := he ▸ CalmV.fcmp b hb hx hy
theorem VF.ext {f : FuncId} {args : List PV} {r : PV} {fn : Func} {e : Array Value → Sem Value} {us : List Value} {w : Value} (hfn : P.funcs[f]? = some fn) (ho : ∀ us h, orc f us h = none) (hb : (fn.body.isNone && !(fn.name == "runtime.NumGoroutine")) = true) (h1 : (Extern.findNext fn).isNone = true) (h2 : Extern.find fn = some e)
    (ha : us.all af = true) (hus : ∀ (h : Heap) (S : List Nat) (us' : List Value), RepL h S args us' → us' = us) (hv : purely P (e us.toArray) = some w) (hr : ∀ (h : Heap) (S : List Nat), RepPV h S r w) : VF P orc f args r := fun h S us' hok hS hrep => by
  obtain rfl := hus h S us' hrep; exact EvF.ext (ho _ _) hfn hb h1 h2 ha hv ⟨Aft.refl _ _, hr _ _, fun _ => rfl⟩
theorem repl_flt {h : Heap} {S : List Nat} {us : List Value} {k : FloatKind} {p : Nat} (hr : RepL h S [.v (.flt k) p] us) : us = [.float k p] := by
  obtain ⟨u, r, rfl, h2, h3⟩ := hr; obtain rfl : r = [] := h3; rw [RepV.flt h2]
theorem VF.extFlt {f : FuncId} {r : PV} {fn : Func} {e : Array Value → Sem Value} {w : Value} (hfn : P.funcs[f]? = some fn) (ho : ∀ us h, orc f us h = none) (hb : (fn.body.isNone && !(fn.name == "runtime.NumGoroutine")) = true) (h1 : (Extern.findNext fn).isNone = true) (h2 : Extern.find fn = some e)
    (hv : purely P (e #[.float k p]) = some w) (hr : ∀ (h : Heap) (S : List Nat), RepPV h S r w) : VF P orc f [.v (.flt k) p] r :=
  VF.ext (us := [.float k p]) hfn ho hb h1 h2 rfl (fun _ _ _ hr => repl_flt hr) hv hr
theorem VF.extInt {f : FuncId} {r : PV} {κ : IntKind} {n : Int} {fn : Func} {e : Array Value → Sem Value} {w : Value} (hfn : P.funcs[f]? = some fn) (ho : ∀ us h, orc f us h = none) (hb : (fn.body.isNone && !(fn.name == "runtime.NumGoroutine")) = true) (h1 : (Extern.findNext fn).isNone = true) (h2 : Extern.find fn = some e)
    (hv : purely P (e #[.int κ n]) = some w) (hr : ∀ (h : Heap) (S : List Nat), RepPV h S r w) : VF P orc f [.v (.int κ) n] r :=
  VF.ext (us := [.int κ n]) hfn ho hb h1 h2 rfl (fun _ _ _ hr => repl_int _ _ _ hr) hv hr
theorem mul32E {p q r : Nat} (h : Ieee.single.mul p q = some r) : fopE .mul .f32 p q = some r := h
theorem sub32E {p q r : Nat} (h : Ieee.single.sub p q = some r) : fopE .sub .f32 p q = some r := h
theorem mul64E {p q r : Nat} (h : Ieee.double.mul p q = some r) : fopE .mul .f64 p q = some r := h
theorem nan32E {p : Nat} (h : Ieee.u32 p = none) : nanOp .sub .f32 p p = true := by
  show (Ieee.single.sub p p).isNone = true; rw [Ieee.Format.sub_self_none h]; rfl
theorem toInt32E {p : Nat} {n : Int} (h : (Ieee.single.read p).toInt .zero = some n) : (FloatKind.f32.decode p).toInt .zero = some n := h
theorem toInt64E {p : Nat} {n : Int} (h : (Ieee.double.read p).toInt .zero = some n) : (FloatKind.f64.decode p).toInt .zero = some n := h
theorem fneq_self {p : Nat} (h : Ieee.double.order p p = some .eq) : fcmpE .neq .f64 p p = false := by
  show (Ieee.double.order p p != some .eq) = false; rw [h]; rfl
theorem fcmp32 {p q : Nat} {u v : Int} (hp : Ieee.u32 p = some u) (hq : Ieee.u32 q = some v) :
    fcmpE .eql .f32 p q = decide (u = v) ∧ fcmpE .neq .f32 p q = decide (u ≠ v) ∧ fcmpE .lss .f32 p q = decide (u < v) ∧ fcmpE .leq .f32 p q = decide (u ≤ v) ∧ fcmpE .gtr .f32 p q = decide (v < u) ∧ fcmpE .geq .f32 p q = decide (v ≤ u) := fcmp_units (k := .f32) hp hq
theorem fcmp64 {p q : Nat} {u v : Int} (hp : Ieee.u64 p = some u) (hq : Ieee.u64 q = some v) :
    fcmpE .eql .f64 p q = decide (u = v) ∧ fcmpE .neq .f64 p q = decide (u ≠ v) ∧ fcmpE .lss .f64 p q = decide (u < v) ∧ fcmpE .leq .f64 p q = decide (u ≤ v) ∧ fcmpE .gtr .f64 p q = decide (v < u) ∧ fcmpE .geq .f64 p q = decide (v ≤ u) := fcmp_units (k := .f64) hp hq
theorem CalmV.widen {s D : TypeId} {u u' : Int} (hu : Ieee.u32 p = some u) (hr : Ieee.u64 (Ieee.double.write (Ieee.single.read p)) = some u') (hx : evV fl x = some (.v (.flt .f32) p) := by rfl) (hb : convFB P s D .f64 = true := by kernel_rfl) : CalmV P fl σ (.convert s D x) (.v (.flt .f64) (Ieee.double.write (Ieee.single.read p))) :=
  CalmV.cvFF (k := .f32) .f64 (by decide) hu rfl hr hx hb
theorem CalmV.widenI {s D : TypeId} {sg : Bool} (hu : Ieee.single.read p = .infinity sg) (hx : evV fl x = some (.v (.flt .f32) p) := by rfl) (hb : convFB P s D .f64 = true := by kernel_rfl) : CalmV P fl σ (.convert s D x) (.v (.flt .f64) (Ieee.double.write (.infinity sg))) :=
  CalmV.cvInf (k := .f32) .f64 (by decide) hu hx hb
theorem CalmV.widenN {s D : TypeId} {sg : Bool} {m : Nat} (hu : Ieee.single.read p = .nan sg m) (hx : evV fl x = some (.v (.flt .f32) p) := by rfl) (hb : convFB P s D .f64 = true := by kernel_rfl) : CalmV P fl σ (.convert s D x) (.raw (nanJ .f64)) :=
  CalmV.cvNan (k := .f32) .f64 (by decide) hu hx hb
theorem floor_run {P : Program} {y : Nat} {s : Bool} {m : Nat} {pl : Int} (h : Ieee.double.read y = .number s m pl) : purely P (Extern.MathFloor.toIntegral "math.archFloor" .down #[.float .f64 y]) = some (.float .f64 (Ieee.double.write ((Ieee.double.read y).integral .down))) := by
  have e : Extern.MathFloor.toIntegral "math.archFloor" .down #[.float .f64 y] = (match FloatKind.f64.decode y with
    | .nan s t =>
      if FloatKind.f64.format.quiet t = t then pure (.float .f64 y) else do
      let kept ← choose (.extern "math.Floor,Ceil,Trunc,RoundToEven.signallingNaN kept" 2)
      pure (.float .f64 (if kept == 1 then y else FloatKind.f64.encode (.nan s (FloatKind.f64.format.quiet t))))
    | d => pure (.float .f64 (FloatKind.f64.encode (d.integral .down)))) := rfl
  have h2 : FloatKind.f64.decode y = .number s m pl := h; rw [e, h2, h]; rfl
theorem clr63 {b : Nat} : ((BitVec.ofInt 64 (b : Int)) &&& ~~~(BitVec.ofInt 64 9223372036854775808)).toNat = b % 9223372036854775808 := by
  rw [BitVec.toNat_and]
  have e1 : (~~~(BitVec.ofInt 64 9223372036854775808)).toNat = 2 ^ 63 - 1 := by decide
  have e2 : (BitVec.ofInt 64 (b : Int)).toNat = b % 2 ^ 64 := by
    rw [BitVec.toNat_ofInt]; omega
  rw [e1, e2, Nat.and_two_pow_sub_one_eq_mod]; omega
theorem CalmV.clr63 {b : Nat} (hx : evV fl x = some (.v (.int .u64) ((b : Nat) : Int))) (hy : evV fl y = some (.v (.int .u64) 9223372036854775808)) : CalmV P fl σ (.binOp .andNot T x y T') (.v (.int .u64) ((b % 9223372036854775808 : Nat) : Int)) :=
  .binI hx hy (u := .int .u64 ((b % 9223372036854775808 : Nat) : Int)) (by
    show (runPure P (Op.intBits .andNot .u64 (b : Int) 9223372036854775808)).bind _ = _; have e1 : Op.intBits .andNot .u64 (b : Int) 9223372036854775808 = pure (.int .u64 (IntKind.u64.wrap (((BitVec.ofInt 64 (b : Int)) &&& ~~~(BitVec.ofInt 64 9223372036854775808)).toNat : Int))) := rfl; rw [e1, Fs.clr63, runPure_pure]
    have e2 : IntKind.u64.wrap ((b % 9223372036854775808 : Nat) : Int) = ((b % 9223372036854775808 : Nat) : Int) := by
      have e3 : IntKind.u64.wrap ((b % 9223372036854775808 : Nat) : Int) = ((b % 9223372036854775808 : Nat) : Int) % 18446744073709551616 := rfl; rw [e3]; omega
    rw [e2]; rfl) fun h S => RepV.ofInt _ _
end Go.Fs
namespace Ieee
open Format
theorem read_clr {b : Nat} : double.read (b % 9223372036854775808) = match double.read b with
    | .number _ m p => .number false m p
    | .infinity _ => .infinity false
    | .nan _ f => .nan false f := by
  have e0 : double.signWeight = 9223372036854775808 := by decide
  have e1 : b % 9223372036854775808 % double.signWeight = b % double.signWeight := by rw [e0]; omega
  have e2 : (b % 9223372036854775808 / double.signWeight % 2 == 1) = false := by
    rw [e0, show b % 9223372036854775808 / 9223372036854775808 = 0 by omega]; rfl
  unfold Format.read; simp only [e1, e2]; split
  · rfl
  split
  · rfl
  split <;> rfl
theorem units_clr {b : Nat} {v : Int} (h : double.units b = some v) : double.units (b % 9223372036854775808) = some (v.natAbs : Int) := by
  obtain ⟨s, m, p, h1, h2, rfl⟩ := units_inv h; unfold units; rw [read_clr, h1]; simp only; rw [sg_natAbs]; rfl
def topW : Int := (2 ^ 53 - 1) * (((2 ^ (2045 : Nat) : Nat)) : Int)
theorem top64 : u64 9218868437227405311 = some topW := by decide +kernel
theorem top_bound {u : Int} (h : u.natAbs ≤ 2 ^ e300) : ((u * (kW : Nat)).natAbs : Int) ≤ topW := by
  have h1 : 2 ^ e300 * kW ≤ topW.natAbs := by decide +kernel
  have h2 : (u * (kW : Nat)).natAbs ≤ 2 ^ e300 * kW := by
    rw [Int.natAbs_mul, Int.natAbs_natCast]; exact Nat.mul_le_mul_right _ h
  have h3 : (topW.natAbs : Int) = topW := by decide +kernel
  omega
end Ieee
namespace Go.Proofs
open Go.Fs Ieee
theorem w16 : u32 1098907648 = some (16 * 713623846352979940529142984724747568191373312) := by decide +kernel
theorem wz : u32 0 = some 0 := by decide +kernel
theorem w64 : u32 1115684864 = some 45671926166590716193865151022383844364247891968 := by decide +kernel
theorem wm64 : u32 3263168512 = some (-45671926166590716193865151022383844364247891968) := by decide +kernel
theorem fitN {n : Int} (h : -100000 ≤ n ∧ n ≤ 100000) : fit n := ⟨by omega, by omega⟩
theorem t16_fit {u : Int} (h : u.natAbs ≤ 45671926166590716193865151022383844364247891968) : -1024 ≤ (16 * u).tdiv 713623846352979940529142984724747568191373312 ∧ (16 * u).tdiv 713623846352979940529142984724747568191373312 ≤ 1024 := by
  have h1 := Int.mul_tdiv_add_tmod (16 * u) 713623846352979940529142984724747568191373312; have h2 := Int.tmod_lt_of_pos (16 * u) (show (0 : Int) < 713623846352979940529142984724747568191373312 by decide)
  have h3 : -713623846352979940529142984724747568191373312 < (16 * u).tmod 713623846352979940529142984724747568191373312 := by
    have h4 := Int.tmod_lt_of_pos (-(16 * u)) (show (0 : Int) < 713623846352979940529142984724747568191373312 by decide); rw [Int.neg_tmod] at h4; omega
  omega
theorem gSix_ok {u : Int} {x : Nat} (hu : u32 x = some u) (h0 : u.natAbs ≤ 45671926166590716193865151022383844364247891968) : VF Tryz.prog OA 142 [.v (.flt .f32) x] (I ((16 * u).tdiv 713623846352979940529142984724747568191373312)) := by
  refine VF.enter Tryz.func142 rfl (fun _ _ => rfl) rfl ?_; show VC _ _ _ _ _ [(0, .v (.flt .f32) x)] [] _; refine VC.seq (VC.text ?_); refine VO.c (.assign rfl) ?_; refine VO.go (VC.seq (VC.text ?_)); refine VO.c (.move rfl) ?_; obtain ⟨r, hr, hr2⟩ := mul16 w16 hu h0; have hf := t16_fit h0; refine VO.c (.fop (mul32E hr)) (VO.c (.cvFI (toInt32E (toInt32 hr2)) (fitN (by omega))) (VO.c (.assign rfl) (VO.go ?_))); refine VC.ret ?_; exact VEnd.one rfl evT (pvI (by first | rfl | simp))
theorem sSix_ok {x : Nat} (hx : lvlE x = 0) : VF Tryz.prog OA 90 [.v (.flt .f32) x] (I (sxE x)) := by
  refine VF.enter Tryz.func90 rfl (fun _ _ => rfl) rfl ?_; show VC _ _ _ _ _ [(0, .v (.flt .f32) x)] [] _; refine VC.seq (VC.text ?_); refine VO.c (.assign rfl) ?_; refine VO.go (VC.seq (VC.text ?_)); refine VO.c (.move rfl) ?_; obtain ⟨hu, h0, h1⟩ := lvl_ok hx; obtain ⟨r, hr, hr2⟩ := mul16' w16 hu (by omega); have hs := sx_tdiv (u := sxE x * 44601490397061246283071436545296723011960832) rfl; have ht := toInt32 hr2; rw [hs] at ht; refine VO.c (.fop (mul32E hr)) (VO.c (.cvFI (toInt32E ht) (fitN (by omega))) (VO.c (.assign rfl) (VO.go ?_))); refine VC.ret ?_; exact VEnd.one rfl evT (pvI (by first | rfl | simp))
theorem gLvF_ok {u : Int} {x : Nat} (hu : u32 x = some u) : VF Tryz.prog OA 109 [.v (.flt .f32) x] (I (lvlE x)) := by
  refine VF.enter Tryz.func109 rfl (fun _ _ => rfl) rfl ?_; show VC _ _ _ _ _ [(0, .v (.flt .f32) x)] [] _; refine VC.seq (VC.text ?_); refine VO.c (.assign rfl) ?_; refine VO.go (VC.seq (VC.seq (VC.text ?_))); refine VO.c (.move rfl) (VO.c (.move rfl) ?_); obtain ⟨r, hr, hr0⟩ := sub_self32 hu; refine VO.c (.fop (sub32E hr)) (VO.c (.fcmpD (b := .neq) (fcmp32 hr0 wz).2.1) (VO.go ?_)); refine VC.condD rfl (fun c1 => ?_) (fun c1 => ?_)
  · exact absurd rfl c1
  refine VC.skip (VC.seq (VC.seq (VC.text ?_))); refine VO.c (.move rfl) (VO.c (.fcmpD (b := .lss) (fcmp32 hu wm64).2.2.1) (VO.c (.move rfl) ?_)); refine VO.cg (r := decide (u < -45671926166590716193865151022383844364247891968)) (w := false) [] trivial (fun _ => (.move rfl)) ?_; refine VO.cg (r := decide (u < -45671926166590716193865151022383844364247891968)) (w := false) [(10, .v (.flt .f32) x)] ⟨rfl, trivial⟩ (fun _ => (.fcmpD (b := .gtr) (fcmp32 hu w64).2.2.2.2.1)) ?_; refine VO.c (.or) (VO.go ?_); refine VC.condB rfl (fun c3 => ?_) (fun c3 => ?_)
  · try simp only [Bool.and_eq_true, Bool.or_eq_true, Bool.and_eq_false_iff, Bool.or_eq_false_iff, Bool.not_eq_true', Bool.not_eq_false', decide_eq_true_eq, decide_eq_false_iff_not] at c3
    refine VC.seq (VC.text ?_); refine VO.c (.assign rfl) (VO.go ?_); refine VC.ret ?_; exact VEnd.one rfl evT (pvI (by unfold lvlE; rw [hu]; simp only; rw [if_neg (by omega)]))
  try simp only [Bool.and_eq_true, Bool.or_eq_true, Bool.and_eq_false_iff, Bool.or_eq_false_iff, Bool.not_eq_true', Bool.not_eq_false', decide_eq_true_eq, decide_eq_false_iff_not] at c3
  refine VC.skip (VC.seq (VC.text ?_)); refine VO.c (.move rfl) ?_
  have hb : -45671926166590716193865151022383844364247891968 ≤ u ∧ u ≤ 45671926166590716193865151022383844364247891968 := by omega
  have hf := t16_fit (u := u) (by omega); obtain ⟨r2, hr2, hr3⟩ := mul16 w16 hu (by omega); have hi := ofInt32 (n := (16 * u).tdiv 713623846352979940529142984724747568191373312) (by omega); refine VO.call rfl rfl (VF.call (gSix_ok (u := u) hu (by omega))) ?_; refine VO.c (.cvIF .f32) (VO.c (.move rfl) (VO.c (.fop (mul32E hr2)) (VO.c (.fcmpD (b := .neq) (fcmp32 hi hr3).2.1) ?_))); refine VO.call rfl rfl (VF.call (gWhen_ok )) ?_; refine VO.c (.assign rfl) (VO.go ?_); refine VC.ret ?_; exact VEnd.one rfl evT (pvI (by unfold lvlE whenE; rw [hu]; simp only; have hw := whole_iff32 hb; by_cases h1 : u % 44601490397061246283071436545296723011960832 = 0 <;> simp [h1, hw, hb]))
theorem gLvN_ok {x : Nat} (hu : u32 x = none) : VF Tryz.prog OA 109 [.v (.flt .f32) x] (I (lvlE x)) := by
  refine VF.enter Tryz.func109 rfl (fun _ _ => rfl) rfl ?_; show VC _ _ _ _ _ [(0, .v (.flt .f32) x)] [] _; refine VC.seq (VC.text ?_); refine VO.c (.assign rfl) ?_; refine VO.go (VC.seq (VC.seq (VC.text ?_))); refine VO.c (.move rfl) (VO.c (.move rfl) (VO.c (.fnan (nan32E hu)) (VO.c (.fnancmp (r := true) rfl) ?_))); refine VO.go ?_; refine VC.condT rfl ?_; refine VC.seq (VC.text ?_); refine VO.c (.assign rfl) (VO.go ?_); refine VC.ret ?_; exact VEnd.one rfl evT (pvI (by unfold lvlE; rw [hu]))
theorem gLv_ok {x : Nat} : VF Tryz.prog OA 109 [.v (.flt .f32) x] (I (lvlE x)) := by
  cases hu : u32 x with
  | none => exact gLvN_ok hu
  | some u => exact gLvF_ok hu
theorem v16 : u64 4625196817309499392 = some ((16 : Int) * ((713623846352979940529142984724747568191373312 * kW : Nat) : Int)) := by decide +kernel
theorem v64 : u64 4634204016564240384 = some ((45671926166590716193865151022383844364247891968 : Int) * ((kW : Nat) : Int)) := by decide +kernel
theorem vm64 : u64 13857576053419016192 = some ((-45671926166590716193865151022383844364247891968 : Int) * ((kW : Nat) : Int)) := by decide +kernel
theorem ord_self {f : Format} {x : Nat} {u : Int} (h : f.units x = some u) : f.order x x = some .eq := by
  rw [Format.order_units h h, compare_int, if_neg (by omega), if_pos rfl]
theorem xBits_ok {b : Nat} : VF Tryz.prog OA 185 [.v (.flt .f64) b] (.v (.int .u64) ((b : Nat) : Int)) :=
  VF.extFlt (e := Extern.MathFloatBits.float64bits) Tryz.func185 (fun _ _ => rfl) (by kernel_rfl) (by kernel_rfl) (by kernel_rfl) (w := .int .u64 ((b : Nat) : Int)) rfl fun _ _ => RepV.ofInt _ _
theorem xFrom_ok {n : Nat} : VF Tryz.prog OA 184 [.v (.int .u64) ((n : Nat) : Int)] (.v (.flt .f64) n) :=
  VF.extInt (e := Extern.MathFloatBits.float64frombits) Tryz.func184 (fun _ _ => rfl) (by kernel_rfl) (by kernel_rfl) (by kernel_rfl) (w := .float .f64 n) rfl fun _ _ => RepV.ofFlt _ _
theorem xFloor_ok {y : Nat} (hy : ∃ u, u64 y = some u) : VF Tryz.prog OA 166 [.v (.flt .f64) y] (.v (.flt .f64) (double.write ((double.read y).integral .down))) := by
  obtain ⟨u, hu⟩ := hy; obtain ⟨s, m, p, h1, _, _⟩ := Format.units_inv hu; exact VF.extFlt (e := Extern.MathFloor.toIntegral "math.archFloor" .down) Tryz.func166 (fun _ _ => rfl) (by kernel_rfl) (by kernel_rfl) (by kernel_rfl) (w := .float .f64 (double.write ((double.read y).integral .down))) (floor_run h1) fun _ _ => RepV.ofFlt _ _
theorem mFloor_ok {y : Nat} (hy : ∃ u, u64 y = some u) : VF Tryz.prog OA 141 [.v (.flt .f64) y] (.v (.flt .f64) (double.write ((double.read y).integral .down))) := by
  refine VF.enter Tryz.func141 rfl (fun _ _ => rfl) rfl ?_; show VC _ _ _ _ _ [(0, .v (.flt .f64) y)] [] _; refine VC.seq (VC.text ?_); refine VO.c (.assign rfl) ?_; refine VO.go (VC.seq ?_); refine VC.condT rfl ?_; refine VC.seq (VC.text ?_); refine VO.c (.move rfl) ?_; refine VO.call rfl rfl (VF.call (xFloor_ok (by first | assumption | omega))) ?_; refine VO.c (.assign rfl) (VO.go ?_); refine VC.ret ?_; exact VEnd.one rfl evT (pvE (by first | rfl | simp))
theorem mNaN_ok {y : Nat} (hy : double.order y y = some .eq) : VF Tryz.prog OA 139 [.v (.flt .f64) y] (B false) := by
  refine VF.enter Tryz.func139 rfl (fun _ _ => rfl) rfl ?_; show VC _ _ _ _ _ [(0, .v (.flt .f64) y)] [] _; refine VC.seq (VC.text ?_); refine VO.c (.assign rfl) ?_; refine VO.go (VC.seq (VC.text ?_)); refine VO.c (.move rfl) (VO.c (.move rfl) (VO.c (.fcmpD (b := .neq) (r := false) (fneq_self hy)) (VO.c (.assign rfl) ?_))); refine VO.go ?_; refine VC.ret ?_; exact VEnd.one rfl evT (pvE (by first | rfl | simp))
theorem mAbs_ok {b : Nat} : VF Tryz.prog OA 165 [.v (.flt .f64) b] (.v (.flt .f64) (b % 9223372036854775808)) := by
  refine VF.enter Tryz.func165 rfl (fun _ _ => rfl) rfl ?_; show VC _ _ _ _ _ [(0, .v (.flt .f64) b)] [] _; refine VC.seq (VC.text ?_); refine VO.c (.assign rfl) ?_; refine VO.go (VC.seq (VC.text ?_)); refine VO.c (.move rfl) ?_; refine VO.call rfl rfl (VF.call (xBits_ok )) ?_; refine VO.c (.clr63 rfl rfl) ?_; refine VO.call rfl rfl (VF.call (xFrom_ok )) ?_; refine VO.c (.assign rfl) (VO.go ?_); refine VC.ret ?_; exact VEnd.one rfl evT (pvE (by first | rfl | simp))
theorem mInf_ok {y : Nat} {s : Int} (hs : s = 0) : VF Tryz.prog OA 140 [.v (.flt .f64) y, I s] (B (fcmpE .gtr .f64 (y % 9223372036854775808) 9218868437227405311)) := by
  refine VF.enter Tryz.func140 rfl (fun _ _ => rfl) rfl ?_; show VC _ _ _ _ _ [(0, .v (.flt .f64) y), (1, I s)] [] _; refine VC.seq (VC.text ?_); refine VO.c (.assign rfl) ?_; refine VO.go (VC.seq (VC.seq (VC.text ?_))); refine VO.c (.move rfl) (VO.c (.eql) (VO.go ?_)); refine VC.condD rfl (fun c1 => ?_) (fun c1 => ?_)
  · refine VC.text ?_; refine VO.c (.move rfl) ?_; refine VO.call rfl rfl (VF.call (mAbs_ok )) ?_; refine VO.c (.assign rfl) ?_; refine VO.go (VC.seq (VC.text ?_)); refine VO.c (.move rfl) (VO.c (.fcmp .gtr) (VO.c (.assign rfl) (VO.go ?_))); refine VC.ret ?_; exact VEnd.one rfl evT (pvE (by first | rfl | simp))
  exact absurd hs c1
theorem neW {r : Nat} {u : Int} (hr : u64 r = some (16 * (u * (kW : Nat)))) (hg : (decide (45671926166590716193865151022383844364247891968 < u) || decide (u < -45671926166590716193865151022383844364247891968)) = false) : fcmpE .neq .f64 r (double.write ((double.read r).integral .down)) = decide (u % 44601490397061246283071436545296723011960832 ≠ 0) := by
  have hb : -45671926166590716193865151022383844364247891968 ≤ u ∧ u ≤ 45671926166590716193865151022383844364247891968 := by simp at hg; omega
  rw [(fcmp64 hr (floorw hr hb)).2.1]; exact decide_eq_decide.2 (not_congr whole_iff)
theorem rLvF_ok {u : Int} {x : Nat} (hu : u32 x = some u) : VF Tryz.prog OA 104 [.v (.flt .f32) x] (I (lvlE x)) := by
  refine VF.enter Tryz.func104 rfl (fun _ _ => rfl) rfl ?_; show VC _ _ _ _ _ [(0, .v (.flt .f32) x)] [] _; refine VC.seq (VC.text ?_); refine VO.c (.assign rfl) ?_; refine VO.go (VC.seq (VC.text ?_)); refine VO.c (.move rfl) ?_; have hb := u32_bound hu; have hy := widen hu hb; obtain ⟨r, hr, hr2⟩ := mul16w v16 hu hy hb; refine VO.c (.widen hu hy) (VO.c (.assign rfl) ?_); refine VO.go (VC.seq (VC.seq (VC.text ?_))); refine VO.c (.move rfl) ?_; refine VO.call rfl rfl (VF.call (mNaN_ok (ord_self hy))) ?_; refine VO.c (.move rfl) (VO.c (.move rfl) ?_); refine VO.call rfl rfl (VF.call (mInf_ok rfl)) ?_; refine VO.c (.pickF rfl rfl) (VO.go ?_); refine VC.condB rfl (fun c2 => ?_) (fun c2 => ?_)
  · rw [(fcmp64 (units_clr hy) top64).2.2.2.2.1] at c2; simp at c2; have := top_bound hb; omega
  refine VC.skip (VC.seq (VC.seq (VC.text ?_))); refine VO.c (.move rfl) (VO.c (.fcmpD (b := .gtr) (r := decide (45671926166590716193865151022383844364247891968 < u)) ((fcmp64 hy v64).2.2.2.2.1.trans (decide_eq_decide.2 (Int.mul_lt_mul_right kW_int)))) (VO.c (.move rfl) ?_)); refine VO.cg (r := decide (45671926166590716193865151022383844364247891968 < u)) (w := false) [] trivial (fun _ => (.move rfl)) ?_; refine VO.cg (r := decide (45671926166590716193865151022383844364247891968 < u)) (w := false) [(15, .v (.flt .f64) (double.write (single.read x)))] ⟨rfl, trivial⟩ (fun _ => (.fcmpD (b := .lss) (r := decide (u < -45671926166590716193865151022383844364247891968)) ((fcmp64 hy vm64).2.2.1.trans (decide_eq_decide.2 (Int.mul_lt_mul_right kW_int))))) ?_; refine VO.c (.or) (VO.c (.move rfl) ?_); refine VO.cg (r := ((decide (45671926166590716193865151022383844364247891968 < u)) || (decide (u < -45671926166590716193865151022383844364247891968)))) (w := false) [] trivial (fun _ => (.move rfl)) ?_; refine VO.cg (r := ((decide (45671926166590716193865151022383844364247891968 < u)) || (decide (u < -45671926166590716193865151022383844364247891968)))) (w := false) [(19, .v (.flt .f64) (double.write (single.read x)))] ⟨rfl, trivial⟩ (fun _ => (.fop (mul64E hr))) ?_; refine VO.cg (r := ((decide (45671926166590716193865151022383844364247891968 < u)) || (decide (u < -45671926166590716193865151022383844364247891968)))) (w := false) [] trivial (fun _ => (.move rfl)) ?_; refine VO.cg (r := ((decide (45671926166590716193865151022383844364247891968 < u)) || (decide (u < -45671926166590716193865151022383844364247891968)))) (w := false) [(21, .v (.flt .f64) (double.write (single.read x)))] ⟨rfl, trivial⟩ (fun _ => (.fop (mul64E hr))) ?_; refine VO.callg (r0 := ((decide (45671926166590716193865151022383844364247891968 < u)) || (decide (u < -45671926166590716193865151022383844364247891968)))) (w := false) [(22, .v (.flt .f64) r)] ⟨rfl, trivial⟩ rfl rfl .same .refl rfl (fun _ => VF.call (mFloor_ok ⟨_, hr2⟩)) ?_; refine VO.cg (r := ((decide (45671926166590716193865151022383844364247891968 < u)) || (decide (u < -45671926166590716193865151022383844364247891968)))) (w := false) [(20, .v (.flt .f64) r), (23, .v (.flt .f64) (double.write ((double.read r).integral .down)))] ⟨rfl, rfl, trivial⟩ (fun hgd => have g4_6 : ((decide (45671926166590716193865151022383844364247891968 < u)) || (decide (u < -45671926166590716193865151022383844364247891968))) = false := (by simpa using hgd); (.fcmpD (b := .neq) (neW hr2 g4_6))) ?_; refine VO.c (.or) (VO.go ?_); refine VC.condB rfl (fun c4 => ?_) (fun c4 => ?_)
  · try simp only [Bool.and_eq_true, Bool.or_eq_true, Bool.and_eq_false_iff, Bool.or_eq_false_iff, Bool.not_eq_true', Bool.not_eq_false', decide_eq_true_eq, decide_eq_false_iff_not] at c4
    refine VC.seq (VC.text ?_); refine VO.c (.assign rfl) (VO.go ?_); refine VC.ret ?_; exact VEnd.one rfl evT (pvI (by unfold lvlE; rw [hu]; simp only; rw [if_neg]; omega))
  try simp only [Bool.and_eq_true, Bool.or_eq_true, Bool.and_eq_false_iff, Bool.or_eq_false_iff, Bool.not_eq_true', Bool.not_eq_false', decide_eq_true_eq, decide_eq_false_iff_not] at c4
  refine VC.skip (VC.seq (VC.text ?_)); refine VO.c (.assign rfl) (VO.go ?_); refine VC.ret ?_; exact VEnd.one rfl evT (pvI (by unfold lvlE; rw [hu]; simp only; rw [if_pos]; omega))
theorem rLvI_ok {s : Bool} {x : Nat} (hu : single.read x = .infinity s) : VF Tryz.prog OA 104 [.v (.flt .f32) x] (I (lvlE x)) := by
  refine VF.enter Tryz.func104 rfl (fun _ _ => rfl) rfl ?_; show VC _ _ _ _ _ [(0, .v (.flt .f32) x)] [] _; refine VC.seq (VC.text ?_); refine VO.c (.assign rfl) ?_; refine VO.go (VC.seq (VC.text ?_)); refine VO.c (.move rfl) (VO.c (.widenI hu) (VO.c (.assign rfl) ?_)); refine VO.go (VC.seq (VC.seq (VC.text ?_))); refine VO.c (.move rfl) ?_; refine VO.call rfl rfl (VF.call (mNaN_ok (by cases s <;> decide +kernel))) ?_; refine VO.c (.move rfl) (VO.c (.move rfl) ?_); refine VO.call rfl rfl (VF.call (mInf_ok rfl)) ?_; refine VO.c (.pickF rfl rfl) (VO.go ?_); refine VC.condB rfl (fun c2 => ?_) (fun c2 => ?_)
  · refine VC.seq (VC.text ?_); refine VO.c (.assign rfl) (VO.go ?_); refine VC.ret ?_; exact VEnd.one rfl evT (pvI (by unfold lvlE u32 Format.units; rw [hu]))
  exact absurd c2 (by cases s <;> decide +kernel)
theorem mNaNJ_ok : VF Tryz.prog OA 139 [.raw (nanJ .f64)] (B true) := by
  refine VF.enter Tryz.func139 rfl (fun _ _ => rfl) rfl ?_; show VC _ _ _ _ _ [(0, .raw (nanJ .f64))] [] _; refine VC.seq (VC.text ?_); refine VO.c (.assign rfl) ?_; refine VO.go (VC.seq (VC.text ?_)); refine VO.c (.move rfl) (VO.c (.move rfl) (VO.c (.fnancmp2 (k := .f64) (r := true) rfl) (VO.c (.assign rfl) ?_))); refine VO.go ?_; refine VC.ret ?_; exact VEnd.one rfl evT rfl
theorem rLvN_ok {s : Bool} {m : Nat} {x : Nat} (hu : single.read x = .nan s m) : VF Tryz.prog OA 104 [.v (.flt .f32) x] (I (lvlE x)) := by
  refine VF.enter Tryz.func104 rfl (fun _ _ => rfl) rfl ?_; show VC _ _ _ _ _ [(0, .v (.flt .f32) x)] [] _; refine VC.seq (VC.text ?_); refine VO.c (.assign rfl) ?_; refine VO.go (VC.seq (VC.text ?_)); refine VO.c (.move rfl) (VO.c (.widenN hu) (VO.c (.assign rfl) ?_)); refine VO.go (VC.seq (VC.seq (VC.text ?_))); refine VO.c (.move rfl) ?_; refine VO.call rfl rfl (VF.call (mNaNJ_ok )) ?_; refine VO.c (.move rfl) (VO.skip (VO.skip (VO.c (.pickT rfl rfl) ?_))); refine VO.go ?_; refine VC.condT rfl ?_; refine VC.seq (VC.text ?_); refine VO.c (.assign rfl) (VO.go ?_); refine VC.ret ?_; exact VEnd.one rfl evT (pvI (by unfold lvlE u32 Format.units; rw [hu]))
theorem rLv_ok {x : Nat} : VF Tryz.prog OA 104 [.v (.flt .f32) x] (I (lvlE x)) := by
  cases hu : u32 x with
  | some u => exact rLvF_ok hu
  | none =>
    rcases Format.units_none hu with ⟨s, h⟩ | ⟨s, m, h⟩
    · exact rLvI_ok h
    exact rLvN_ok h
theorem sxW {x r : Nat} (hx : lvlE x = 0) (hr : u64 r = some (16 * ((sxE x * 44601490397061246283071436545296723011960832) * (kW : Nat)))) : (double.read r).toInt .zero = some (sxE x) := by
  rw [Format.toInt_units hr (by decide), n1074, cast_mk]; have hk := kW_int; generalize (kW : Int) = k at hk
  have e : 16 * (sxE x * 44601490397061246283071436545296723011960832 * k) = sxE x * (713623846352979940529142984724747568191373312 * k) := by
    rw [← Int.mul_assoc, ← Int.mul_assoc, ← Int.mul_assoc]; congr 1; omega
  rw [e, Int.mul_tdiv_cancel _ (by omega)]
theorem rSix_ok {x : Nat} (hx : lvlE x = 0) : VF Tryz.prog OA 46 [.v (.flt .f32) x] (I (sxE x)) := by
  refine VF.enter Tryz.func46 rfl (fun _ _ => rfl) rfl ?_; show VC _ _ _ _ _ [(0, .v (.flt .f32) x)] [] _; refine VC.seq (VC.text ?_); refine VO.c (.assign rfl) ?_; refine VO.go (VC.seq (VC.text ?_)); refine VO.c (.move rfl) ?_; obtain ⟨hu, h0, h1⟩ := lvl_ok hx; have hb := u32_bound hu; have hy := widen hu hb; obtain ⟨r, hr, hr2⟩ := mul16w v16 hu hy hb; refine VO.c (.widen hu hy) (VO.c (.fop (mul64E hr)) (VO.c (.cvFI (toInt64E (sxW hx hr2)) (fitN (by omega))) (VO.c (.assign rfl) ?_))); refine VO.go ?_; refine VC.ret ?_; exact VEnd.one rfl evT (pvI (by first | rfl | simp))
end Go.Proofs
namespace Go.Fs
variable {P : Program} {orc : FuncId → List Value → Heap → Option (Value × Heap)} {rnd : Option Nat} {h : Heap} {S : List Nat} {σ : Sto} {t : Tr} {fl : VL} {x y : Operand} {T : TypeId} {n : Nat} {τ τ' : Ty} {Q : Ex → VL → Sto → Prop}
section
variable {T' : TypeId}
end
end Go.Fs
namespace Go.Proofs
open Go.Fs Ieee
abbrev y51 : Ty := (.sl (.flt .f32))
theorem vt54 : ValT Tryz.prog 54 (.flt .f32) := valT_of (by kernel_rfl)
theorem el51 : ElT Tryz.prog 51 54 (.flt .f32) := elT_of (by kernel_rfl)
theorem sMapFE_ok {F : Nat → Int} {l : List Nat} {f : PV} (hl : l.length < 100000) (hf : ∀ x ∈ l, VCall Tryz.prog OA f [.v (.flt .f32) x] (I (F x))) : VF Tryz.prog OA 108 [.v y51 l, f] (.v y175 (l.map F)) := by
  refine VF.enter Tryz.func108 rfl (fun _ _ => rfl) rfl ?_; show VC _ _ _ _ _ [(0, .v y51 l), (1, f)] [] _; refine VC.seq (VC.text ?_); refine VO.c (.assign rfl) ?_; refine VO.go (VC.seq (VC.text ?_)); refine VO.c (.assign rfl) ?_; refine VO.go (VC.seq (VC.seq (VC.text ?_))); refine VO.c (.move rfl) ?_; refine VO.r (.len el51) ?_; refine VO.c (.move rfl) ?_; refine VO.go (VC.block ?_); refine VC.cell0 29 (.int .i64) ?_; refine VC.keep [(1, f), (5, .raw (.slice none 0 0)), (8, .v y51 l), (9, I ((l.length : Nat) : Int)), (10, I ((0 : Nat) : Int))] ⟨rfl, rfl, rfl, rfl, rfl, trivial⟩ ?_; refine VC.loop (I := fun kk ff ss => ∃ (j : Nat) (out : Value), kk = l.length - j ∧ ff = [(1, f), (5, .raw out), (8, .v y51 l), (9, I ((l.length : Nat) : Int)), (10, I ((j : Nat) : Int))] ∧ ss = [(out, .row 29 (.int .i64) ((l.take j).map F))] ∧ (j ≤ l.length)) ?_ _ _ _ ⟨0, (.slice none 0 0), rfl, rfl, rfl, Nat.zero_le _⟩; rintro kk ff ss ⟨j, out, hk0, rfl, rfl, hj⟩; refine VC.seq (VC.text ?_); refine VO.c (.lss) ?_; refine VO.go (VC.seq ?_); refine VC.condD rfl (fun c3 => ?_) (fun c3 => ?_)
  · refine VC.skip (VC.seq (VC.block (VC.seq (VC.text ?_)))); refine VO.c (.ix (j := j) rfl rfl el51 (by omega)) ?_; refine VO.r (.ld vt54) ?_; refine VO.c (.assign rfl) ?_; refine VO.go (VC.text ?_); refine VO.c (.move rfl) (VO.c (.move rfl) (VO.c (.move rfl) ?_)); refine VO.call rfl rfl ((hf _ (List.getElem_mem _)) ) ?_; refine VO.new (.lit [F (l[j])] el175) ?_; refine VO.app rfl rfl el175 el175 (by simp; omega) ?_; intro ww1; refine VO.c (.assign rfl) ?_; refine VO.nil (VC.text ?_); refine VO.c (.add rfl rfl (by omega)) (VO.c (.move rfl) ?_); refine VO.nil ?_; refine ⟨_, [(1, f), (5, .raw ww1), (8, .v y51 l), (9, I ((l.length : Nat) : Int)), (10, I (((j + 1) : Nat) : Int))], ?_, ⟨rfl, rfl, rfl, rfl, rfl, trivial⟩, (j + 1), ww1, rfl, rfl, (by rw [List.take_succ_eq_append_getElem (by omega), List.map_append] <;> rfl), (by omega)⟩; omega
  refine VC.exit (VC.seq (VC.text ?_)); refine VO.c (.move rfl) (VO.c (.assign rfl) (VO.go ?_)); refine VC.ret ?_; exact VEnd.one rfl (evC (.row m0)) (pvE (by rw [List.take_of_length_le (by omega)]))
end Go.Proofs
namespace Go.Fs
variable {P : Program} {orc : FuncId → List Value → Heap → Option (Value × Heap)} {rnd : Option Nat} {h h' h0 h1 h2 : Heap} {S S' S0 B G : List Nat} {σ σ' : Sto} {t t' : Tr} {ms : List Nat} {fl nw : VL} {ops : Array Oper} {n : Nat} {l : List Oper} {K : VL → Sto → Prop} {Q : Ex → VL → Sto → Prop}
  {d : Tmp} {ty : TypeId} {pos : String} {after : Array Edge} {op : Op} {v pv : PV} {g : Option (Nat × Bool)} {x y z : Operand} {T T' e : TypeId} {w : Value} {s : ByteArray} {p : Nat}
theorem FreshO.rng (hT : P.underlying T = some .string := by kernel_rfl) (hx : evV fl x = some (.v .str s) := by rfl) : FreshO P fl (.range T x) (.it s 0) :=
  ⟨rfl, fun h S t hs hok hS => by
    have hv : evalO t x = .string s := RepV.str (hs x (by simp [Op.operands]) _ hx : RepV h S .str _ s); refine ⟨fun k => .pointer (some ⟨k, 0, none⟩), .iter s 0, fun _ => rfl, fun S' hN hm => ⟨h.next, rfl, hm, by rw [Heap.get_push, if_pos rfl]⟩, fun H _ _ _ _ _ => ?_⟩; show fsRange P T (evalO t x) H = _; rw [hv]
    simp [fsRange, hT]⟩
theorem MakeV.nextT (hp : p < s.size) (hx : evV fl x = some (.raw w)) : MakeV P fl ((w, .it s p) :: σ) (.next x true) fun v σ' => v = .tup [.v .bool true, .v (.int .i64) ((p : Nat) : Int), .v (.int .i32) (((Utf8.decode s p).1 : Nat) : Int)] ∧ σ' = (w, .it s (p + (Utf8.decode s p).2)) :: σ :=
  ⟨rfl, fun S0 h t L => by
    have h1 : evalO t x = w := evV_ok L.slots hx; obtain ⟨b, h3, h4, hg⟩ := L.cells _ List.mem_cons_self; have hw : w = .pointer (some ⟨b, 0, none⟩) := h3
    have hbk : blk w = [b] := by rw [hw]; rfl
    refine ⟨.tuple #[.bool true, .int .i64 ((p : Nat) : Int), .int .i32 (((Utf8.decode s p).1 : Nat) : Int)], h.set b (.iter s (p + (Utf8.decode s p).2)), _, _, ⟨rfl, rfl⟩, Made.head L (Aft.set hg (by rw [hbk]; simp)) (fun b hb => .inl hb) (by rw [hbk]; simp) fun hN => ?_, ?_, fun _ _ _ _ _ => ?_⟩
    · refine ⟨b, h3, ?_, by rw [Heap.get_set hg, if_pos rfl]⟩; rw [own_cons]; exact List.mem_append_left _ (List.mem_append_left _ (by rw [hbk]; simp))
    · exact ⟨_, rfl, _, _, rfl, RepV.ofBool _, _, _, rfl, RepV.ofInt _ _, _, _, rfl, RepV.ofInt _ _, rfl⟩
    show fsNext (evalO t x) true h = _; rw [h1, hw]
    simp [fsNext, hg, hp]⟩
theorem MakeV.nextF (hp : ¬ p < s.size) (hx : evV fl x = some (.raw w)) : MakeV P fl ((w, .it s p) :: σ) (.next x true) fun v σ' => v = .tup [.v .bool false] ∧ σ' = (w, .it s p) :: σ :=
  ⟨rfl, fun S0 h t L => by
    have h1 : evalO t x = w := evV_ok L.slots hx; obtain ⟨b, h3, h4, hg⟩ := L.cells _ List.mem_cons_self; have hw : w = .pointer (some ⟨b, 0, none⟩) := h3; refine ⟨.tuple #[.bool false], h, _, _, ⟨rfl, rfl⟩, Made.same L (Aft.refl h []), ⟨_, rfl, _, _, rfl, RepV.ofBool _, rfl⟩, fun _ _ _ _ _ => ?_⟩; show fsNext (evalO t x) true h = _; rw [h1, hw]
    simp [fsNext, hg, hp]⟩
theorem VO.next (hx : evV fl x = some (.raw w)) (h1 : p < s.size → VO P orc ops n l ((d, .tup [.v .bool true, .v (.int .i64) ((p : Nat) : Int), .v (.int .i32) (((Utf8.decode s p).1 : Nat) : Int)]) :: fl) ((w, .it s (p + (Utf8.decode s p).2)) :: σ) K) (h2 : ¬ p < s.size → VO P orc ops n l ((d, .tup [.v .bool false]) :: fl) ((w, .it s p) :: σ) K)
    (hw : wantV ops fl g = some true := by rfl) (hn : (Nat.blt d n && Nat.ble n 4000) = true := by rfl) : VO P orc ops n (⟨some d, .next x true, ty, pos, after, g⟩ :: l) fl ((w, .it s p) :: σ) K := by
  by_cases hp : p < s.size
  · exact VO.mk (MakeV.nextT hp hx) (by rintro _ _ ⟨rfl, rfl⟩; exact h1 hp) hw hn
  exact VO.mk (MakeV.nextF hp hx) (by rintro _ _ ⟨rfl, rfl⟩; exact h2 hp) hw hn
theorem CalmV.ext0 {b : Bool} (hx : evV fl x = some (.tup [.v .bool b]) := by rfl) : CalmV P fl σ (.extract x 0) (.v .bool b) := ⟨rfl, fun h S t hs _ => by
  obtain ⟨us, h1, u, r, rfl, h2, h3⟩ := (hs x (by simp [Op.operands]) _ hx : RepPV h S (.tup [.v .bool b]) _); obtain rfl : r = [] := h3; have hu : u = .bool b := RepV.bool h2; subst hu; refine ⟨.bool b, RepV.ofBool _, fun _ _ _ _ _ H => ?_⟩; show (bif isJunk (evalO t x) then none else (runPure P (Instr.extract (evalO t x) 0)).map _) = _; rw [h1]; have hj : isJunk (.tuple [Value.bool b].toArray) = false := rfl; rw [hj]
  rfl⟩
theorem decode_low {i : Nat} (h : (s.get! i).toNat < 128) : Utf8.decode s i = ((s.get! i).toNat, 1) := by
  unfold Utf8.decode; simp only [Nat.add_zero]; rw [if_pos h]
theorem decode_high {i : Nat} (h : ¬ (s.get! i).toNat < 128) : 128 ≤ (Utf8.decode s i).1 := by
  unfold Utf8.decode; simp only [Nat.add_zero]; rw [if_neg h]
  have hr : 128 ≤ Utf8.runeError := by decide
  split
  · split
    · assumption
    exact hr
  split
  · split
    · rename_i hc; have := (Bool.and_eq_true .. ▸ hc : _ ∧ _).1; have := of_decide_eq_true this; simp only; omega
    exact hr
  split
  · split
    · rename_i hc; have := (Bool.and_eq_true .. ▸ hc : _ ∧ _).1; have := of_decide_eq_true this; simp only; omega
    exact hr
  exact hr
structure GdT (ops : Array Oper) (fl : VL) (g : Option (Nat × Bool)) (b : Bool) : Prop where
  want : ∀ {h : Heap} {S : List Nat} {t : Tr}, Slots h S t fl → ∀ o : Oper, o.guard = g → fsWanted ops t o = some b
end Go.Fs
namespace Go.Fs
instance : DecidableEq (Ty.den .str) := inferInstanceAs (DecidableEq ByteArray)
instance {k : IntKind} : DecidableEq (Ty.den (.int k)) := inferInstanceAs (DecidableEq Int)
instance : DecidableEq (Ty.den .bool) := inferInstanceAs (DecidableEq Bool)
instance {a b : Ty} [DecidableEq a.den] [DecidableEq b.den] : DecidableEq (Ty.den (.pair a b)) := inferInstanceAs (DecidableEq (a.den × b.den))
variable {P : Program} {orc : FuncId → List Value → Heap → Option (Value × Heap)} {fl : VL} {σ γ : Sto} {T : TypeId} {τ : Ty}
theorem repL_raw {h : Heap} {S : List Nat} : ∀ (us : List Value), RepL h S (us.map PV.raw) us
  | [] => rfl
  | u :: r => ⟨u, r, rfl, rfl, repL_raw r⟩
theorem CalmV.buildA {pl : List (Nat × Nat)} {parts : Array (Nat × Operand)} {zs : List Value} {ps cs : List PV} (hT : BldT P T τ pl) (hz : zeroC τ = zs := by rfl) (hps : evVs fl (parts.toList.map (·.2)) = some ps := by rfl) (hb : bldL pl (zs.map .raw) (parts.toList.map (·.1)) ps = some cs := by rfl) : CalmV P fl σ (.build T parts) (.agg cs) :=
  ⟨rfl, fun h S t hs _ => by
    obtain ⟨z, z1, z2, z3⟩ := hT.zer.zero; obtain ⟨y1, y2⟩ := zero_rep h S τ; have hr : RepL h S ps ((parts.toList.map (·.2)).map (evalO t)) := sees_list (fun x hx => hs x (by simpa [Op.operands] using hx)) hps; obtain ⟨cs', f1, f2, f3, f4⟩ := fill_bld hb hr (show RepL h S (zs.map .raw) (zeroC τ) from by rw [hz]; exact repL_raw zs) (af0_one y2); refine ⟨.agg cs'.toArray, ⟨cs', rfl, f2⟩, fun _ _ _ _ _ H => ?_⟩; show (bif (parts.toList.all fun p => (evalO t p.2).cells.toList.all oneCell) && ((((P.info? T).bind (·.zero)).map fun z => z.cells.toList.all af0) == some true) then (runPure P (Instr.build T (parts.map fun p => (p.1, evalO t p.2)))).map fun v => (v, H) else none) = _
    have c1 : (parts.toList.all fun p => (evalO t p.2).cells.toList.all oneCell) = true := by
      rw [List.map_map, List.all_map] at f3; exact f3
    have c2 : ((((P.info? T).bind (·.zero)).map fun z => z.cells.toList.all af0) == some true) = true := by
      rw [z1]
      have e : z.cells.toList.all af0 = true := by rw [z2]; exact y2
      simp only [Option.map_some, e]; rfl
    have hrun := hT.run z (parts.map fun p => (p.1, evalO t p.2)) cs'.toArray z1 (by
      rw [← f1, Array.toList_map, ← zip_map, List.map_map]; congr 1
      rw [← z2])
    rw [c1, c2, hrun]
    rfl⟩
def byteE (s : ByteArray) (i : Int) : Int := (((s.get! i.toNat).toNat : Nat) : Int)
theorem byteE_nat (s : ByteArray) (i : Nat) : byteE s i = (((s.get! i).toNat : Nat) : Int) := rfl
theorem byteE_range (s : ByteArray) (i : Int) : 0 ≤ byteE s i ∧ byteE s i < 256 := by
  have := (s.get! i.toNat).toNat_lt; unfold byteE; omega
theorem CalmV.ixS {x y : Operand} {s : ByteArray} {i : Int} (hx : evV fl x = some (.v .str s)) (hy : evV fl y = some (.v (.int .i64) i)) (h0 : 0 ≤ i) (h1 : i < (s.size : Nat)) (hT : P.underlying T = some .string := by kernel_rfl) : CalmV P fl σ (.index T x y) (.v (.int .u8) (byteE s i)) :=
  ⟨rfl, fun h S t hq _ => by
    have hv : evalO t x = .string s := RepV.str (hq x (by simp [Op.operands]) _ hx : RepV h S .str _ s); have hi : evalO t y = .int .i64 i := RepV.int (hq y (by simp [Op.operands]) _ hy : RepV h S (.int .i64) _ i); refine ⟨.int .u8 (byteE s i), RepV.ofInt _ _, fun _ _ _ _ _ H => ?_⟩; show (if af (evalO t y) then (runPure P (Instr.index T (evalO t x) (evalO t y))).map _ else none) = _; rw [hi, hv, if_pos (show af (Value.int .i64 i) = true from rfl)]
    have hb : i.toNat < s.size := by omega
    have h8 : s[i.toNat]? = some (s.get! i.toNat) := by
      rw [getElem?_pos s i.toNat hb]; congr 1; show s.data[i.toNat] = s.data[i.toNat]!; rw [getElem!_pos s.data i.toNat hb]
    have h9 : runPure P (Instr.index T (.string s) (.int .i64 i)) = some (.int .u8 (byteE s i)) := by
      unfold Instr.index; simp only [runPure_bind, asIntOf, runPure_pure, Option.bind_some, runPure_underlying hT, if_pos h0, h8]; rfl
    rw [h9]; rfl⟩
end Go.Fs
namespace Go.Proofs
open Go.Fs Ieee
def letterB (c : Int) : Bool := decide (65 ≤ c ∧ c ≤ 90 ∨ 97 ≤ c ∧ c ≤ 122)
def otherB (c : Int) : Bool := decide (48 ≤ c ∧ c ≤ 57 ∨ c = 95)
def byteB (c : Int) (i : Nat) : Bool := letterB c || (decide (i ≠ 0) && otherB c)
def nameB (s : ByteArray) : Bool := decide (s.size ≠ 0 ∧ s.size ≤ 24 ∧ ∀ i, i < s.size → byteB (byteE s i) i = true)
theorem nameB_f {s : ByteArray} {i : Nat} (hi : i < s.size) (h : byteB (byteE s i) i = false) : false = nameB s := by
  refine (decide_eq_false fun hh => ?_).symm; rw [hh.2.2 i hi] at h; cases h
theorem nameB_t {s : ByteArray} (h1 : s.size ≠ 0) (h2 : s.size ≤ 24) (h : ∀ i, i < s.size → byteB (byteE s i) i = true) : true = nameB s := (decide_eq_true ⟨h1, h2, h⟩).symm
theorem size_empty {s : ByteArray} : s ≠ ByteArray.empty ↔ s.size ≠ 0 := by
  constructor
  · intro h e; exact h (ByteArray.ext (Array.eq_empty_of_size_eq_zero e))
  rintro h rfl; exact h rfl
theorem byteB_high {c : Int} {i : Nat} (h : 128 ≤ c) : byteB c i = false := by
  have h1 : letterB c = false := decide_eq_false (by omega); have h2 : otherB c = false := decide_eq_false (by omega); rw [byteB, h1, h2]; simp
theorem rune_f {s : ByteArray} {p : Nat} (h : byteB ((Utf8.decode s p).1 : Nat) p = false) : byteB (byteE s p) p = false := by
  by_cases hl : (s.get! p).toNat < 128
  · rw [decode_low hl] at h; exact h
  exact byteB_high (by rw [byteE_nat]; omega)
theorem rune_t {s : ByteArray} {p : Nat} (h : byteB ((Utf8.decode s p).1 : Nat) p = true) : byteB (byteE s p) p = true ∧ (Utf8.decode s p).2 = 1 := by
  by_cases hl : (s.get! p).toNat < 128
  · rw [decode_low hl] at h ⊢; exact ⟨h, rfl⟩
  have := decode_high hl; rw [byteB_high (by omega)] at h; cases h
theorem name_end {s : ByteArray} (h : ∀ i, i < s.size → byteB (byteE s i) i = true) : (decide (s ≠ ByteArray.empty) && decide (((s.size : Nat) : Int) ≤ 24)) = nameB s := by
  rw [← Bool.decide_and]; exact decide_eq_decide.2 ⟨fun hh => ⟨size_empty.1 hh.1, by omega, h⟩, fun hh => ⟨size_empty.2 hh.1, by omega⟩⟩
theorem gName_ok {s : ByteArray} : VF Tryz.prog OA 92 [St s] (B (nameB s)) := by
  refine VF.enter Tryz.func92 rfl (fun _ _ => rfl) rfl ?_; show VC _ _ _ _ _ [(0, St s)] [] _; refine VC.seq (VC.text ?_); refine VO.c (.assign rfl) ?_; refine VO.go (VC.seq (VC.seq (VC.text ?_))); refine VO.c (.move rfl) ?_; refine VO.cell (.rng) ?_; intro ww1; refine VO.go (VC.block ?_); refine VC.keep [(0, St s), (8, .raw ww1)] ⟨rfl, rfl, trivial⟩ ?_; refine VC.loop (I := fun kk ff ss => ∃ (p : Nat), kk = s.size - p ∧ ff = [(0, St s), (8, .raw ww1)] ∧ ss = [(ww1, .it s p)] ∧ (p ≤ s.size) ∧ (∀ i, i < p → byteB (byteE s i) i = true)) ?_ _ _ _ ⟨0, rfl, rfl, rfl, Nat.zero_le _, (by intro i hi; omega)⟩; rintro kk ff ss ⟨p, hk0, rfl, rfl, hp, hq⟩; refine VC.seq (VC.text ?_); refine VO.next rfl (fun h2_0 => ?_) (fun h2_0 => ?_)
  · refine VO.c (.extract) ?_; refine VO.go (VC.seq ?_); refine VC.condT rfl ?_; refine VC.skip (VC.block (VC.seq (VC.text ?_))); refine VO.c (.extract) (VO.c (.extract) (VO.c (.assign rfl) (VO.c (.assign rfl) ?_))); refine VO.go (VC.seq ?_); refine VC.join [(0, St s), (3, I ((p : Nat) : Int)), (4, .v (.int .i32) (((Utf8.decode s p).1 : Nat) : Int)), (5, B (letterB ((Utf8.decode s p).1 : Nat))), (8, .raw ww1)] [(ww1, .it s (p + (Utf8.decode s p).2))] ?_ ?_
    · skip
      refine VC.text ?_; refine VO.c (.move rfl) (VO.c (.geq) (VO.c (.move rfl) ?_)); refine VO.splitD (x := 15) rfl (fun g4_2 => ?_) (fun g4_2 => ?_)
      · refine VO.c (.move rfl) (VO.c (.leq) (VO.c (.pickT rfl rfl) (VO.c (.move rfl) ?_))); refine VO.splitD (x := 19) rfl (fun g4_6 => ?_) (fun g4_6 => ?_)
        · refine VO.skip (VO.skip (VO.skip (VO.skip ?_))); refine VO.skip (VO.skip (VO.c (.pickT rfl rfl) (VO.c (.assign rfl) ?_))); refine VO.nil ?_; exact ⟨⟨rfl, rfl, rfl, slE rfl (by rw [Bool.eq_iff_iff]; simp [letterB] <;> omega), rfl, trivial⟩, rfl⟩
        refine VO.c (.move rfl) (VO.c (.geq) (VO.c (.move rfl) ?_)); refine VO.cg (r := decide ((97 : Int) ≤ (((Utf8.decode s p).1 : Nat) : Int))) (w := true) [] trivial (fun _ => (.move rfl)) ?_; refine VO.cg (r := decide ((97 : Int) ≤ (((Utf8.decode s p).1 : Nat) : Int))) (w := true) [(23, .v (.int .i32) (((Utf8.decode s p).1 : Nat) : Int))] ⟨rfl, trivial⟩ (fun _ => (.leq)) ?_; refine VO.c (.and) (VO.c (.pickF rfl rfl) (VO.c (.assign rfl) ?_)); refine VO.nil ?_; exact ⟨⟨rfl, rfl, rfl, slE rfl (by rw [Bool.eq_iff_iff]; simp [letterB] <;> omega), rfl, trivial⟩, rfl⟩
      refine VO.skip (VO.skip (VO.c (.pickF rfl rfl) (VO.c (.move rfl) ?_))); refine VO.c (.move rfl) (VO.c (.geq) (VO.c (.move rfl) ?_)); refine VO.cg (r := decide ((97 : Int) ≤ (((Utf8.decode s p).1 : Nat) : Int))) (w := true) [] trivial (fun _ => (.move rfl)) ?_; refine VO.cg (r := decide ((97 : Int) ≤ (((Utf8.decode s p).1 : Nat) : Int))) (w := true) [(23, .v (.int .i32) (((Utf8.decode s p).1 : Nat) : Int))] ⟨rfl, trivial⟩ (fun _ => (.leq)) ?_; refine VO.c (.and) (VO.c (.pickF rfl rfl) (VO.c (.assign rfl) ?_)); refine VO.nil ?_; exact ⟨⟨rfl, rfl, rfl, slE rfl (by rw [Bool.eq_iff_iff]; simp [letterB] <;> omega), rfl, trivial⟩, rfl⟩
    refine VC.seq ?_; refine VC.join [(0, St s), (3, I ((p : Nat) : Int)), (5, B (letterB ((Utf8.decode s p).1 : Nat))), (6, B (otherB ((Utf8.decode s p).1 : Nat))), (8, .raw ww1)] [(ww1, .it s (p + (Utf8.decode s p).2))] ?_ ?_
    · skip
      refine VC.text ?_; refine VO.c (.move rfl) (VO.c (.geq) (VO.c (.move rfl) ?_)); refine VO.splitD (x := 29) rfl (fun g5_2 => ?_) (fun g5_2 => ?_)
      · refine VO.c (.move rfl) (VO.c (.leq) (VO.c (.pickT rfl rfl) (VO.c (.move rfl) ?_))); refine VO.cg (r := decide ((((Utf8.decode s p).1 : Nat) : Int) ≤ (57 : Int))) (w := false) [] trivial (fun _ => (.move rfl)) ?_; refine VO.cg (r := decide ((((Utf8.decode s p).1 : Nat) : Int) ≤ (57 : Int))) (w := false) [(34, .v (.int .i32) (((Utf8.decode s p).1 : Nat) : Int))] ⟨rfl, trivial⟩ (fun _ => (.eql)) ?_; refine VO.c (.or) (VO.c (.assign rfl) ?_); refine VO.nil ?_; exact ⟨⟨rfl, rfl, rfl, slE rfl (by rw [Bool.eq_iff_iff]; simp [otherB] <;> omega), rfl, trivial⟩, rfl⟩
      refine VO.skip (VO.skip (VO.c (.pickF rfl rfl) (VO.c (.move rfl) ?_))); refine VO.c (.move rfl) (VO.c (.eql) (VO.c (.pickF rfl rfl) (VO.c (.assign rfl) ?_))); refine VO.nil ?_; exact ⟨⟨rfl, rfl, rfl, slE rfl (by rw [Bool.eq_iff_iff]; simp [otherB] <;> omega), rfl, trivial⟩, rfl⟩
    refine VC.seq ?_; refine VC.join [(0, St s), (8, .raw ww1), (46, B (!byteB ((Utf8.decode s p).1 : Nat) p))] [(ww1, .it s (p + (Utf8.decode s p).2))] ?_ ?_
    · skip
      refine VC.text ?_; refine VO.c (.move rfl) (VO.c (.not) (VO.c (.move rfl) ?_)); refine VO.splitB (x := 39) rfl (fun g6_2 => ?_) (fun g6_2 => ?_)
      · try simp only [Bool.and_eq_true, Bool.or_eq_true, Bool.and_eq_false_iff, Bool.or_eq_false_iff, Bool.not_eq_true', Bool.not_eq_false', decide_eq_true_eq, decide_eq_false_iff_not] at g6_2
        refine VO.c (.move rfl) (VO.c (.eql) (VO.c (.move rfl) ?_)); refine VO.cg (r := decide (((p : Nat) : Int) = (0 : Int))) (w := false) [] trivial (fun _ => (.move rfl)) ?_; refine VO.cg (r := decide (((p : Nat) : Int) = (0 : Int))) (w := false) [(43, B (otherB ((Utf8.decode s p).1 : Nat)))] ⟨rfl, trivial⟩ (fun _ => (.not)) ?_; refine VO.c (.or) (VO.c (.pickT rfl rfl) ?_); refine VO.nil ?_; exact ⟨⟨rfl, rfl, slE rfl (by simp [byteB, *]), trivial⟩, rfl⟩
      try simp only [Bool.and_eq_true, Bool.or_eq_true, Bool.and_eq_false_iff, Bool.or_eq_false_iff, Bool.not_eq_true', Bool.not_eq_false', decide_eq_true_eq, decide_eq_false_iff_not] at g6_2
      refine VO.skip (VO.skip (VO.skip (VO.skip ?_))); refine VO.skip (VO.skip (VO.c (.pickF rfl rfl) ?_)); refine VO.nil ?_; exact ⟨⟨rfl, rfl, slE rfl (by simp [byteB, *]), trivial⟩, rfl⟩
    refine VC.condB rfl (fun c6 => ?_) (fun c6 => ?_)
    · try simp only [Bool.and_eq_true, Bool.or_eq_true, Bool.and_eq_false_iff, Bool.or_eq_false_iff, Bool.not_eq_true', Bool.not_eq_false', decide_eq_true_eq, decide_eq_false_iff_not] at c6
      refine VC.seq (VC.text ?_); refine VO.c (.assign rfl) (VO.go ?_); refine VC.ret ?_; exact VEnd.one rfl evT (pvE (by exact nameB_f h2_0 (rune_f c6)))
    try simp only [Bool.and_eq_true, Bool.or_eq_true, Bool.and_eq_false_iff, Bool.or_eq_false_iff, Bool.not_eq_true', Bool.not_eq_false', decide_eq_true_eq, decide_eq_false_iff_not] at c6
    refine VC.skip ?_; refine ⟨_, [(0, St s), (8, .raw ww1)], ?_, ⟨rfl, rfl, trivial⟩, (p + 1), rfl, rfl, (by rw [(rune_t c6).2]), (by omega), (by intro i hi; rcases Nat.lt_succ_iff_lt_or_eq.1 hi with h | h; exact hq i h; subst h; exact (rune_t c6).1)⟩; omega
  refine VO.c (.ext0) ?_; refine VO.go (VC.seq ?_); refine VC.condF rfl ?_; refine VC.exit (VC.seq (VC.text ?_)); refine VO.c (.move rfl) (VO.c (.sneq) (VO.c (.move rfl) ?_)); refine VO.cg (r := decide (s ≠ ByteArray.empty)) (w := true) [] trivial (fun _ => (.move rfl)) ?_; refine VO.rg (r := decide (s ≠ ByteArray.empty)) (w := true) [(50, St s)] ⟨rfl, trivial⟩ (fun _ => (.lenS)) ?_; refine VO.cg (r := decide (s ≠ ByteArray.empty)) (w := true) [(51, I ((s.size : Nat) : Int))] ⟨rfl, trivial⟩ (fun _ => (.leq)) ?_; refine VO.c (.and) (VO.c (.assign rfl) (VO.go ?_)); refine VC.ret ?_; exact VEnd.one rfl evT (pvE (by exact name_end (fun i hi => hq i (by omega))))
theorem rName_ok {s : ByteArray} : VF Tryz.prog OA 138 [St s] (B (nameB s)) := by
  refine VF.enter Tryz.func138 rfl (fun _ _ => rfl) rfl ?_; show VC _ _ _ _ _ [(0, St s)] [] _; refine VC.seq (VC.text ?_); refine VO.c (.assign rfl) ?_; refine VO.go (VC.seq (VC.seq (VC.text ?_))); refine VO.c (.move rfl) ?_; refine VO.r (.lenS) ?_; refine VO.c (.eql) (VO.c (.move rfl) ?_); refine VO.cg (r := decide (((s.size : Nat) : Int) = (0 : Int))) (w := false) [] trivial (fun _ => (.move rfl)) ?_; refine VO.rg (r := decide (((s.size : Nat) : Int) = (0 : Int))) (w := false) [(9, St s)] ⟨rfl, trivial⟩ (fun _ => (.lenS)) ?_; refine VO.cg (r := decide (((s.size : Nat) : Int) = (0 : Int))) (w := false) [(10, I ((s.size : Nat) : Int))] ⟨rfl, trivial⟩ (fun _ => (.gtr)) ?_; refine VO.c (.or) (VO.go ?_); refine VC.condB rfl (fun c1 => ?_) (fun c1 => ?_)
  · try simp only [Bool.and_eq_true, Bool.or_eq_true, Bool.and_eq_false_iff, Bool.or_eq_false_iff, Bool.not_eq_true', Bool.not_eq_false', decide_eq_true_eq, decide_eq_false_iff_not] at c1
    refine VC.seq (VC.text ?_); refine VO.c (.assign rfl) (VO.go ?_); refine VC.ret ?_; exact VEnd.one rfl evT (pvE (by exact (decide_eq_false fun hh => by have := hh.1; have := hh.2.1; omega).symm))
  try simp only [Bool.and_eq_true, Bool.or_eq_true, Bool.and_eq_false_iff, Bool.or_eq_false_iff, Bool.not_eq_true', Bool.not_eq_false', decide_eq_true_eq, decide_eq_false_iff_not] at c1
  refine VC.skip (VC.seq (VC.seq (VC.text ?_))); refine VO.c (.assign rfl) ?_; refine VO.go (VC.block ?_); refine VC.keep [(0, St s), (3, I ((0 : Nat) : Int))] ⟨rfl, rfl, trivial⟩ ?_; refine VC.loop (I := fun kk ff ss => ∃ (i : Nat), kk = s.size - i ∧ ff = [(0, St s), (3, I ((i : Nat) : Int))] ∧ ss = [] ∧ (i ≤ s.size) ∧ (∀ k, k < i → byteB (byteE s k) k = true)) ?_ _ _ _ ⟨0, rfl, rfl, rfl, Nat.zero_le _, (by intro k hk; omega)⟩; rintro kk ff ss ⟨i, hk0, rfl, rfl, hi, hq⟩; refine VC.seq (VC.seq (VC.text ?_)); refine VO.c (.move rfl) (VO.c (.move rfl) ?_); refine VO.r (.lenS) ?_; refine VO.c (.lss) (VO.go ?_); refine VC.condD rfl (fun c4 => ?_) (fun c4 => ?_)
  · refine VC.skip (VC.seq (VC.block (VC.seq (VC.text ?_)))); refine VO.c (.move rfl) (VO.c (.move rfl) (VO.c (.ixS rfl rfl (by omega) (by omega)) (VO.c (.assign rfl) ?_))); refine VO.go (VC.seq (VC.seq ?_)); refine VC.join [(0, St s), (3, I ((i : Nat) : Int)), (4, .v (.int .u8) (byteE s ((i : Nat) : Int))), (35, B (letterB (byteE s i)))] [] ?_ ?_
    · skip
      refine VC.text ?_; refine VO.c (.move rfl) (VO.c (.geq) (VO.c (.move rfl) ?_)); refine VO.splitD (x := 24) rfl (fun g7_2 => ?_) (fun g7_2 => ?_)
      · refine VO.c (.move rfl) (VO.c (.leq) (VO.c (.pickT rfl rfl) (VO.c (.move rfl) ?_))); refine VO.splitD (x := 28) rfl (fun g7_6 => ?_) (fun g7_6 => ?_)
        · refine VO.skip (VO.skip (VO.skip (VO.skip ?_))); refine VO.skip (VO.skip (VO.c (.pickT rfl rfl) ?_)); refine VO.nil ?_; exact ⟨⟨rfl, rfl, rfl, slE rfl (by rw [Bool.eq_iff_iff]; simp [letterB] <;> omega), trivial⟩, rfl⟩
        refine VO.c (.move rfl) (VO.c (.geq) (VO.c (.move rfl) ?_)); refine VO.cg (r := decide ((65 : Int) ≤ (byteE s ((i : Nat) : Int)))) (w := true) [] trivial (fun _ => (.move rfl)) ?_; refine VO.cg (r := decide ((65 : Int) ≤ (byteE s ((i : Nat) : Int)))) (w := true) [(32, .v (.int .u8) (byteE s ((i : Nat) : Int)))] ⟨rfl, trivial⟩ (fun _ => (.leq)) ?_; refine VO.c (.and) (VO.c (.pickF rfl rfl) ?_); refine VO.nil ?_; exact ⟨⟨rfl, rfl, rfl, slE rfl (by rw [Bool.eq_iff_iff]; simp [letterB] <;> omega), trivial⟩, rfl⟩
      refine VO.skip (VO.skip (VO.c (.pickF rfl rfl) (VO.c (.move rfl) ?_))); refine VO.c (.move rfl) (VO.c (.geq) (VO.c (.move rfl) ?_)); refine VO.cg (r := decide ((65 : Int) ≤ (byteE s ((i : Nat) : Int)))) (w := true) [] trivial (fun _ => (.move rfl)) ?_; refine VO.cg (r := decide ((65 : Int) ≤ (byteE s ((i : Nat) : Int)))) (w := true) [(32, .v (.int .u8) (byteE s ((i : Nat) : Int)))] ⟨rfl, trivial⟩ (fun _ => (.leq)) ?_; refine VO.c (.and) (VO.c (.pickF rfl rfl) ?_); refine VO.nil ?_; exact ⟨⟨rfl, rfl, rfl, slE rfl (by rw [Bool.eq_iff_iff]; simp [letterB] <;> omega), trivial⟩, rfl⟩
    refine VC.condB rfl (fun c7 => ?_) (fun c7 => ?_)
    · have hok : byteB (byteE s i) i = true := by rw [byteB, c7] <;> rfl
      refine VC.exit (VC.text ?_); refine VO.c (.move rfl) (VO.c (.add rfl rfl (by omega)) (VO.c (.assign rfl) ?_)); refine VO.nil ?_; refine ⟨_, [(0, St s), (3, I (((i + 1) : Nat) : Int))], ?_, ⟨rfl, rfl, trivial⟩, (i + 1), rfl, rfl, rfl, (by omega), (by intro k hk; rcases Nat.lt_succ_iff_lt_or_eq.1 hk with h | h; exact hq k h; subst h; exact hok)⟩; omega
    refine VC.skip (VC.seq ?_); refine VC.join [(0, St s), (3, I ((i : Nat) : Int)), (49, B (!(decide (i ≠ 0) && otherB (byteE s i))))] [] ?_ ?_
    · skip
      refine VC.text ?_; refine VO.c (.move rfl) (VO.c (.eql) (VO.c (.move rfl) ?_)); refine VO.splitD (x := 38) rfl (fun g8_2 => ?_) (fun g8_2 => ?_)
      · refine VO.skip (VO.skip (VO.skip (VO.skip ?_))); refine VO.skip (VO.skip (VO.skip (VO.skip ?_))); refine VO.skip (VO.skip (VO.c (.pickT rfl rfl) ?_)); refine VO.nil ?_; exact ⟨⟨rfl, rfl, slE rfl (by rw [Bool.eq_iff_iff]; simp [otherB] <;> omega), trivial⟩, rfl⟩
      refine VO.c (.move rfl) (VO.c (.neq) (VO.c (.move rfl) ?_)); refine VO.splitD (x := 41) rfl (fun g8_5 => ?_) (fun g8_5 => ?_)
      · refine VO.c (.move rfl) (VO.c (.lss) (VO.c (.move rfl) ?_)); refine VO.cg (r := decide ((byteE s ((i : Nat) : Int)) < (48 : Int))) (w := false) [] trivial (fun _ => (.move rfl)) ?_; refine VO.cg (r := decide ((byteE s ((i : Nat) : Int)) < (48 : Int))) (w := false) [(45, .v (.int .u8) (byteE s ((i : Nat) : Int)))] ⟨rfl, trivial⟩ (fun _ => (.gtr)) ?_; refine VO.c (.or) (VO.c (.pickT rfl rfl) (VO.c (.pickF rfl rfl) ?_)); refine VO.nil ?_; exact ⟨⟨rfl, rfl, slE rfl (by rw [Bool.eq_iff_iff]; simp [otherB] <;> omega), trivial⟩, rfl⟩
      refine VO.skip (VO.skip (VO.skip (VO.skip ?_))); refine VO.skip (VO.skip (VO.c (.pickF rfl rfl) (VO.c (.pickF rfl rfl) ?_))); refine VO.nil ?_; exact ⟨⟨rfl, rfl, slE rfl (by rw [Bool.eq_iff_iff]; simp [otherB] <;> omega), trivial⟩, rfl⟩
    refine VC.condB rfl (fun c8 => ?_) (fun c8 => ?_)
    · try simp only [Bool.and_eq_true, Bool.or_eq_true, Bool.and_eq_false_iff, Bool.or_eq_false_iff, Bool.not_eq_true', Bool.not_eq_false', decide_eq_true_eq, decide_eq_false_iff_not] at c8
      refine VC.seq (VC.text ?_); refine VO.c (.assign rfl) (VO.go ?_); refine VC.ret ?_; exact VEnd.one rfl evT (pvE (by exact nameB_f (i := i) (by omega) (by simp only [byteB, c7, Bool.false_or, Bool.and_eq_false_iff, decide_eq_false_iff_not]; exact c8)))
    try simp only [Bool.and_eq_true, Bool.or_eq_true, Bool.and_eq_false_iff, Bool.or_eq_false_iff, Bool.not_eq_true', Bool.not_eq_false', decide_eq_true_eq, decide_eq_false_iff_not] at c8
    have hok : byteB (byteE s i) i = true := by simp [byteB, *]
    refine VC.skip (VC.text ?_); refine VO.c (.move rfl) (VO.c (.add rfl rfl (by omega)) (VO.c (.assign rfl) ?_)); refine VO.nil ?_; refine ⟨_, [(0, St s), (3, I (((i + 1) : Nat) : Int))], ?_, ⟨rfl, rfl, trivial⟩, (i + 1), rfl, rfl, rfl, (by omega), (by intro k hk; rcases Nat.lt_succ_iff_lt_or_eq.1 hk with h | h; exact hq k h; subst h; exact hok)⟩; omega
  refine VC.exit (VC.seq (VC.text ?_)); refine VO.c (.assign rfl) (VO.go ?_); refine VC.ret ?_; exact VEnd.one rfl evT (pvE (by exact nameB_t (by omega) (by omega) (fun k hk => hq k (by omega))))
theorem rNameE_ok {s : ByteArray} : VF Tryz.prog OA 102 [St s] (I (whenE (!nameB s) 8)) := by
  refine VF.enter Tryz.func102 rfl (fun _ _ => rfl) rfl ?_; show VC _ _ _ _ _ [(0, St s)] [] _; refine VC.seq (VC.text ?_); refine VO.c (.assign rfl) ?_; refine VO.go (VC.seq (VC.seq (VC.text ?_))); refine VO.c (.move rfl) ?_; refine VO.call rfl rfl (VF.call (rName_ok )) ?_; refine VO.c (.not) (VO.go ?_); refine VC.condB rfl (fun c1 => ?_) (fun c1 => ?_)
  · try simp only [Bool.and_eq_true, Bool.or_eq_true, Bool.and_eq_false_iff, Bool.or_eq_false_iff, Bool.not_eq_true', Bool.not_eq_false', decide_eq_true_eq, decide_eq_false_iff_not] at c1
    refine VC.seq (VC.text ?_); refine VO.c (.assign rfl) (VO.go ?_); refine VC.ret ?_; exact VEnd.one rfl evT (pvI (by simp [whenE, *]))
  try simp only [Bool.and_eq_true, Bool.or_eq_true, Bool.and_eq_false_iff, Bool.or_eq_false_iff, Bool.not_eq_true', Bool.not_eq_false', decide_eq_true_eq, decide_eq_false_iff_not] at c1
  refine VC.skip (VC.seq (VC.text ?_)); refine VO.c (.assign rfl) (VO.go ?_); refine VC.ret ?_; exact VEnd.one rfl evT (pvI (by simp [whenE, *]))
end Go.Proofs
namespace Go.Proofs
open Go.Fs Ieee
abbrev y32 : Ty := (.sl (.pair .str (.int .i64)))
abbrev y34 : Ty := (.pair (.int .i64) (.pair (.int .i64) (.pair (.int .i64) (.sl (.pair .str (.int .i64))))))
abbrev y102 : Ty := (.pair .str (.int .i64))
abbrev y129 : Ty := (.mp .str (.int .i64))
theorem vt9 : ValT Tryz.prog 9 .str := valT_of (by kernel_rfl)
theorem vt32 : ValT Tryz.prog 32 y32 := valT_of (by kernel_rfl)
theorem vt102 : ValT Tryz.prog 102 y102 := valT_of (by kernel_rfl)
theorem el32 : ElT Tryz.prog 32 102 y102 := elT_of (by kernel_rfl)
theorem zt3 : ZerT Tryz.prog 3 (.int .i64) := zerT_of (z := .int .i64 0) (by kernel_rfl) rfl rfl
theorem zt4 : ZerT Tryz.prog 4 .bool := zerT_of (z := .bool false) (by kernel_rfl) rfl rfl
theorem zt102 : ZerT Tryz.prog 102 y102 := zerT_of (z := .agg #[.string ByteArray.empty, .int .i64 0]) (by kernel_rfl) rfl rfl
theorem mt129 : MapT Tryz.prog 129 .str (.int .i64) := ⟨9, 3, by kernel_rfl, keyStr (by kernel_rfl), zt3⟩
theorem mt176 : MapT Tryz.prog 176 .str .bool := ⟨9, 4, by kernel_rfl, keyStr (by kernel_rfl), zt4⟩
abbrev Mems := List (ByteArray × Int)
def nmE (l : Mems) (i : Nat) : ByteArray := (l.map (·.1)).getD i ByteArray.empty
def wgtE (l : Mems) (i : Nat) : Int := (l.map (·.2)).getD i 0
theorem nmE_eq {l : Mems} {i : Nat} (h : i < l.length) : l[i].1 = nmE l i := by simp [nmE, h]
theorem wgtE_eq {l : Mems} {i : Nat} (h : i < l.length) : l[i].2 = wgtE l i := by simp [wgtE, h]
def knownM (l : Mems) : Nat → List (ByteArray × Bool)
  | 0 => []
  | i + 1 => mset (knownM l i) (nmE l i) true
def idxM (l : Mems) : Nat → List (ByteArray × Int)
  | 0 => []
  | i + 1 => mset (idxM l i) (nmE l i) (i : Int)
theorem mget_mset {α β : Type} [DecidableEq α] : ∀ (m : List (α × β)) (x z : α) (y : β), mget (mset m x y) z = if z = x then some y else mget m z
  | [], x, z, y => by simp [mset, mget]
  | (k, v) :: r, x, z, y => by
    by_cases h : x = k
    · subst h; simp only [mset, if_pos, mget]; split <;> rfl
    simp only [mset, if_neg h, mget, mget_mset r x z y]; by_cases h2 : z = k
    · rw [if_pos h2, if_pos h2, if_neg (fun e => h (e.symm.trans h2))]
    rw [if_neg h2, if_neg h2]
theorem known_iff {l : Mems} {x : ByteArray} : ∀ (i : Nat), (mget (knownM l i) x).getD false = true ↔ ∃ k, k < i ∧ nmE l k = x
  | 0 => by simp [knownM, mget]
  | i + 1 => by
    rw [knownM, mget_mset]; by_cases h : x = nmE l i
    · rw [if_pos h]; simp only [Option.getD_some, true_iff]; exact ⟨i, by omega, h.symm⟩
    rw [if_neg h, known_iff i]; constructor
    · rintro ⟨k, h1, h2⟩; exact ⟨k, by omega, h2⟩
    rintro ⟨k, h1, h2⟩; rcases Nat.lt_succ_iff_lt_or_eq.1 h1 with h3 | h3
    · exact ⟨k, h3, h2⟩
    subst h3; exact absurd h2.symm h
def memE (l : Mems) (i : Nat) : Int := firstE [whenE (!nameB (nmE l i)) 8, rangeE (wgtE l i) 1 1000, whenE ((mget (knownM l i) (nmE l i)).getD false) 9]
theorem memX {l : Mems} {i : Nat} (h : i < l.length) : firstE [whenE (!nameB l[i].1) 8, rangeE l[i].2 1 1000, whenE ((mget (knownM l i) l[i].1).getD false) 9] = memE l i := by rw [nmE_eq h, wgtE_eq h] <;> rfl
def domP (d : Int × Int × Int × Mems) : Int := firstE [rangeE d.1 1 8, rangeE d.2.1 1 8, rangeE d.2.2.1 1 96, whenE (decide ((d.2.2.2.length : Int) = 0)) 12, whenE (decide ((16 : Int) < d.2.2.2.length)) 5]
def domE (d : Int × Int × Int × Mems) : Int := if domP d = 0 then firstE ((List.range d.2.2.2.length).map (memE d.2.2.2)) else domP d
theorem firstE_range {f : Nat → Int} {n i : Nat} (hi : i < n) (hz : ∀ k, k < i → f k = 0) (h : f i ≠ 0) : f i = firstE ((List.range n).map f) := by
  have e : List.range n = List.range i ++ (i :: (List.range' (i + 1) (n - i - 1))) := by
    apply List.ext_getElem
    · simp; omega
    intro k h1 h2; rw [List.getElem_append]; by_cases hk : k < i
    · simp [hk]
    simp only [List.length_range, hk, dite_false, List.getElem_range, List.getElem_cons]; by_cases h3 : k - i = 0
    · simp [h3]; omega
    simp [h3]; omega
  have h0 : firstE ((List.range i).map f) = 0 := firstE_zero.2 fun x hx => by
    obtain ⟨k, h1, rfl⟩ := List.mem_map.1 hx; exact hz k (List.mem_range.1 h1)
  rw [e, List.map_append, firstE_app, if_pos h0, List.map_cons, firstE]; simp [h]
theorem firstE_range0 {f : Nat → Int} {n : Nat} (hz : ∀ k, k < n → f k = 0) : 0 = firstE ((List.range n).map f) := (firstE_zero.2 fun x hx => by
  obtain ⟨k, h1, rfl⟩ := List.mem_map.1 hx
  exact hz k (List.mem_range.1 h1)).symm
theorem domP_len {d : Int × Int × Int × Mems} (h : domP d = 0) : d.2.2.2.length ≤ 16 ∧ d.2.2.2.length ≠ 0 := by
  unfold domP at h; rw [firstE_zero] at h; constructor
  · have := whenE_zero (by decide) (h _ (List.mem_cons_of_mem _ (List.mem_cons_of_mem _ (List.mem_cons_of_mem _ (List.mem_cons_of_mem _ List.mem_cons_self))))); omega
  have := whenE_zero (by decide) (h _ (List.mem_cons_of_mem _ (List.mem_cons_of_mem _ (List.mem_cons_of_mem _ List.mem_cons_self)))); omega
theorem sDom_ok {d : Int × Int × Int × (List (ByteArray × Int))} : VF Tryz.prog OA 37 [.v y34 d] (I (domE d)) := by
  refine VF.enter Tryz.func37 rfl (fun _ _ => rfl) rfl ?_; show VC _ _ _ _ _ [(0, .v y34 d)] [] _; refine VC.seq (VC.text ?_); refine VO.new (.box) ?_; refine VO.c (.assign rfl) ?_; refine VO.go (VC.seq (VC.seq (VC.drawn ?_))); refine VD.c (.fa (.l .o)) ?_; refine VD.r [] (.ld vt3) (.inl rfl) ?_; refine VD.call rfl rfl (VF.call (sWithin_ok )) ?_; refine VD.c (.fa (.r (.l .o))) ?_; refine VD.r [] (.ld vt3) (.inl rfl) ?_; refine VD.call rfl rfl (VF.call (sWithin_ok )) ?_; refine VD.nw [] (VD.c (.fa (.r (.r (.l .o)))) ?_); refine VD.r [] (.ld vt3) (.inl rfl) ?_; refine VD.call rfl rfl (VF.call (sWithin_ok )) ?_; refine VD.c (.fa (.r (.r (.r .o)))) ?_; refine VD.r [] (.ld vt32) (.inl rfl) ?_; refine VD.r [] (.len el32) (.inl rfl) ?_; refine VD.c (.eql) (VD.nw [] ?_); refine VD.call rfl rfl (VF.call (sWhen_ok )) ?_; refine VD.c (.fa (.r (.r (.r .o)))) ?_; refine VD.r [] (.ld vt32) (.inl rfl) ?_; refine VD.r [] (.len el32) (.inl rfl) ?_; refine VD.c (.gtr) ?_; refine VD.call rfl rfl (VF.call (sWhen_ok )) ?_; refine VD.new (.lit [rangeE d.1 (1 : Int) (8 : Int), rangeE d.2.1 (1 : Int) (8 : Int), rangeE d.2.2.1 (1 : Int) (96 : Int), whenE (decide (((d.2.2.2.length : Nat) : Int) = (0 : Int))) (12 : Int), whenE (decide ((16 : Int) < ((d.2.2.2.length : Nat) : Int))) (5 : Int)] el175) ?_; refine VD.nw [27] ?_; refine VD.callO rfl rfl (VF.call (sFirst_ok (by first | assumption | omega | simp))) ?_; refine VD.c (.assign rfl) ?_; refine VD.go (VC.seq (VC.text ?_)); refine VO.c (.move rfl) (VO.c (.neq) (VO.go ?_)); refine VC.condD rfl (fun c2 => ?_) (fun c2 => ?_)
  · have c2' : ¬ domP d = 0 := c2; refine VC.seq (VC.text ?_); refine VO.c (.move rfl) (VO.c (.assign rfl) (VO.go ?_)); refine VC.ret ?_; exact VEnd.one rfl evT (pvI (by rw [domE, if_neg c2'] <;> rfl))
  have c2' : domP d = 0 := by simpa [domP] using c2
  have hl := (domP_len c2').1; refine VC.skip (VC.seq (VC.text ?_)); refine VO.cell (.mkMap .str .bool) ?_; intro ww1; refine VO.c (.assign rfl) ?_; refine VO.go (VC.seq (VC.seq (VC.text ?_))); refine VO.c (.fa (.r (.r (.r .o)))) ?_; refine VO.r (.ld vt32) ?_; refine VO.r (.len el32) ?_; refine VO.c (.move rfl) ?_; refine VO.go (VC.block ?_); refine VC.keep [(4, .raw ww1), (34, .v y32 d.2.2.2), (35, I ((d.2.2.2.length : Nat) : Int)), (36, I ((0 : Nat) : Int))] ⟨rfl, rfl, rfl, rfl, trivial⟩ ?_; refine VC.loop (I := fun kk ff ss => ∃ (i : Nat), kk = d.2.2.2.length - i ∧ ff = [(4, .raw ww1), (34, .v y32 d.2.2.2), (35, I ((d.2.2.2.length : Nat) : Int)), (36, I ((i : Nat) : Int))] ∧ ss = [(ww1, .mp .str .bool (knownM d.2.2.2 i))] ∧ (i ≤ d.2.2.2.length) ∧ (∀ k, k < i → memE d.2.2.2 k = 0)) ?_ _ _ _ ⟨0, rfl, rfl, rfl, Nat.zero_le _, (by intro k hk; omega)⟩; rintro kk ff ss ⟨i, hk0, rfl, rfl, hi, hz⟩; refine VC.seq (VC.text ?_); refine VO.c (.lss) ?_; refine VO.go (VC.seq ?_); refine VC.condD rfl (fun c6 => ?_) (fun c6 => ?_)
  · refine VC.skip (VC.seq (VC.block (VC.seq (VC.text ?_)))); refine VO.c (.ix (j := i) rfl rfl el32 (by omega)) ?_; refine VO.r (.ld vt102) ?_; refine VO.cell (.alloc zt102) ?_; intro ww2; refine VO.setV (cs' := [St ((d.2.2.2[i]).1), I ((d.2.2.2[i]).2)]) vt102 .v ?_; refine VO.shut [(6, .p y102 (d.2.2.2[i]))] (.cons rfl (.var m0 .refl) .nil) ?_; refine VO.go (VC.seq (VC.seq (VC.drawn ?_))); refine VD.c (.fa (.l .o)) ?_; refine VD.r [] (.ld vt9) (.inl rfl) ?_; refine VD.call rfl rfl (VF.call (gName_ok )) ?_; refine VD.c (.not) ?_; refine VD.call rfl rfl (VF.call (sWhen_ok )) ?_; refine VD.c (.fa (.r .o)) (VD.nw [] ?_); refine VD.r [] (.ld vt3) (.inl rfl) ?_; refine VD.call rfl rfl (VF.call (sWithin_ok )) ?_; refine VD.c (.move rfl) (VD.c (.fa (.l .o)) ?_); refine VD.r [] (.ld vt9) (.inl rfl) ?_; refine VD.r [(ww1, .mp .str .bool (knownM d.2.2.2 i))] (.lookO mt176 m0) (.inr ⟨rfl, rfl⟩) ?_; refine VD.call rfl rfl (VF.call (sWhen_ok )) ?_; refine VD.nw [] ?_; refine VD.new (.lit [whenE (!(nameB ((d.2.2.2[i]).1))) (8 : Int), rangeE ((d.2.2.2[i]).2) (1 : Int) (1000 : Int), whenE ((mget (knownM d.2.2.2 i) ((d.2.2.2[i]).1)).getD false) (9 : Int)] el175) ?_; refine VD.callO rfl rfl (VF.call (sFirst_ok (by first | assumption | omega | simp))) ?_; refine VD.c (.assign rfl) ?_; refine VD.go (VC.seq (VC.text ?_)); refine VO.c (.move rfl) (VO.c (.neq) (VO.go ?_)); refine VC.condD rfl (fun c9 => ?_) (fun c9 => ?_)
    · have hm : ¬ memE d.2.2.2 i = 0 := by rw [← memX (by omega)]; exact c9
      refine VC.seq (VC.text ?_); refine VO.c (.move rfl) (VO.c (.assign rfl) (VO.go ?_)); refine VC.ret ?_; exact VEnd.one rfl evT (pvI (by rw [domE, if_pos c2', ← firstE_range (by omega) hz hm, ← memX (by omega)]))
    have hm : memE d.2.2.2 i = 0 := by rw [← memX (by omega)]; simpa using c9
    refine VC.skip (VC.text ?_); refine VO.c (.move rfl) (VO.c (.fa (.l .o)) ?_); refine VO.r (.ld vt9) ?_; refine VO.mput mt176 ?_; refine VO.nil (VC.text ?_); refine VO.c (.add rfl rfl (by omega)) (VO.c (.move rfl) ?_); refine VO.nil ?_; refine ⟨_, [(4, .raw ww1), (34, .v y32 d.2.2.2), (35, I ((d.2.2.2.length : Nat) : Int)), (36, I (((i + 1) : Nat) : Int))], ?_, ⟨rfl, rfl, rfl, rfl, trivial⟩, (i + 1), rfl, rfl, (by rw [knownM, nmE_eq]), (by omega), (by intro k hk; rcases Nat.lt_succ_iff_lt_or_eq.1 hk with h | h; exact hz k h; subst h; exact hm)⟩; omega
  refine VC.exit (VC.seq (VC.text ?_)); refine VO.c (.assign rfl) (VO.go ?_); refine VC.ret ?_; exact VEnd.one rfl evT (pvI (by rw [domE, if_pos c2']; exact firstE_range0 (fun k hk => hz k (by omega))))
theorem sMems_ok {d : Int × Int × Int × (List (ByteArray × Int))} (hl : d.2.2.2.length ≤ 16) : VF Tryz.prog OA 54 [.v y34 d] (.v y129 (idxM d.2.2.2 d.2.2.2.length)) := by
  refine VF.enter Tryz.func54 rfl (fun _ _ => rfl) rfl ?_; show VC _ _ _ _ _ [(0, .v y34 d)] [] _; refine VC.seq (VC.text ?_); refine VO.new (.box) ?_; refine VO.c (.assign rfl) ?_; refine VO.go (VC.seq (VC.text ?_)); refine VO.cell (.mkMap .str (.int .i64)) ?_; intro ww3; refine VO.c (.assign rfl) ?_; refine VO.go (VC.seq (VC.seq (VC.text ?_))); refine VO.c (.fa (.r (.r (.r .o)))) ?_; refine VO.r (.ld vt32) ?_; refine VO.r (.len el32) ?_; refine VO.c (.move rfl) ?_; refine VO.go (VC.block ?_); refine VC.keep [(3, .raw ww3), (8, .v y32 d.2.2.2), (9, I ((d.2.2.2.length : Nat) : Int)), (10, I ((0 : Nat) : Int))] ⟨rfl, rfl, rfl, rfl, trivial⟩ ?_; refine VC.loop (I := fun kk ff ss => ∃ (i : Nat), kk = d.2.2.2.length - i ∧ ff = [(3, .raw ww3), (8, .v y32 d.2.2.2), (9, I ((d.2.2.2.length : Nat) : Int)), (10, I ((i : Nat) : Int))] ∧ ss = [(ww3, .mp .str (.int .i64) (idxM d.2.2.2 i))] ∧ (i ≤ d.2.2.2.length)) ?_ _ _ _ ⟨0, rfl, rfl, rfl, Nat.zero_le _⟩; rintro kk ff ss ⟨i, hk0, rfl, rfl, hi⟩; refine VC.seq (VC.text ?_); refine VO.c (.lss) ?_; refine VO.go (VC.seq ?_); refine VC.condD rfl (fun c3 => ?_) (fun c3 => ?_)
  · refine VC.skip (VC.seq (VC.block (VC.seq (VC.text ?_)))); refine VO.c (.move rfl) (VO.c (.ix (j := i) rfl rfl el32 (by omega)) ?_); refine VO.r (.ld vt102) ?_; refine VO.cell (.alloc zt102) ?_; intro ww4; refine VO.c (.assign rfl) ?_; refine VO.setV (cs' := [St ((d.2.2.2[i]).1), I ((d.2.2.2[i]).2)]) vt102 .v ?_; refine VO.shut [(5, .p y102 (d.2.2.2[i]))] (.cons rfl (.var m0 .refl) .nil) ?_; refine VO.go (VC.text ?_); refine VO.c (.move rfl) (VO.c (.fa (.l .o)) ?_); refine VO.r (.ld vt9) ?_; refine VO.c (.move rfl) ?_; refine VO.mput mt129 ?_; refine VO.nil (VC.text ?_); refine VO.c (.add rfl rfl (by omega)) (VO.c (.move rfl) ?_); refine VO.nil ?_; refine ⟨_, [(3, .raw ww3), (8, .v y32 d.2.2.2), (9, I ((d.2.2.2.length : Nat) : Int)), (10, I (((i + 1) : Nat) : Int))], ?_, ⟨rfl, rfl, rfl, rfl, trivial⟩, (i + 1), rfl, rfl, (by rw [idxM, nmE_eq]), (by omega)⟩; omega
  refine VC.exit (VC.seq (VC.text ?_)); refine VO.c (.move rfl) (VO.c (.assign rfl) (VO.go ?_)); refine VC.ret ?_; exact VEnd.one rfl (evC (.mp m0)) (pvE (by rw [show i = d.2.2.2.length by omega]))
end Go.Proofs
namespace Go.Proofs
open Go.Fs Ieee
abbrev y24 : Ty := (.pair (.int .i64) (.pair (.int .i64) (.pair (.int .i64) (.sl (.pair .str (.int .i64))))))
theorem vt22 : ValT Tryz.prog 22 (.sl (.pair .str (.int .i64))) := valT_of (by kernel_rfl)
theorem el22 : ElT Tryz.prog 22 50 (.pair .str (.int .i64)) := elT_of (by kernel_rfl)
theorem mem_pre {l : Mems} {i : Nat} (h : i < l.length) : memE l i = if firstE [whenE (!nameB l[i].1) 8, rangeE l[i].2 1 1000] = 0 then whenE ((mget (knownM l i) (nmE l i)).getD false) 9 else firstE [whenE (!nameB l[i].1) 8, rangeE l[i].2 1 1000] := by
  have e : memE l i = firstE ([whenE (!nameB l[i].1) 8, rangeE l[i].2 1 1000] ++ [whenE ((mget (knownM l i) (nmE l i)).getD false) 9]) := by rw [nmE_eq h, wgtE_eq h] <;> rfl
  rw [e, firstE_app, firstE_one]
theorem mem_nine {l : Mems} {i k : Nat} (h : i < l.length) (hk : k < i) (h0 : firstE [whenE (!nameB l[i].1) 8, rangeE l[i].2 1 1000] = 0) (e : l[k].1 = l[i].1) : memE l i = 9 := by
  rw [mem_pre h, if_pos h0, (known_iff i).2 ⟨k, hk, by rw [← nmE_eq (by omega), ← nmE_eq h]; exact e⟩] <;> rfl
theorem mem_zero {l : Mems} {i : Nat} (h : i < l.length) (h0 : firstE [whenE (!nameB l[i].1) 8, rangeE l[i].2 1 1000] = 0) (e : ∀ k (hk : k < i), ¬ l[k].1 = l[i].1) : memE l i = 0 := by
  rw [mem_pre h, if_pos h0]
  cases hb : (mget (knownM l i) (nmE l i)).getD false with
  | false => rfl
  | true =>
    obtain ⟨k, hk, h2⟩ := (known_iff i).1 hb; rw [← nmE_eq (by omega), ← nmE_eq h] at h2; exact absurd h2 (e k hk)
theorem domP_pre {d : Int × Int × Int × Mems} : domP d = if firstE [rangeE d.1 1 8, rangeE d.2.1 1 8, rangeE d.2.2.1 1 96] = 0 then (if (d.2.2.2.length : Int) = 0 then 12 else if (16 : Int) < d.2.2.2.length then 5 else 0) else firstE [rangeE d.1 1 8, rangeE d.2.1 1 8, rangeE d.2.2.1 1 96] := by
  have e : domP d = firstE ([rangeE d.1 1 8, rangeE d.2.1 1 8, rangeE d.2.2.1 1 96] ++ [whenE (decide ((d.2.2.2.length : Int) = 0)) 12, whenE (decide ((16 : Int) < d.2.2.2.length)) 5]) := rfl; rw [e, firstE_app]; congr 1; by_cases h1 : (d.2.2.2.length : Int) = 0
  · rw [whenE_t h1, if_pos h1] <;> rfl
  rw [whenE_f h1, if_neg h1]; by_cases h2 : (16 : Int) < d.2.2.2.length
  · rw [whenE_t h2, if_pos h2] <;> rfl
  rw [whenE_f h2, if_neg h2] <;> rfl
theorem rDom_ok {d : Int × Int × Int × (List (ByteArray × Int))} : VF Tryz.prog OA 42 [.v y24 d] (I (domE d)) := by
  refine VF.enter Tryz.func42 rfl (fun _ _ => rfl) rfl ?_; show VC _ _ _ _ _ [(0, .v y24 d)] [] _; refine VC.seq (VC.text ?_); refine VO.new (.box) ?_; refine VO.c (.assign rfl) ?_; refine VO.go (VC.seq (VC.seq (VC.drawn ?_))); refine VD.c (.fa (.l .o)) ?_; refine VD.r [] (.ld vt3) (.inl rfl) ?_; refine VD.call rfl rfl (VF.call (rCheckRange_ok )) ?_; refine VD.c (.fa (.r (.l .o))) ?_; refine VD.r [] (.ld vt3) (.inl rfl) ?_; refine VD.call rfl rfl (VF.call (rCheckRange_ok )) ?_; refine VD.nw [] (VD.c (.fa (.r (.r (.l .o)))) ?_); refine VD.r [] (.ld vt3) (.inl rfl) ?_; refine VD.call rfl rfl (VF.call (rCheckRange_ok )) ?_; refine VD.new (.lit [rangeE d.1 (1 : Int) (8 : Int), rangeE d.2.1 (1 : Int) (8 : Int), rangeE d.2.2.1 (1 : Int) (96 : Int)] el68) ?_; refine VD.callO rfl rfl (VF.call (rFirst_ok (by first | assumption | omega | simp))) ?_; refine VD.c (.assign rfl) ?_; refine VD.go (VC.seq (VC.text ?_)); refine VO.c (.move rfl) (VO.c (.neq) (VO.go ?_)); refine VC.condD rfl (fun c2 => ?_) (fun c2 => ?_)
  · have hp : domP d ≠ 0 := by rw [domP_pre, if_neg c2]; exact c2
    refine VC.seq (VC.text ?_); refine VO.c (.move rfl) (VO.c (.assign rfl) (VO.go ?_)); refine VC.ret ?_; exact VEnd.one rfl evT (pvI (by rw [domE, if_neg hp, domP_pre, if_neg c2]))
  have c2' : firstE [rangeE d.1 1 8, rangeE d.2.1 1 8, rangeE d.2.2.1 1 96] = 0 := by simpa using c2
  refine VC.skip (VC.seq (VC.seq (VC.text ?_))); refine VO.c (.fa (.r (.r (.r .o)))) ?_; refine VO.r (.ld vt22) ?_; refine VO.r (.len el22) ?_; refine VO.c (.eql) (VO.go ?_); refine VC.condD rfl (fun c4 => ?_) (fun c4 => ?_)
  · refine VC.seq (VC.text ?_); refine VO.c (.assign rfl) (VO.go ?_); refine VC.ret ?_; exact VEnd.one rfl evT (pvI (by rw [domE, domP_pre, if_pos c2', if_pos c4] <;> rfl))
  refine VC.skip (VC.seq (VC.seq (VC.text ?_))); refine VO.c (.fa (.r (.r (.r .o)))) ?_; refine VO.r (.ld vt22) ?_; refine VO.r (.len el22) ?_; refine VO.c (.gtr) (VO.go ?_); refine VC.condD rfl (fun c6 => ?_) (fun c6 => ?_)
  · refine VC.seq (VC.text ?_); refine VO.c (.assign rfl) (VO.go ?_); refine VC.ret ?_; exact VEnd.one rfl evT (pvI (by rw [domE, domP_pre, if_pos c2', if_neg c4, if_pos c6] <;> rfl))
  have hl : d.2.2.2.length ≤ 16 := by omega
  have hp : domP d = 0 := by rw [domP_pre, if_pos c2', if_neg c4, if_neg c6]
  refine VC.skip (VC.seq (VC.seq (VC.text ?_))); refine VO.c (.assign rfl) ?_; refine VO.go (VC.block ?_); refine VC.keep [(1, .p y24 d), (4, I ((0 : Nat) : Int))] ⟨rfl, rfl, trivial⟩ ?_; refine VC.loop (I := fun kk ff ss => ∃ (i : Nat), kk = d.2.2.2.length - i ∧ ff = [(1, .p y24 d), (4, I ((i : Nat) : Int))] ∧ ss = [] ∧ (i ≤ d.2.2.2.length) ∧ (∀ k, k < i → memE d.2.2.2 k = 0)) ?_ _ _ _ ⟨0, rfl, rfl, rfl, Nat.zero_le _, (by intro k hk; omega)⟩; rintro kk ff ss ⟨i, hk0, rfl, rfl, hi, hz⟩; refine VC.seq (VC.seq (VC.text ?_)); refine VO.c (.move rfl) (VO.c (.fa (.r (.r (.r .o)))) ?_); refine VO.r (.ld vt22) ?_; refine VO.r (.len el22) ?_; refine VO.c (.lss) (VO.go ?_); refine VC.condD rfl (fun c9 => ?_) (fun c9 => ?_)
  · have hi' : i < d.2.2.2.length := by omega
    refine VC.skip (VC.seq (VC.block (VC.seq (VC.seq (VC.drawn ?_))))); refine VD.c (.fa (.r (.r (.r .o)))) ?_; refine VD.r [] (.ld vt22) (.inl rfl) ?_; refine VD.c (.move rfl) (VD.c (.ix (j := i) rfl rfl el22 (by omega)) (VD.c (.fa (.l .o)) ?_)); refine VD.r [] (.ld vt9) (.inl rfl) ?_; refine VD.nw [] ?_; refine VD.call rfl rfl (VF.call (rNameE_ok )) ?_; refine VD.c (.fa (.r (.r (.r .o)))) ?_; refine VD.r [] (.ld vt22) (.inl rfl) ?_; refine VD.c (.move rfl) (VD.c (.ix (j := i) rfl rfl el22 (by omega)) (VD.c (.fa (.r .o)) ?_)); refine VD.r [] (.ld vt3) (.inl rfl) ?_; refine VD.nw [] ?_; refine VD.call rfl rfl (VF.call (rCheckRange_ok )) ?_; refine VD.new (.lit [whenE (!nameB ((d.2.2.2[i]).1)) 8, rangeE ((d.2.2.2[i]).2) (1 : Int) (1000 : Int)] el68) ?_; refine VD.callO rfl rfl (VF.call (rFirst_ok (by first | assumption | omega | simp))) ?_; refine VD.c (.assign rfl) ?_; refine VD.go (VC.seq (VC.text ?_)); refine VO.c (.move rfl) (VO.c (.neq) (VO.go ?_)); refine VC.condD rfl (fun c12 => ?_) (fun c12 => ?_)
    · have hm : memE d.2.2.2 i ≠ 0 := by rw [mem_pre hi', if_neg c12]; exact c12
      refine VC.seq (VC.text ?_); refine VO.c (.move rfl) (VO.c (.assign rfl) (VO.go ?_)); refine VC.ret ?_; exact VEnd.one rfl evT (pvI (by rw [domE, if_pos hp, ← firstE_range hi' hz hm, mem_pre hi', if_neg c12]))
    have c12' : firstE [whenE (!nameB d.2.2.2[i].1) 8, rangeE d.2.2.2[i].2 1 1000] = 0 := by simpa using c12
    refine VC.skip (VC.seq (VC.text ?_)); refine VO.c (.assign rfl) ?_; refine VO.go (VC.block ?_); refine VC.keep [(1, .p y24 d), (4, I ((i : Nat) : Int)), (6, I ((0 : Nat) : Int))] ⟨rfl, rfl, rfl, trivial⟩ ?_; refine VC.loop (I := fun kk ff ss => ∃ (k : Nat), kk = i - k ∧ ff = [(1, .p y24 d), (4, I ((i : Nat) : Int)), (6, I ((k : Nat) : Int))] ∧ ss = [] ∧ (k ≤ i) ∧ (∀ j (hj : j < k) (hj' : j < d.2.2.2.length), ¬ d.2.2.2[j].1 = d.2.2.2[i].1)) ?_ _ _ _ ⟨0, rfl, rfl, rfl, Nat.zero_le _, (by intro j hj; omega)⟩; rintro kk ff ss ⟨k, hk2, rfl, rfl, hk, hn⟩; refine VC.seq (VC.seq (VC.text ?_)); refine VO.c (.move rfl) (VO.c (.move rfl) (VO.c (.lss) (VO.go ?_))); refine VC.condD rfl (fun c15 => ?_) (fun c15 => ?_)
    · refine VC.skip (VC.seq (VC.block (VC.seq (VC.drawn ?_)))); refine VD.c (.fa (.r (.r (.r .o)))) ?_; refine VD.r [] (.ld vt22) (.inl rfl) ?_; refine VD.c (.move rfl) (VD.c (.ix (j := k) rfl rfl el22 (by omega)) (VD.c (.fa (.l .o)) ?_)); refine VD.r [] (.ld vt9) (.inl rfl) ?_; refine VD.nw [] (VD.c (.fa (.r (.r (.r .o)))) ?_); refine VD.r [] (.ld vt22) (.inl rfl) ?_; refine VD.c (.move rfl) (VD.c (.ix (j := i) rfl rfl el22 (by omega)) (VD.c (.fa (.l .o)) ?_)); refine VD.r [] (.ld vt9) (.inl rfl) ?_; refine VD.c (.seql) (VD.go ?_); refine VC.condD rfl (fun c17 => ?_) (fun c17 => ?_)
      · have hm := mem_nine hi' (show k < i by omega) c12' c17; refine VC.seq (VC.text ?_); refine VO.c (.assign rfl) (VO.go ?_); refine VC.ret ?_; exact VEnd.one rfl evT (pvI (by rw [domE, if_pos hp, ← firstE_range hi' hz (by rw [hm]; decide), hm]))
      refine VC.skip (VC.text ?_); refine VO.c (.move rfl) (VO.c (.add rfl rfl (by omega)) (VO.c (.assign rfl) ?_)); refine VO.nil ?_; refine ⟨_, [(1, .p y24 d), (4, I ((i : Nat) : Int)), (6, I (((k + 1) : Nat) : Int))], ?_, ⟨rfl, rfl, rfl, trivial⟩, (k + 1), rfl, rfl, rfl, (by omega), (by intro j hj hj'; rcases Nat.lt_succ_iff_lt_or_eq.1 hj with h | h; exact hn j h hj'; subst h; exact c17)⟩; omega
    refine VC.exit (VC.text ?_); refine VO.c (.move rfl) (VO.c (.add rfl rfl (by omega)) (VO.c (.assign rfl) ?_)); refine VO.nil ?_; refine ⟨_, [(1, .p y24 d), (4, I (((i + 1) : Nat) : Int))], ?_, ⟨rfl, rfl, trivial⟩, (i + 1), rfl, rfl, rfl, (by omega), (by intro k hk; rcases Nat.lt_succ_iff_lt_or_eq.1 hk with h | h; exact hz k h; subst h; exact mem_zero (by omega) c12' (fun j hj => hn j (by omega) (by omega)))⟩; omega
  refine VC.exit (VC.seq (VC.text ?_)); refine VO.c (.assign rfl) (VO.go ?_); refine VC.ret ?_; exact VEnd.one rfl evT (pvI (by rw [domE, if_pos hp]; exact firstE_range0 (fun k hk => hz k (by omega))))
def memAt (l : Mems) (x : ByteArray) : Int := if l.findIdx (fun m => decide (m.1 = x)) < l.length then (l.findIdx (fun m => decide (m.1 = x)) : Nat) else -1
theorem memAt_some {l : Mems} {x : ByteArray} {i : Nat} (h : i < l.length) (he : l[i].1 = x) (hn : ∀ k (hk : k < i), ¬ l[k].1 = x) : ((i : Nat) : Int) = memAt l x := by
  have e : l.findIdx (fun m => decide (m.1 = x)) = i := (List.findIdx_eq h).2 ⟨decide_eq_true he, fun j hj => decide_eq_false (hn j hj)⟩; rw [memAt, e, if_pos h]
theorem memAt_none {l : Mems} {x : ByteArray} (hn : ∀ k (hk : k < l.length), ¬ l[k].1 = x) : -1 = memAt l x := by
  have e : l.findIdx (fun m => decide (m.1 = x)) = l.length := List.findIdx_eq_length.2 fun m hm => by
    obtain ⟨k, hk, rfl⟩ := List.getElem_of_mem hm; exact decide_eq_false (hn k hk)
  rw [memAt, e, if_neg (by omega)]
theorem rMemAt_ok {d : Int × Int × Int × (List (ByteArray × Int))} {x : ByteArray} (hl : d.2.2.2.length ≤ 16) : VF Tryz.prog OA 103 [.v y24 d, St x] (I (memAt d.2.2.2 x)) := by
  refine VF.enter Tryz.func103 rfl (fun _ _ => rfl) rfl ?_; show VC _ _ _ _ _ [(0, .v y24 d), (1, St x)] [] _; refine VC.seq (VC.text ?_); refine VO.new (.box) ?_; refine VO.c (.assign rfl) ?_; refine VO.go (VC.seq (VC.seq (VC.text ?_))); refine VO.c (.assign rfl) ?_; refine VO.go (VC.block ?_); refine VC.keep [(1, St x), (2, .p y24 d), (5, I ((0 : Nat) : Int))] ⟨rfl, rfl, rfl, trivial⟩ ?_; refine VC.loop (I := fun kk ff ss => ∃ (i : Nat), kk = d.2.2.2.length - i ∧ ff = [(1, St x), (2, .p y24 d), (5, I ((i : Nat) : Int))] ∧ ss = [] ∧ (i ≤ d.2.2.2.length) ∧ (∀ j (hj : j < i) (hj' : j < d.2.2.2.length), ¬ d.2.2.2[j].1 = x)) ?_ _ _ _ ⟨0, rfl, rfl, rfl, Nat.zero_le _, (by intro j hj; omega)⟩; rintro kk ff ss ⟨i, hk0, rfl, rfl, hi, hn⟩; refine VC.seq (VC.seq (VC.text ?_)); refine VO.c (.move rfl) (VO.c (.fa (.r (.r (.r .o)))) ?_); refine VO.r (.ld vt22) ?_; refine VO.r (.len el22) ?_; refine VO.c (.lss) (VO.go ?_); refine VC.condD rfl (fun c2 => ?_) (fun c2 => ?_)
  · refine VC.skip (VC.seq (VC.block (VC.seq (VC.text ?_)))); refine VO.c (.fa (.r (.r (.r .o)))) ?_; refine VO.r (.ld vt22) ?_; refine VO.c (.move rfl) (VO.c (.ix (j := i) rfl rfl el22 (by omega)) (VO.c (.fa (.l .o)) ?_)); refine VO.r (.ld vt9) ?_; refine VO.c (.move rfl) (VO.c (.seql) (VO.go ?_)); refine VC.condD rfl (fun c4 => ?_) (fun c4 => ?_)
    · refine VC.seq (VC.text ?_); refine VO.c (.move rfl) (VO.c (.assign rfl) (VO.go ?_)); refine VC.ret ?_; exact VEnd.one rfl evT (pvI (by exact memAt_some (by omega) c4 (fun k hk => hn k hk (by omega))))
    refine VC.skip (VC.text ?_); refine VO.c (.move rfl) (VO.c (.add rfl rfl (by omega)) (VO.c (.assign rfl) ?_)); refine VO.nil ?_; refine ⟨_, [(1, St x), (2, .p y24 d), (5, I (((i + 1) : Nat) : Int))], ?_, ⟨rfl, rfl, rfl, trivial⟩, (i + 1), rfl, rfl, rfl, (by omega), (by intro j hj hj'; rcases Nat.lt_succ_iff_lt_or_eq.1 hj with h | h; exact hn j h hj'; subst h; exact c4)⟩; omega
  refine VC.exit (VC.seq (VC.text ?_)); refine VO.c (.assign rfl) (VO.go ?_); refine VC.ret ?_; exact VEnd.one rfl evT (pvI (by exact memAt_none (fun k hk => hn k (by omega) hk)))
end Go.Proofs
